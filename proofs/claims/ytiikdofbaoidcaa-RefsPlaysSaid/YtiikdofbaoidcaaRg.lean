import Derived.Test.YtiikdofbaoidcaaMq
import Derived.Test.YtiikdofbaoidcaaKr
namespace Go.Proofs.Ytiikdofbaoidcaa
namespace Rg
open Go Go.Proofs.Ytiikdofbaoidcaa.Hp Mp Mq Kr
open Go.ChangeMaps (setBlock)
set_option maxRecDepth 10000
set_option linter.unusedVariables false
set_option linter.unusedSimpArgs false
/-- a map and a range over it under way: these keys have come; the last one, with its value -/
def rng {α : Type} (enc : α → Value) (b r : Nat) (D : List (α × Value)) (ss : List α) (cur : Option (α × Value)) : Assn := fun m =>
  ∃ es clock since seen c0, m b = some (.map es clock) ∧ Ents enc es clock D ∧ m r = some (.mapIter (some b) since seen c0) ∧ (∀ x ∈ es.toList, x.born < since) ∧ since ≤ c0 ∧ since ≤ clock ∧
    ((es.toList.filter fun x => seen.contains x.born).map (·.key)).Perm (ss.map enc) ∧ (∀ x v, cur = some (x, v) → ∃ e ∈ es.toList, ∃ s0 : Array Nat, seen = s0.push e.born ∧ c0 = clock ∧ e.key = enc x ∧ e.val = v)
theorem rng_end {α : Type} {enc : α → Value} {b r : Nat} {D : List (α × Value)} {ss : List α} {cur : Option (α × Value)} : ∀ m, star [rng enc b r D ss cur] m → mp enc b D m := fun m ⟨f, g, hsp, ⟨es, clock, since, seen, c0, h1, hE, _⟩, _⟩ => ⟨es, clock, hsp.left h1, hE⟩
section
variable {P : Program} {E : World} {Q : Exit → Act → World → Prop} {n : Nat} {l : Fr} {L : List Assn} {ops : Array Oper} {K : Act → World → Prop} {d : Tmp} {ty : TypeId} {pos : String} {aft : Array Edge}
variable {kt t e : TypeId} {α : Type} {enc : α → Value} {D : List (α × Value)} {b r : Nat} {M : List Assn} {x : Operand} {ss : List α} {cur : Option (α × Value)}
theorem jo_range (ht : P.underlying t = some (.map kt e)) (i : Nat) (hx : ev l x = some (.map (some b))) (hL : sel [i] L = [mp enc b D] ∧ rem [i] L = M) (hd : Nat.blt d n = true)
    (h : ∀ r, J E K n ((d, .pointer (some ⟨r, 0, none⟩)) :: l) (rng enc b r D [] none :: M)) : J E (wpO P ops Q ⟨some d, .range t x, ty, pos, aft, none⟩ K) n l L := by
  refine jo_run rfl fun act w hf hs => ?_
  have hs1 := hs.sel [i]
  rw [hL.1, hL.2] at hs1
  obtain ⟨f, g, hsp, ⟨es, clock, hm, hE⟩, hM⟩ := hs1.heap
  have hb := hsp.left hm
  have hrun := run_range_map (P := P) w t kt e b es clock ht hb
  have hblt := (Array.getElem?_eq_some_iff.1 hb).1
  refine ⟨.pointer (some ⟨w.heap.size, 0, none⟩), w.alloc (.mapIter (some b) clock #[] clock), by simp [execOp, hf.ev hx, hrun], jx (h w.heap.size) _ _ (hf.put (Nat.le_of_ble_eq_true hd) _) ?_⟩
  refine ⟨hs1.os, hs1.tape, hs1.output, fun k => if k = w.heap.size then some (.mapIter (some b) clock #[] clock) else f k, g, fun k => ?_, ⟨es, clock, clock, #[], clock, ?_, hE, ?_, hE.1.1, Nat.le_refl _, Nat.le_refl _, by simp, fun x v hh => by cases hh⟩, hM⟩
  · by_cases hk : k = w.heap.size
    · subst hk
      refine .inl ⟨?_, hsp.none_right (by simp)⟩
      simp only [if_true]
      exact (MapKept.heap_alloc w _).1.symm
    · simp only [hk, if_false]
      have e1 : (w.alloc (.mapIter (some b) clock #[] clock)).heap[k]? = w.heap[k]? := by
        by_cases hlt : k < w.heap.size
        · exact (MapKept.heap_alloc w _).2 k hlt
        · rw [Array.getElem?_eq_none (by simp; omega), Array.getElem?_eq_none (by omega)]
      rw [e1]
      exact hsp k
  · show (if b = w.heap.size then _ else f b) = _
    rw [if_neg (by omega)]
    exact hm
  · show (if w.heap.size = w.heap.size then _ else _) = _
    rw [if_pos rfl]
theorem jo_next (Kk : KO P kt enc) (i : Nat) (hx : ev l x = some (.pointer (some ⟨r, 0, none⟩))) (hL : sel [i] L = [rng enc b r D ss cur] ∧ rem [i] L = M) (hd : Nat.blt d n = true)
    (h0 : ss.Perm (D.map (·.1)) → J E K n ((d, .tuple #[.bool false]) :: l) (rng enc b r D ss cur :: M))
    (h1 : ∀ x v, (x, v) ∈ D → ss.length < D.length → J E K n ((d, .tuple #[.bool true, enc x, v]) :: l) (rng enc b r D (ss ++ [x]) (some (x, v)) :: M)) : J E (wpO P ops Q ⟨some d, .next x false, ty, pos, aft, none⟩ K) n l L := by
  refine jo_run rfl fun act w hf hs => ?_
  have hs1 := hs.sel [i]
  rw [hL.1, hL.2] at hs1
  obtain ⟨f, g, hsp, ⟨es, clock, since, seen, c0, hmb, hE, hmr, hold, hsc, hsk, hss, hcur⟩, hM⟩ := hs1.heap
  have hb := hsp.left hmb
  have hr := hsp.left hmr
  have hne : r ≠ b := fun e => by rw [e, hb] at hr; cases hr
  have hrg : Rgs enc w b r D ss := ⟨es, clock, since, seen, c0, hb, hE, hr, hold, hsc, hsk, hss⟩
  rcases run_next_at (P := P) w ty r b since c0 seen es clock hr hb hold hsc with ⟨hz, hrun⟩ | ⟨y, hy, w1, hal, hrun⟩
  · rcases rgs_next Kk hrg ty with ⟨hp, _⟩ | ⟨x', v', w', hrun', _⟩
    · exact ⟨.tuple #[.bool false], w, by simp [execOp, hf.ev hx, hrun], jx (h0 hp) _ _ (hf.put (Nat.le_of_ble_eq_true hd) _) hs1⟩
    · rw [hrun] at hrun'
      cases hrun'
  · obtain ⟨hem, hes⟩ := mem_left hy
    obtain ⟨a, ha⟩ := hE.keys y hem
    have hlt : ss.length < D.length := by
      rcases rgs_next Kk hrg ty with ⟨_, hrun'⟩ | ⟨_, _, _, _, _, _, _, h9, _⟩
      · rw [hrun] at hrun'
        cases hrun'
      · exact h9
    have hn := ents_nd hE
    have hstep : (es.toList.filter fun z => (seen.push y.born).contains z.born).Perm (y :: es.toList.filter fun z => seen.contains z.born) := by
      refine (List.perm_ext_iff_of_nodup (hn.sublist List.filter_sublist) (List.nodup_cons.2 ⟨fun hm => ?_, hn.sublist List.filter_sublist⟩)).2 fun z => ?_
      · have := (List.mem_filter.1 hm).2
        rw [hes] at this
        cases this
      · rw [List.mem_cons, List.mem_filter, List.mem_filter, contains_push, Bool.or_eq_true]
        constructor
        · rintro ⟨h1, h2 | h2⟩
          · exact .inr ⟨h1, h2⟩
          · exact .inl (born_inj ((MapKept.stamped_iff es clock).1 hE.1).2.1 h1 hem (by simpa using h2))
        · rintro (rfl | ⟨h1, h2⟩)
          · exact ⟨hem, .inr (by simp)⟩
          · exact ⟨h1, .inl h2⟩
    rw [ha] at hrun
    refine ⟨.tuple #[.bool true, enc a, y.val], setBlock w1 r (.mapIter (some b) since (seen.push y.born) clock), by simp [execOp, hf.ev hx, hrun], jx (h1 a y.val (hE.on Kk hem ha) hlt) _ _ (hf.put (Nat.le_of_ble_eq_true hd) _) ?_⟩
    have hr1 : w1.heap[r]? = some (.mapIter (some b) since seen c0) := by rcases hal with rfl | rfl <;> exact hr
    have hset := MapKept.heap_set (o' := .mapIter (some b) since (seen.push y.born) clock) hr1
    have hw1 : w1.heap = w.heap := by rcases hal with rfl | rfl <;> rfl
    refine ⟨by rcases hal with rfl | rfl <;> exact hs1.os, by rcases hal with rfl | rfl <;> exact hs1.tape, by rcases hal with rfl | rfl <;> exact hs1.output, fun k => if k = r then some (.mapIter (some b) since (seen.push y.born) clock) else f k, g, fun k => ?_,
      ⟨es, clock, since, seen.push y.born, clock, ?_, hE, ?_, hold, hsk, hsk, ?_, fun x v hh => ?_⟩, hM⟩
    · by_cases hk : k = r
      · subst hk
        refine .inl ⟨?_, ?_⟩
        · simp only [if_true]
          exact hset.1.symm
        · rcases hsp k with ⟨_, h4⟩ | ⟨h4, _⟩
          · exact h4
          · rw [hmr] at h4; cases h4
      · simp only [hk, if_false]
        have e1 : (setBlock w1 r (.mapIter (some b) since (seen.push y.born) clock)).heap[k]? = w.heap[k]? := by rw [← hw1]; exact hset.2 k hk
        rw [e1]
        exact hsp k
    · show (if b = r then _ else f b) = _
      rw [if_neg (fun e => hne e.symm)]
      exact hmb
    · show (if r = r then _ else _) = _
      rw [if_pos rfl]
    · rw [List.map_append]
      refine (hstep.map _).trans ?_
      rw [List.map_cons, ha]
      exact (hss.cons _).trans (List.perm_append_singleton _ _).symm
    · cases hh
      exact ⟨y, hem, seen, rfl, rfl, ha, rfl⟩
theorem jo_entry {a : α} {v : Value} (i : Nat) (hx : ev l x = some (.pointer (some ⟨r, 0, none⟩))) (hL : sel [i] L = [rng enc b r D ss (some (a, v))]) (hd : Nat.blt d n = true)
    (h : J E K n ((d, .tuple #[enc a, v]) :: l) L) : J E (wpO P ops Q ⟨some d, .entry x, ty, pos, aft, none⟩ K) n l L := by
  refine jo_run rfl fun act w hf hs => ?_
  have hs1 := hs.sel [i]
  rw [hL] at hs1
  obtain ⟨f, g, hsp, ⟨es, clock, since, seen, c0, hmb, hE, hmr, hold, hsc, hsk, hss, hcur⟩, hM⟩ := hs1.heap
  obtain ⟨y, hem, s0, rfl, rfl, hk, rfl⟩ := hcur a v rfl
  have hrun := run_entry_at (P := P) w r b since s0 es _ y (hsp.left hmr) (hsp.left hmb) hem ((MapKept.stamped_iff es _).1 hE.1).2.1
  rw [hk] at hrun
  exact ⟨_, w, by simp [execOp, hf.ev hx, hrun], jx h _ _ (hf.put (Nat.le_of_ble_eq_true hd) _) hs⟩
end
end Rg
end Go.Proofs.Ytiikdofbaoidcaa
