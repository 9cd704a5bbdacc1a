import Derived.Test.YtiikdofbaoidcaaRs
import Derived.Maps.RangeWalk
import Derived.Maps.Range
import Derived.OwnWalkIn
namespace Go.Proofs.Ytiikdofbaoidcaa
namespace Kr
open Go Go.Proofs.Ytiikdofbaoidcaa.Hp Mp Mq
open Go.ChangeMaps (setBlock)
set_option maxRecDepth 10000
set_option linter.unusedVariables false
set_option linter.unusedSimpArgs false
/-- a range over a map under way: these keys have come -/
def Rgs {α : Type} (enc : α → Value) (w : World) (b r : Nat) (D : List (α × Value)) (ss : List α) : Prop :=
  ∃ es clock since seen c0, w.heap[b]? = some (.map es clock) ∧ Ents enc es clock D ∧ w.heap[r]? = some (.mapIter (some b) since seen c0) ∧ (∀ x ∈ es.toList, x.born < since) ∧ since ≤ c0 ∧ since ≤ clock ∧
    ((es.toList.filter fun x => seen.contains x.born).map (·.key)).Perm (ss.map enc)
section
variable {P : Program} {kt t e : TypeId} {α : Type} {enc : α → Value} {es : Array MapEntry} {clock : Nat} {D : List (α × Value)} {w : World} {b r : Nat} {ss : List α}
theorem ents_nd (h : Ents enc es clock D) : es.toList.Nodup := ((MapKept.stamped_iff es clock).1 h.1).2.2.imp fun hne e => hne (by rw [e])
theorem perm_enc (K : KO P kt enc) {l l' : List α} (h1 : l.Nodup) (h2 : l'.Nodup) (h : (l.map enc).Perm (l'.map enc)) : l.Perm l' :=
  (List.perm_ext_iff_of_nodup h1 h2).2 fun a => by
    have h3 := h.mem_iff (a := enc a)
    rw [List.mem_map, List.mem_map] at h3
    constructor
    · intro ha
      obtain ⟨y, hy, e⟩ := h3.1 ⟨a, ha, rfl⟩
      rw [← K.inj e]; exact hy
    · intro ha
      obtain ⟨y, hy, e⟩ := h3.2 ⟨a, ha, rfl⟩
      rw [← K.inj e]; exact hy
theorem nodup_enc {l : List α} (h : (l.map enc).Nodup) : l.Nodup := by
  rw [List.Nodup, List.pairwise_map] at h
  exact h.imp fun hne e => hne (congrArg enc e)
theorem keys_nd (h : Ents enc es clock D) : (es.toList.map (·.key)).Nodup := by
  rw [List.Nodup, List.pairwise_map]
  exact ((MapKept.stamped_iff es clock).1 h.1).2.2
theorem rgs_start (hb : w.heap[b]? = some (.map es clock)) (hE : Ents enc es clock D) : Rgs enc (w.alloc (.mapIter (some b) clock #[] clock)) b w.heap.size D [] :=
  ⟨es, clock, clock, #[], clock, ((MapKept.heap_alloc w _).2 b (Array.getElem?_eq_some_iff.1 hb).1).trans hb, hE, (MapKept.heap_alloc w _).1, hE.1.1, Nat.le_refl _, Nat.le_refl _, by simp⟩
theorem rgs_next (K : KO P kt enc) (h : Rgs enc w b r D ss) (ty : TypeId) :
    (ss.Perm (D.map (·.1)) ∧ (Instr.next (.pointer (some ⟨r, 0, none⟩)) false ty).run P w = .ok (.tuple #[.bool false]) w) ∨
    ∃ x v w', (Instr.next (.pointer (some ⟨r, 0, none⟩)) false ty).run P w = .ok (.tuple #[.bool true, enc x, v]) w' ∧ Rgs enc w' b r D (ss ++ [x]) ∧ w.grownBy w' (some r) ∧ w'.heap.size = w.heap.size ∧ ss.length < D.length ∧ (Instr.entry (.pointer (some ⟨r, 0, none⟩))).run P w' = .ok (.tuple #[enc x, v]) w' := by
  obtain ⟨es, clock, since, seen, c0, hb, hE, hr, hold, hsc, hsk, hss⟩ := h
  have hne : r ≠ b := fun e => by rw [e, hb] at hr; cases hr
  have hnss : ss.Nodup := nodup_enc ((hss.nodup_iff).1 ((keys_nd hE).sublist ((List.filter_sublist).map _)))
  rcases run_next_at (P := P) w ty r b since c0 seen es clock hr hb hold hsc with ⟨h0, hrun⟩ | ⟨x, hx, w1, hal, hrun⟩
  · refine .inl ⟨?_, hrun⟩
    have e1 : (es.toList.filter fun x => seen.contains x.born) = es.toList := List.filter_eq_self.2 fun x hx => all_seen es seen h0 x hx
    rw [e1] at hss
    have h2 : (es.toList.map (·.key)).Perm ((D.map (·.1)).map enc) := by
      have := hE.2.map (·.1)
      rw [List.map_map, List.map_map] at this
      rw [List.map_map]
      exact this
    exact perm_enc K hnss (ents_nodup hE) (hss.symm.trans h2)
  · obtain ⟨hem, hes⟩ := mem_left hx
    obtain ⟨a, ha⟩ := hE.keys x hem
    have hr1 : w1.heap[r]? = some (.mapIter (some b) since seen c0) := by rcases hal with rfl | rfl <;> exact hr
    have hb1 : w1.heap[b]? = some (.map es clock) := by rcases hal with rfl | rfl <;> exact hb
    have hset := MapKept.heap_set (o' := .mapIter (some b) since (seen.push x.born) clock) hr1
    have hb' : (setBlock w1 r (.mapIter (some b) since (seen.push x.born) clock)).heap[b]? = some (.map es clock) := (hset.2 b (fun e1 => hne e1.symm)).trans hb1
    have hn := ents_nd hE
    have hstep : (es.toList.filter fun y => (seen.push x.born).contains y.born).Perm (x :: es.toList.filter fun y => seen.contains y.born) := by
      refine (List.perm_ext_iff_of_nodup (hn.sublist List.filter_sublist) (List.nodup_cons.2 ⟨fun hm => ?_, hn.sublist List.filter_sublist⟩)).2 fun y => ?_
      · have := (List.mem_filter.1 hm).2
        rw [hes] at this
        cases this
      · rw [List.mem_cons, List.mem_filter, List.mem_filter, contains_push, Bool.or_eq_true]
        constructor
        · rintro ⟨h1, h2 | h2⟩
          · exact .inr ⟨h1, h2⟩
          · exact .inl (born_inj ((MapKept.stamped_iff es clock).1 hE.1).2.1 h1 hem (by simpa using h2))
        · rintro (rfl | ⟨h1, h2⟩)
          · exact ⟨hem, .inr (by simp)⟩
          · exact ⟨h1, .inl h2⟩
    have hlen : ss.length < D.length := by
      have h1 := hstep.length_eq
      have h2 := hss.length_eq
      have h3 := hE.2.length_eq
      have h4 := (List.filter_sublist (l := es.toList) (p := fun y => (seen.push x.born).contains y.born)).length_le
      simp only [List.length_map, List.length_cons] at h1 h2 h3
      omega
    rw [ha] at hrun
    refine .inr ⟨a, x.val, _, hrun, ⟨es, clock, since, seen.push x.born, clock, hb', hE, hset.1, hold, hsk, hsk, ?_⟩, ?_, ?_, hlen, ?_⟩
    · rw [List.map_append]
      refine (hstep.map _).trans ?_
      rw [List.map_cons, ha]
      exact (hss.cons _).trans (List.perm_append_singleton _ _).symm
    · rcases hal with rfl | rfl <;> exact ⟨rfl, rfl, rfl, by simp [setBlock], fun i _ hi => hset.2 i (fun e1 => hi (by rw [e1]))⟩
    · rcases hal with rfl | rfl <;> simp [setBlock]
    · rw [← ha]
      exact run_entry_at _ r b since seen es clock x hset.1 hb' hem ((MapKept.stamped_iff es clock).1 hE.1).2.1
theorem Rgs.kept {w' : World} (h : Rgs enc w b r D ss) (hb : w'.heap[b]? = w.heap[b]?) (hr : w'.heap[r]? = w.heap[r]?) : Rgs enc w' b r D ss := by
  obtain ⟨es, clock, since, seen, c0, h1, hE, h2, rest⟩ := h
  exact ⟨es, clock, since, seen, c0, hb.trans h1, hE, hr.trans h2, rest⟩
theorem Rgs.lt (h : Rgs enc w b r D ss) : b < w.heap.size ∧ r < w.heap.size := by
  obtain ⟨es, clock, since, seen, c0, h1, hE, h2, rest⟩ := h
  exact ⟨(Array.getElem?_eq_some_iff.1 h1).1, (Array.getElem?_eq_some_iff.1 h2).1⟩
end
section
variable {α : Type} {enc : α → Value} {F : Fence} {n : Nat} {P : Program} (w : World) {ops : Array Oper} {rest : List Oper} {o : Oper} {a : Act} {Q : Exit → Act → World → Prop}
theorem wpListIn_range_m (hg : o.guard = none) (m : Operand) (t : TypeId) (hop : o.op = Op.range t m) (k e : TypeId) (ht : P.underlying t = some (.map k e)) (b : Nat) {D : List (α × Value)} {es : Array MapEntry} {clock : Nat}
    (hm : a.eval m = .map (some b)) (hb : w.heap[b]? = some (.map es clock)) (hE : Ents enc es clock D)
    (hK : Rgs enc (w.alloc (.mapIter (some b) clock #[] clock)) b w.heap.size D [] → wpListIn F n P ops Q rest (a.put o.dst (.pointer (some ⟨w.heap.size, 0, none⟩))) (w.alloc (.mapIter (some b) clock #[] clock))) :
    wpListIn F n P ops Q (o :: rest) a w := by
  refine wpListIn_plain hg fun K' hK' => ?_
  have hrun := run_range_map (P := P) w t k e b es clock ht hb
  unfold Oper.wpIn
  refine ⟨?_, ?_⟩
  · simp [Oper.about, hop]
  · rw [Oper.semAt_plain F _ _ (by rw [hop]; intro c hc'; cases hc')]
    simp [execOp, hop, hm, hrun, Result.andThen]
    exact hK' _ _ (hK (rgs_start hb hE))
theorem wpListIn_next_m (hg : o.guard = none) (it : Operand) (hop : o.op = Op.next it false) (k : TypeId) (K : KO P k enc) (b r : Nat) {D : List (α × Value)} {ss : List α}
    (hit : a.eval it = .pointer (some ⟨r, 0, none⟩)) (h : Rgs enc w b r D ss)
    (hDone : ss.Perm (D.map (·.1)) → wpListIn F n P ops Q rest (a.put o.dst (.tuple #[.bool false])) w)
    (hMore : ∀ (x : α) (v : Value) (w' : World), Rgs enc w' b r D (ss ++ [x]) → w.grownBy w' (some r) → w'.heap.size = w.heap.size → ss.length < D.length → (Instr.entry (.pointer (some ⟨r, 0, none⟩))).run P w' = .ok (.tuple #[enc x, v]) w' → wpListIn F n P ops Q rest (a.put o.dst (.tuple #[.bool true, enc x, v])) w') :
    wpListIn F n P ops Q (o :: rest) a w := by
  refine wpListIn_plain hg fun K' hK' => ?_
  unfold Oper.wpIn
  refine ⟨by simp [Oper.about, hop], ?_⟩
  rw [Oper.semAt_plain F _ _ (by rw [hop]; intro c hc'; cases hc')]
  rcases rgs_next K h o.type with ⟨h0, hrun⟩ | ⟨x, v, w', hrun, hrg, hgr, hsz, hlt, hen⟩
  · simp [execOp, hop, hit, hrun, Result.andThen]
    exact hK' _ _ (hDone h0)
  · simp [execOp, hop, hit, hrun, Result.andThen]
    exact hK' _ _ (hMore x v w' hrg hgr hsz hlt hen)
end
end Kr
end Go.Proofs.Ytiikdofbaoidcaa
