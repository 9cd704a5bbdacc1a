import Derived.Test.YtiikdofbaoidcaaMp
namespace Go.Proofs.Ytiikdofbaoidcaa
namespace Mq
open Go Go.Proofs.Ytiikdofbaoidcaa.Hp Mp
open Go.ChangeMaps (setBlock heap_setBlock_same heap_setBlock_other)
set_option maxRecDepth 10000
set_option linter.unusedVariables false
set_option linter.unusedSimpArgs false
theorem jx {E : World} {K : Act → World → Prop} {n : Nat} {l : Fr} {L : List Assn} (h : J E K n l L) : ∀ a w, Fits a n l → Sat E w (star L) → K a w := by
  unfold J at h
  exact h
theorem ji {E : World} {K : Act → World → Prop} {n : Nat} {l : Fr} {L : List Assn} (h : ∀ a w, Fits a n l → Sat E w (star L) → K a w) : J E K n l L := by
  unfold J
  exact h
def mget {α : Type} [DecidableEq α] (D : List (α × Value)) (a : α) : Option Value := (D.find? fun x => decide (x.1 = a)).map (·.2)
def mput {α : Type} [DecidableEq α] (D : List (α × Value)) (a : α) (v : Value) : List (α × Value) := (a, v) :: D.filter fun x => !decide (x.1 = a)
def mdel {α : Type} [DecidableEq α] (D : List (α × Value)) (a : α) : List (α × Value) := D.filter fun x => !decide (x.1 = a)
def lkv (c : Bool) (z : Value) (o : Option Value) : Value := if c then .tuple #[o.getD z, .bool o.isSome] else o.getD z
theorem mget_none {α : Type} [DecidableEq α] {D : List (α × Value)} {a : α} (h : ∀ x ∈ D, x.1 ≠ a) : mget D a = none := by
  unfold mget
  rw [List.find?_eq_none.2 fun x hx => by simpa using h x hx]
  rfl
theorem mget_some {α : Type} [DecidableEq α] : ∀ {D : List (α × Value)} {a : α} {v : Value}, (D.map (·.1)).Nodup → (a, v) ∈ D → mget D a = some v
  | [], _, _, _, h => by cases h
  | y :: D, a, v, hn, h => by
    rw [List.map_cons, List.nodup_cons] at hn
    unfold mget
    rcases List.mem_cons.1 h with rfl | h
    · rw [List.find?_cons_of_pos (by simp)]; rfl
    · have hne : ¬ y.1 = a := fun e => hn.1 (by rw [e]; exact List.mem_map.2 ⟨_, h, rfl⟩)
      rw [List.find?_cons_of_neg (by simpa using hne)]
      exact mget_some hn.2 h
section
variable {P : Program} {kt t e : TypeId} {α : Type} {enc : α → Value} {es : Array MapEntry} {clock : Nat} {D : List (α × Value)} {w : World} {b : Nat} {M : List Assn} {E : World}
theorem ents_nodup (h : Ents enc es clock D) : (D.map (·.1)).Nodup := by
  have h1 : (es.toList.map (·.key)).Nodup := by
    rw [List.Nodup, List.pairwise_map]
    exact ((MapKept.stamped_iff es clock).1 h.1).2.2
  have h2 : ((es.toList.map fun e => (e.key, e.val)).map (·.1)).Nodup := by rw [List.map_map]; exact h1
  have h3 := ((h.2.map (·.1)).nodup_iff).1 h2
  rw [List.map_map, List.Nodup, List.pairwise_map] at h3
  rw [List.Nodup, List.pairwise_map]
  exact h3.imp fun hne hh => hne (congrArg enc hh)
theorem sat_mp (hs : Sat E w (star (mp enc b D :: M))) : ∃ es clock, w.heap[b]? = some (.map es clock) ∧ Ents enc es clock D ∧ Sat E w (star (ob b (.map es clock) :: M)) := by
  obtain ⟨f, g, hsp, ⟨es, clock, hm, hE⟩, hL⟩ := hs.heap
  exact ⟨es, clock, hsp.left hm, hE, hs.os, hs.tape, hs.output, f, g, hsp, hm, hL⟩
theorem sat_put {es' : Array MapEntry} {clock' : Nat} {D' : List (α × Value)} (hb : w.heap[b]? = some (.map es clock)) (hs : Sat E w (star (ob b (.map es clock) :: M))) (h' : Ents enc es' clock' D') : Sat E (setBlock w b (.map es' clock')) (star (mp enc b D' :: M)) :=
  (hs.put (w' := setBlock w b (.map es' clock')) rfl rfl rfl (heap_setBlock_same hb _) (fun k hk => heap_setBlock_other hb _ hk)).imp fun _ hm => star_head (fun _ h1 => ⟨es', clock', h1, h'⟩) hm
theorem mp_perm {D' : List (α × Value)} (hp : D.Perm D') : ∀ m, star [mp enc b D] m → mp enc b D' m := fun m ⟨f, g, hsp, ⟨es, clock, hm, hE⟩, _⟩ => ⟨es, clock, hsp.left hm, hE.perm hp⟩
end
section
variable {P : Program} {E : World} {Q : Exit → Act → World → Prop} {n : Nat} {l : Fr} {L : List Assn} {ops : Array Oper} {K : Act → World → Prop} {d : Tmp} {ty : TypeId} {pos : String} {aft : Array Edge}
variable {kt t e : TypeId} {α : Type} {enc : α → Value} {D : List (α × Value)} {b : Nat} {M : List Assn} {x y z : Operand} {a : α} {zv v : Value}
theorem j_mp_nodup {X : Act → World → Prop} (h : (D.map (·.1)).Nodup → J E X n l (mp enc b D :: L)) : J E X n l (mp enc b D :: L) := ji fun a w hf hs => by
  obtain ⟨es, clock, _, hE, _⟩ := sat_mp hs
  exact jx (h (ents_nodup hE)) a w hf hs
theorem jo_lookup [DecidableEq α] (Kk : KO P kt enc) (ht : P.underlying t = some (.map kt e)) (hz : ∀ w, (zeroValue e).run P w = .ok zv w) (c : Bool) (i : Nat) (hx : ev l x = some (.map (some b))) (hy : ev l y = some (enc a)) (hL : sel [i] L = [mp enc b D])
    (hd : Nat.blt d n = true) (h : J E K n ((d, lkv c zv (mget D a)) :: l) L) : J E (wpO P ops Q ⟨some d, .lookup t x y c, ty, pos, aft, none⟩ K) n l L := by
  refine jo_run rfl fun act w hf hs => ⟨_, w, ?_, jx h _ w (hf.put (Nat.le_of_ble_eq_true hd) _) hs⟩
  have hs1 := hs.sel [i]
  rw [hL] at hs1
  obtain ⟨es, clock, hb, hE, _⟩ := sat_mp hs1
  rcases mp_look Kk ht hb hE a with ⟨hn, hr⟩ | ⟨v, hv, hr⟩
  · have := hr c zv (hz w)
    rw [mget_none hn]
    simp [execOp, hf.ev hx, hf.ev hy, this, lkv]
  · have := hr c
    rw [mget_some (ents_nodup hE) hv]
    simp [execOp, hf.ev hx, hf.ev hy, this, lkv]
theorem jo_lookup_nil (Kk : KO P kt enc) (ht : P.underlying t = some (.map kt e)) (hz : ∀ w, (zeroValue e).run P w = .ok zv w) (c : Bool) (hx : ev l x = some (.map none)) (hy : ev l y = some (enc a))
    (hd : Nat.blt d n = true) (h : J E K n ((d, lkv c zv none) :: l) L) : J E (wpO P ops Q ⟨some d, .lookup t x y c, ty, pos, aft, none⟩ K) n l L := by
  refine jo_run rfl fun act w hf hs => ⟨_, w, ?_, jx h _ w (hf.put (Nat.le_of_ble_eq_true hd) _) hs⟩
  have hfn : (Instr.findKey kt (enc a) []).run P w = .ok none w := by
    rcases Kk.find a [] w (fun e h => by cases h) with ⟨h1, _⟩ | ⟨j, e, _, h2, _⟩
    · exact h1
    · simp at h2
  simp [execOp, hf.ev hx, hf.ev hy, Instr.lookup, run_underlying ht, Kk.check, hfn, hz w, lkv, Result.andThen]
theorem jo_mapUpdate [DecidableEq α] (Kk : KO P kt enc) (ht : P.underlying t = some (.map kt e)) (i : Nat) (hx : ev l x = some (.map (some b))) (hy : ev l y = some (enc a)) (hv : ev l z = some v) (hL : sel [i] L = [mp enc b D] ∧ rem [i] L = M)
    (h : J E K n l (mp enc b (mput D a v) :: M)) : J E (wpO P ops Q ⟨none, .mapUpdate t x y z, ty, pos, aft, none⟩ K) n l L := by
  refine ji fun act w hf hs => ?_
  have hs1 := hs.sel [i]
  rw [hL.1, hL.2] at hs1
  obtain ⟨es, clock, hb, hE, hs2⟩ := sat_mp hs1
  obtain ⟨es', clock', hr, hE'⟩ := mp_update Kk ht hb hE a v
  unfold wpO
  rw [if_pos (by simp [Region.wanted])]
  refine .inl ?_
  have hrun : (execOp act.eval ⟨none, .mapUpdate t x y z, ty, pos, aft, none⟩).run P w = .ok .skip (setBlock w b (.map es' clock')) := by
    simp [execOp, hf.ev hx, hf.ev hy, hf.ev hv, hr]
  unfold Oper.wp
  rw [hrun]
  exact jx h act _ hf (sat_put hb hs2 hE')
theorem jo_delete [DecidableEq α] (Kk : KO P kt enc) (ht : P.underlying t = some (.map kt e)) (i : Nat) (hx : ev l x = some (.map (some b))) (hy : ev l y = some (enc a)) (hL : sel [i] L = [mp enc b D] ∧ rem [i] L = M)
    (h : J E K n l (mp enc b (mdel D a) :: M)) : J E (wpO P ops Q ⟨none, .call { callee := .builtin .delete, args := #[x, y], argTypes := #[t, kt] }, ty, pos, aft, none⟩ K) n l L := by
  refine jo_run rfl fun act w hf hs => ?_
  have hs1 := hs.sel [i]
  rw [hL.1, hL.2] at hs1
  obtain ⟨es, clock, hb, hE, hs2⟩ := sat_mp hs1
  obtain ⟨es', hr, hE'⟩ := mp_delete (ty := ty) Kk ht hb hE a
  refine ⟨.tuple #[], setBlock w b (.map es' clock), ?_, jx h _ _ hf (sat_put hb hs2 hE')⟩
  simp [execOp, resolve, invoke, builtin, hf.ev hx, hf.ev hy, hr]
theorem jo_delete_nil (Kk : KO P kt enc) (ht : P.underlying t = some (.map kt e)) (hx : ev l x = some (.map none)) (hy : ev l y = some (enc a))
    (h : J E K n l L) : J E (wpO P ops Q ⟨none, .call { callee := .builtin .delete, args := #[x, y], argTypes := #[t, kt] }, ty, pos, aft, none⟩ K) n l L := by
  refine jo_run rfl fun act w hf hs => ⟨.tuple #[], w, ?_, jx h _ _ hf hs⟩
  simp [execOp, resolve, invoke, builtin, hf.ev hx, hf.ev hy, Builtin.delete_, run_underlying ht, Kk.check, Result.andThen]
theorem jo_maplen (ht : P.underlying t = some (.map kt e)) (i : Nat) (hx : ev l x = some (.map (some b))) (hL : sel [i] L = [mp enc b D])
    (hd : Nat.blt d n = true) (h : J E K n ((d, .int .i64 D.length) :: l) L) : J E (wpO P ops Q ⟨some d, .call { callee := .builtin .len, args := #[x], argTypes := #[t] }, ty, pos, aft, none⟩ K) n l L := by
  refine jo_run rfl fun act w hf hs => ⟨_, w, ?_, jx h _ w (hf.put (Nat.le_of_ble_eq_true hd) _) hs⟩
  have hs1 := hs.sel [i]
  rw [hL] at hs1
  obtain ⟨es, clock, hb, hE, _⟩ := sat_mp hs1
  have hz : (es.size : Int) = D.length := by rw [hE.size]
  simp [execOp, resolve, invoke, builtin, hf.ev hx, Builtin.len_, run_underlying ht, MapKept.run_getObj_map hb, goInt, hz, Result.andThen]
theorem pv_maplen_nil (ht : P.underlying t = some (.map kt e)) (hx : ev l x = some (.map none)) : PV P l (.call { callee := .builtin .len, args := #[x], argTypes := #[t] }) (.int .i64 0) := by
  intro act n dst ty pos aft gd hf w
  simp [execOp, resolve, invoke, builtin, hf.ev hx, Builtin.len_, run_underlying ht, goInt, Result.andThen]
theorem jo_makeMap (enc : α → Value) (hd : Nat.blt d n = true) (h : ∀ b, J E K n ((d, .map (some b)) :: l) (mp enc b [] :: L)) : J E (wpO P ops Q ⟨some d, .makeMap t none, ty, pos, aft, none⟩ K) n l L := by
  refine jo_run rfl fun act w hf hs => ⟨.map (some w.heap.size), w.alloc (.map #[] 0), ?_, jx (h _) _ _ (hf.put (Nat.le_of_ble_eq_true hd) _) ?_⟩
  · have hr : (Instr.makeMap t none).run P w = .ok (.map (some w.heap.size)) (w.alloc (.map #[] 0)) := rfl
    simp [execOp, hr]
  · exact (hs.alloc (.map #[] 0)).imp fun _ hm => star_head (fun _ h1 => ⟨#[], 0, h1, ents_nil⟩) hm
theorem pv_map_eqnil (ht : P.underlying t = some (.map kt e)) {o : Option Nat} {t' : TypeId} (hx : ev l x = some (.map o)) (hy : ev l y = some (.map none)) : PV P l (.binOp .eql t x y t') (.bool o.isNone) := by
  refine pv_eql hx hy (fun w => by cases o <;> rfl) rfl (fun d w => ?_)
  cases o <;> simp [Op.equalIn, run_underlying ht]
end
end Mq
end Go.Proofs.Ytiikdofbaoidcaa
