import Derived.Test.YtiikdofbaoidcaaRs
namespace Go.Proofs.Ytiikdofbaoidcaa
namespace Rt
open Go Go.Proofs.Ytiikdofbaoidcaa.Hp Mp Mq Rs
set_option maxRecDepth 10000
set_option linter.unusedVariables false
set_option linter.unusedSimpArgs false
attribute [local irreducible] wpList Code.wp wpAny wpAnyK
def tab : Tab := [
  ⟨3, .int .i64, 1, 8, [.int .i64 0]⟩,
  ⟨4, .bool, 1, 1, [.bool false]⟩,
  ⟨32, .struct [(0, 3), (1, 3)], 2, 16, [.int .i64 0, .int .i64 0]⟩,
  ⟨65, .struct [(0, 62), (1, 63), (2, 62), (3, 4)], 4, 32, [.map none, .map none, .map none, .bool false]⟩,
  ⟨23, .pointer 65, 1, 8, [.pointer none]⟩,
  ⟨62, .map 32 3, 1, 8, [.map none]⟩,
  ⟨63, .map 3 62, 1, 8, [.map none]⟩,
  ⟨29, .iface, 1, 16, [.nilIface]⟩,
  ⟨66, .int .i64, 1, 8, [.int .i64 0]⟩]
theorem tab_3 : TE.ok Try.prog ⟨3, .int .i64, 1, 8, [.int .i64 0]⟩ := ⟨by kernel_rfl, by kernel_rfl, by kernel_rfl, by kernel_rfl⟩
theorem tab_4 : TE.ok Try.prog ⟨4, .bool, 1, 1, [.bool false]⟩ := ⟨by kernel_rfl, by kernel_rfl, by kernel_rfl, by kernel_rfl⟩
theorem tab_32 : TE.ok Try.prog ⟨32, .struct [(0, 3), (1, 3)], 2, 16, [.int .i64 0, .int .i64 0]⟩ := ⟨by kernel_rfl, by kernel_rfl, by kernel_rfl, by kernel_rfl⟩
theorem tab_65 : TE.ok Try.prog ⟨65, .struct [(0, 62), (1, 63), (2, 62), (3, 4)], 4, 32, [.map none, .map none, .map none, .bool false]⟩ := ⟨by kernel_rfl, by kernel_rfl, by kernel_rfl, by kernel_rfl⟩
theorem tab_23 : TE.ok Try.prog ⟨23, .pointer 65, 1, 8, [.pointer none]⟩ := ⟨by kernel_rfl, by kernel_rfl, by kernel_rfl, by kernel_rfl⟩
theorem tab_62 : TE.ok Try.prog ⟨62, .map 32 3, 1, 8, [.map none]⟩ := ⟨by kernel_rfl, by kernel_rfl, by kernel_rfl, by kernel_rfl⟩
theorem tab_63 : TE.ok Try.prog ⟨63, .map 3 62, 1, 8, [.map none]⟩ := ⟨by kernel_rfl, by kernel_rfl, by kernel_rfl, by kernel_rfl⟩
theorem tab_29 : TE.ok Try.prog ⟨29, .iface, 1, 16, [.nilIface]⟩ := ⟨by kernel_rfl, by kernel_rfl, by kernel_rfl, by kernel_rfl⟩
theorem tab_66 : TE.ok Try.prog ⟨66, .int .i64, 1, 8, [.int .i64 0]⟩ := ⟨by kernel_rfl, by kernel_rfl, by kernel_rfl, by kernel_rfl⟩
theorem tab_ok : tab.ok Try.prog := by
  intro e he
  simp only [tab, List.mem_cons, List.not_mem_nil, or_false] at he
  rcases he with rfl | rfl | rfl | rfl | rfl | rfl | rfl | rfl | rfl
  · exact tab_3
  · exact tab_4
  · exact tab_32
  · exact tab_65
  · exact tab_23
  · exact tab_62
  · exact tab_63
  · exact tab_29
  · exact tab_66

theorem ps_load2 {P : Program} {l : Fr} {T : Tab} {cs : List (Nat × Nat × Value)} (hT : T.ok P) {t : TypeId} {x : Operand} {b o : Nat} {e : TE} {v1 v2 : Value} (k1 k2 : Nat) (hx : ev l x = some (.pointer (some ⟨b, o, none⟩))) (ht : T.find t = some e) (hag : e.td.agg = true) (hsz : e.size = 2) (hm : cs[k1]? = some (b, o, v1)) (hm2 : cs[k2]? = some (b, o + 1, v2)) :
    PS P cs l (.load t x) (.agg #[v1, v2]) := by
  obtain ⟨hok, rfl⟩ := Tab.find_ok hT ht
  intro a n dst ty pos aft gd hf w hs
  have hc := hs _ (List.mem_of_getElem? hm)
  have hc2 := hs _ (List.mem_of_getElem? hm2)
  simp only at hc hc2
  have h1 := run_loadCells_list (P := P) (w := w) ⟨b, o, none⟩ [v1, v2] (fun j u hj => by
    rcases j with _ | _ | j
    · simp at hj; subst hj; rw [addr_add]; exact hc
    · simp at hj; subst hj; rw [addr_add]; exact hc2
    · simp at hj)
  simp only [List.length_cons, List.length_nil, Nat.zero_add] at h1
  simp [execOp, hf.ev hx, Instr.loadAt, Instr.sureAddr, loadVar, hok.run_isAgg, hag, hok.run_sizeOf, hsz, h1]
abbrev Inn (x : Int × Nat) (is : List Two) : Assn := mp encT x.2 (imap is)
structure Okr (R : List Own) : Prop where
  nd : (R.map (·.1)).Nodup
  pos : ∀ x ∈ R, 0 < x.2
/-- a *refs.Refs: the maps, what is kept since Begin, and whether it is begun -/
def Rf (p : Nat) (wv : Value) (bg : Bool) (R : List Own) : Assn := fun m => ∃ (ob bb : Nat) (Bs : List (Int × Nat)) (Is : List (List Two)), (By R Bs Is ∧ Okr R) ∧
  star [cl p [.map (some ob), .map (some bb), wv, .bool bg] 65, mp encT ob (omap R), mp encI bb (bmap Bs), many Inn Bs Is] m
theorem j_rf {E : World} {X : Act → World → Prop} {n : Nat} {f : Fr} {L : List Assn} {p : Nat} {wv : Value} {bg : Bool} {R : List Own}
    (h : ∀ (ob bb : Nat) (Bs : List (Int × Nat)) (Is : List (List Two)), By R Bs Is → Okr R → J E X n f (cl p [.map (some ob), .map (some bb), wv, .bool bg] 65 :: mp encT ob (omap R) :: mp encI bb (bmap Bs) :: many Inn Bs Is :: L)) : J E X n f (Rf p wv bg R :: L) :=
  j_ex fun ob => j_ex fun bb => j_ex fun Bs => j_ex fun Is => j_and fun hh => j_star (h ob bb Bs Is hh.1 hh.2)
theorem rf_shut {p ob bb : Nat} {wv : Value} {bg : Bool} {R : List Own} {Bs : List (Int × Nat)} {Is : List (List Two)} (h1 : By R Bs Is) (h2 : Okr R) : ∀ m, star [cl p [.map (some ob), .map (some bb), wv, .bool bg] 65, mp encT ob (omap R), mp encI bb (bmap Bs), many Inn Bs Is] m → Rf p wv bg R m :=
  fun _ h => ⟨ob, bb, Bs, Is, ⟨h1, h2⟩, h⟩
theorem lkv_some (z v : Value) : lkv false z (some v) = v := rfl
theorem lkv_none (z : Value) : lkv false z none = z := rfl
def setL (R : List Own) (o : Two) (a : Int) : List Own := if a = 0 then rmL R o else (o, a) :: rmL R o
theorem rm_ok {R : List Own} (h : Okr R) (o : Two) : Okr (rmL R o) := ⟨rm_nodup h.nd o, fun x hx => h.pos x (rm_mem.1 hx).1⟩
theorem set_ok {R : List Own} (h : Okr R) (o : Two) {a : Int} (ha : 0 ≤ a) : Okr (setL R o a) := by
  unfold setL
  split
  · exact rm_ok h o
  · refine ⟨add_nodup (rm_ok h o).nd (rm_off R o), fun x hx => ?_⟩
    rcases List.mem_cons.1 hx with rfl | hx
    · show 0 < a; omega
    · exact (rm_ok h o).pos x hx
theorem many_erase {α β : Type} {A : α → β → Assn} : ∀ {xs : List α} {ys : List β} {i : Nat}, i < xs.length → i < ys.length → (stars A xs ys).eraseIdx i = stars A (xs.eraseIdx i) (ys.eraseIdx i)
  | [], _, _, h, _ => by simp at h
  | _ :: _, [], _, _, h => by simp at h
  | a :: xs, b :: ys, 0, _, _ => rfl
  | a :: xs, b :: ys, i + 1, h1, h2 => by
    simp only [stars, List.eraseIdx_cons_succ]
    rw [many_erase (Nat.lt_of_succ_lt_succ h1) (Nat.lt_of_succ_lt_succ h2)]
theorem many_gone {α β : Type} {A : α → β → Assn} {xs : List α} {ys : List β} {i : Nat} (h1 : i < xs.length) (h2 : i < ys.length) {m : Frag} (h : star [manyBut A xs ys i] m) : many A (xs.eraseIdx i) (ys.eraseIdx i) m := by
  have h3 := star_open (M := (stars A xs ys).eraseIdx i) (L := []) h
  rw [List.append_nil, many_erase h1 h2] at h3
  exact h3
theorem many_cons {α β : Type} {A : α → β → Assn} {xs : List α} {ys : List β} {a : α} {b : β} {m : Frag} (h : star [A a b, many A xs ys] m) : many A (a :: xs) (b :: ys) m := by
  have h1 := star_swap h
  have h2 := star_open (M := stars A xs ys) (L := [A a b]) h1
  exact star_perm (List.perm_append_singleton _ _) h2
theorem by_hit {Bs : List (Int × Nat)} {a : Int} {v : Value} (h : mget (bmap Bs) a = some v) : ∃ i k : Nat, Bs[i]? = some (a, k) ∧ v = .map (some k) := by
  unfold mget at h
  rw [Option.map_eq_some_iff] at h
  obtain ⟨x, h1, h2⟩ := h
  have h3 := List.find?_some h1
  obtain ⟨y, hy, e⟩ := List.mem_map.1 (List.mem_of_find?_eq_some h1)
  obtain ⟨i, hi⟩ := List.getElem?_of_mem hy
  simp only [decide_eq_true_eq] at h3
  subst e
  simp only at h3 h2
  exact ⟨i, y.2, by rw [hi, ← h3], h2.symm⟩
end Rt
end Go.Proofs.Ytiikdofbaoidcaa
