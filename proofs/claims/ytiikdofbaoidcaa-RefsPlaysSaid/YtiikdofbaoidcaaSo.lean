import Derived.Test.YtiikdofbaoidcaaOd
import Derived.Test.YtiikdofbaoidcaaSh5
import Derived.Shelf.SlSortCmp.NoneTotal
set_option linter.unusedVariables false
set_option linter.unusedSimpArgs false
namespace Go.Proofs.Ytiikdofbaoidcaa
namespace So
open Go Go.Proofs Go.Sort Go.Proofs.Ytiikdofbaoidcaa.Hp Mp Oc Ap
set_option maxRecDepth 10000
attribute [local irreducible] wpList Code.wp wpAny wpAnyK
theorem flat_at : ∀ (l : List Two) (t : Nat), t < l.length * 2 → (l.flatMap encC)[t]? = some ((encC l[t / 2]!)[t % 2]!)
  | [], t, h => by simp at h
  | x :: l, 0, _ => rfl
  | x :: l, 1, _ => rfl
  | x :: l, t + 2, h => by
    have h1 : t < l.length * 2 := by simp only [List.length_cons] at h; omega
    have e1 : (t + 2) / 2 = t / 2 + 1 := by omega
    have e2 : (t + 2) % 2 = t % 2 := by omega
    have e3 : ((x :: l).flatMap encC)[t + 2]? = (l.flatMap encC)[t]? := by
      rw [List.flatMap_cons]
      show ([I x.1, I x.2] ++ l.flatMap encC)[t + 2]? = _
      rw [List.getElem?_append_right (by simp)]
      simp
    rw [e3, flat_at l t h1, e1, e2]
    congr 2
theorem flatK_eq (l : List Two) : flatK encC 2 l.toArray = (l.flatMap encC).toArray := by
  apply Array.ext_getElem?
  intro t
  unfold flatK
  by_cases h : t < l.length * 2
  · rw [Array.getElem?_map, Array.getElem?_eq_getElem (by simpa using h)]
    simp only [Array.getElem_range, Option.map_some, List.getElem?_toArray]
    rw [flat_at l t h]
    simp
  · rw [Array.getElem?_eq_none (by simp; omega), Array.getElem?_eq_none (by rw [List.size_toArray, encC_len]; omega)]
theorem put_cells {F0 sp : List Value} {F : Array Value} (h : F.size = F0.length) : putCells id 0 F (F0 ++ sp).toArray = (F.toList ++ sp).toArray := by
  apply Array.ext_getElem?
  intro k
  simp only [putCells, Array.getElem?_mapIdx, List.getElem?_toArray]
  by_cases hk : k < F.size
  · rw [List.getElem?_append_left (by omega), List.getElem?_append_left (by simpa using hk), List.getElem?_eq_getElem (by omega)]
    simp only [Option.map_some, Nat.zero_le, Nat.zero_add, hk, and_self, if_true, Nat.sub_zero, id]
    rw [Array.getElem?_toList, Array.getElem?_eq_getElem hk, getElem!_pos F k hk]
  · rw [List.getElem?_append_right (by omega), List.getElem?_append_right (by simp; omega)]
    simp only [Nat.zero_le, Nat.zero_add, hk, and_false, if_false]
    rw [show (fun x : Value => x) = id from rfl, Option.map_id]
    simp [h]
theorem ltO (x y : Two) : ltOf ordL x y = decide (x.1 < y.1 ∨ x.1 = y.1 ∧ x.2 < y.2) := by
  unfold ltOf ordL cmpI
  rw [decide_eq_decide]
  split <;> split <;> (try split) <;> (try split) <;> (try split) <;> omega
theorem swo : SWO (ltOf ordL) where
  irrefl x := by rw [ltO]; simp
  trans x y z h1 h2 := by rw [ltO] at *; simp only [decide_eq_true_eq] at *; omega
  ntrans x y z h1 h2 := by rw [ltO] at *; simp only [decide_eq_false_iff_not] at *; omega
theorem tot (x y : Two) (h1 : ltOf ordL x y = false) (h2 : ltOf ordL y x = false) : x = y := by
  rw [ltO] at *
  simp only [decide_eq_false_iff_not] at *
  exact Prod.ext (by omega) (by omega)
def srtT (l : List Two) : List Two := l.mergeSort fun x y => !(ltOf ordL) y x
theorem srtT_perm (l : List Two) : (srtT l).Perm l := List.mergeSort_perm ..
theorem put_heap {w : World} {b n : Nat} {cur : Array Value} {t : TypeId} (hb : w.heap[b]? = some (.cells cur t (0, 0))) (d : Array Two) : (putRowK encC 2 (Sort.ahead w n) b 0 d).heap[b]? = some (.cells (putCells id 0 (flatK encC 2 d) cur) t (0, 0)) := by
  simp only [putRowK, putRow, mapBlock, Array.getElem?_modify]
  rw [show (Sort.ahead w n).heap = w.heap from rfl, hb]
  simp [onCells]
theorem put_other {w : World} {b n k : Nat} (hk : k ≠ b) (d : Array Two) : (putRowK encC 2 (Sort.ahead w n) b 0 d).heap[k]? = w.heap[k]? := by
  simp only [putRowK, putRow, mapBlock, Array.getElem?_modify]
  rw [if_neg (fun e => hk e.symm)]
  rfl
theorem sat_grow {E w : World} {L : List Assn} (h : Sat E w (star L)) (os : Array Obj) : Sat E (grow w os) (star L) := by
  refine ⟨h.os, h.tape, h.output, star_mono ?_ h.heap⟩
  intro b o ho
  have hlt := (Array.getElem?_eq_some_iff.1 ho).1
  show (w.heap ++ os)[b]? = some o
  rw [Array.getElem?_append_left hlt]
  exact ho
set_option maxHeartbeats 2000000 in
theorem sortF_tri {l : List Two} {v0 : Value} (hx : l.length ≤ 1000) (h0 : l ≠ []) :
    Tri Try.prog 34 [v0, .func (.func 29) #[] #[]] [sl 32 2 v0 (l.flatMap encC)] fun v B => v = .tuple #[] ∧ B = [sl 32 2 v0 ((srtT l).flatMap encC)] := by
  intro E F w hs
  obtain ⟨f, g, hsp, ⟨base, len, cap, rfl, hlen, hlc, hcm, hor⟩, hL⟩ := hs.heap
  rw [encC_len] at hlen
  have hlen : l.length = len := by omega
  have hl0 : l.length ≠ 0 := fun e => h0 (List.eq_nil_of_length_eq_zero e)
  obtain ⟨b, sp, rfl, hsz, hcl⟩ := hor.resolve_left (by omega)
  have hb := hsp.left hcl
  have hH : HoldsK encC 2 w b 0 l.toArray := by
    unfold HoldsK
    rw [flatK_eq]
    intro j hj
    have hj : j < (l.flatMap encC).length := by simpa using hj
    refine ⟨?_, by simp [World.frozen?, hb]⟩
    rw [cell_block hb, Nat.zero_add, List.getElem?_toArray, List.getElem?_append_left hj, List.getElem?_eq_getElem hj, getElem!_pos _ j (by simpa using hj)]
    rfl
  have hblt : b < w.heap.size := (Array.getElem?_eq_some_iff.1 hb).1
  have eg : ∀ args w, (callFunc 29 args).run Try.prog w = .ok (.enter 29 args) w := enters_of Try.func29 (by kernel_rfl) rfl
  have hcon := AnyQ.slices_SortFunc_total Try.sortF 2 Try.isAgg32 Try.sizeOf32 encC (fun _ => rfl) (fun x v hv => by simp [encC] at hv; rcases hv with rfl | rfl <;> rfl) ordL swo 29 #[] b 0 cap l.toArray w eg (Od.cmpLays b 0 l.toArray.size w) hH hblt (by simp; omega) tot
  change Calls Try.prog 34 _ _ _ at hcon
  have e1 : l.toArray.size = len := by simpa using hlen
  rw [e1] at hcon
  refine hcon.mono ?_
  rintro e w' ⟨rfl, n, os, rfl⟩
  refine ⟨_, _, ⟨rfl, rfl⟩, rfl, ?_⟩
  have hSl : (srtT l).length = l.length := (srtT_perm l).length_eq
  have hs0 : Sat E w (star (ob b (.cells (l.flatMap encC ++ sp).toArray 32 (0, 0)) :: F)) := ⟨hs.os, hs.tape, hs.output, f, g, hsp, hcl, hL⟩
  have h1 := put_heap (n := n) hb (srtT l).toArray
  rw [flatK_eq, put_cells (by rw [List.size_toArray, encC_len, encC_len, hSl])] at h1
  have hs1 := hs0.put (w' := putRowK encC 2 (Sort.ahead w n) b 0 (srtT l).toArray) rfl rfl rfl h1 (fun k hk => put_other hk _)
  refine (sat_grow hs1 os).imp fun m hm => star_head ?_ hm
  intro m1 h2
  refine ⟨_, len, cap, rfl, by rw [encC_len, hSl, hlen], hlc, hcm, .inr ⟨b, sp, rfl, ?_, h2⟩⟩
  rw [List.length_append, encC_len] at hsz ⊢
  rw [hSl]
  exact hsz
theorem sortF_nil : Tri Try.prog 34 [.slice none 0 0, .func (.func 29) #[] #[]] [] fun v B => v = .tuple #[] ∧ B = [] := by
  intro E F w hs
  have hcon := AnyF.slices_SortFunc_none Try.sortF none 0 (.func (.func 29) #[] #[]) w
  change Calls Try.prog 34 _ _ _ at hcon
  refine hcon.mono ?_
  rintro e w' ⟨rfl, rfl⟩
  exact ⟨_, _, ⟨rfl, rfl⟩, rfl, hs⟩
theorem srtT_eq {l l' : List Two} (h : l.Perm l') : srtT l = srtT l' := by
  have tr : ∀ a b c : Two, (!(ltOf ordL) b a) = true → (!(ltOf ordL) c b) = true → (!(ltOf ordL) c a) = true := fun a b c h1 h2 => by
    rw [ltO] at *
    simp only [Bool.not_eq_true', decide_eq_false_iff_not] at *
    omega
  have to : ∀ a b : Two, ((!(ltOf ordL) b a) || (!(ltOf ordL) a b)) = true := fun a b => by
    rw [ltO, ltO]
    simp only [Bool.or_eq_true, Bool.not_eq_true', decide_eq_false_iff_not]
    omega
  refine List.Perm.eq_of_pairwise (le := fun a b => (!(ltOf ordL) b a) = true) (fun a b _ _ h1 h2 => ?_) (List.pairwise_mergeSort tr to l) (List.pairwise_mergeSort tr to l') (((List.mergeSort_perm l _).trans h).trans (List.mergeSort_perm l' _).symm)
  exact tot a b (by simpa using h2) (by simpa using h1)
theorem srtT_sorted (l : List Two) (hn : l.Nodup) : (srtT l).Pairwise fun x y => x.1 < y.1 ∨ x.1 = y.1 ∧ x.2 < y.2 := by
  have tr : ∀ a b c : Two, (!(ltOf ordL) b a) = true → (!(ltOf ordL) c b) = true → (!(ltOf ordL) c a) = true := fun a b c h1 h2 => by
    rw [ltO] at *
    simp only [Bool.not_eq_true', decide_eq_false_iff_not] at *
    omega
  have to : ∀ a b : Two, ((!(ltOf ordL) b a) || (!(ltOf ordL) a b)) = true := fun a b => by
    rw [ltO, ltO]
    simp only [Bool.or_eq_true, Bool.not_eq_true', decide_eq_false_iff_not]
    omega
  have h1 := List.pairwise_mergeSort tr to l
  have h2 : (srtT l).Nodup := (srtT_perm l).nodup_iff.2 hn
  have h3 := List.Pairwise.and h1 h2
  refine h3.imp ?_
  intro x y h
  obtain ⟨h4, h5⟩ := h
  rw [ltO] at h4
  simp only [Bool.not_eq_true', decide_eq_false_iff_not] at h4
  have : ¬ (x.1 = y.1 ∧ x.2 = y.2) := fun e => h5 (Prod.ext e.1 e.2)
  omega
end So
end Go.Proofs.Ytiikdofbaoidcaa
