import Derived.Test.YtiikdofbaoidcaaOc
import Derived.Test.YtiikdofbaoidcaaAp
import Derived.Shelf.SlSortCmp.WholeK
namespace Go.Proofs.Ytiikdofbaoidcaa
namespace Od
open Go Go.Sort Go.Proofs Go.Proofs.Ytiikdofbaoidcaa.Hd Mp Oc
set_option maxRecDepth 10000
set_option linter.unusedVariables false
set_option linter.unusedSimpArgs false
theorem grow_of {W w' : World} (h : Sat W w' (star [old W.heap])) : ∃ q os', w' = grow (W.drewN q) os' := by
  obtain ⟨f, g, hsp, hA, _⟩ := h.heap
  have hb : ∀ b, b < W.heap.size → w'.heap[b]? = W.heap[b]? := fun b hb => by
    have h2 := hA b hb
    rw [Array.getElem?_eq_getElem hb] at h2 ⊢
    exact hsp.left h2
  have hsz : W.heap.size ≤ w'.heap.size := by
    rcases Nat.eq_zero_or_pos W.heap.size with h0 | h0
    · omega
    · have h1 := hb (W.heap.size - 1) (by omega)
      have h2 : W.heap[W.heap.size - 1]? = some (W.heap[W.heap.size - 1]'(by omega)) := Array.getElem?_eq_getElem (by omega)
      rw [h2] at h1
      have := (Array.getElem?_eq_some_iff.1 h1).1
      omega
  refine ⟨w'.drawn - W.drawn, w'.heap.extract W.heap.size w'.heap.size, ?_⟩
  have hheap : w'.heap = W.heap ++ w'.heap.extract W.heap.size w'.heap.size := by
    apply Array.ext_getElem?
    intro i
    rw [Array.getElem?_append]
    split
    · rename_i hi; exact hb i hi
    · rename_i hi
      rw [Array.getElem?_extract]
      split
      · rw [show W.heap.size + (i - W.heap.size) = i by omega]
      · rename_i hi2
        rw [Array.getElem?_eq_none (by omega)]
  have hd : w'.drawn = W.drawn + (w'.drawn - W.drawn) := by have := h.dr; omega
  have h1 := h.os
  have h2 := h.tape
  have h3 := h.output
  obtain ⟨hp, tp, dr, os, out⟩ := w'
  simp only at hheap hd h1 h2 h3
  subst h1 h2 h3
  unfold grow World.drewN
  simp only
  rw [← hd]
  congr 1
theorem sat_self (W : World) : Sat W W (star [old W.heap]) := ⟨rfl, rfl, rfl, Nat.le_refl _, fun b => W.heap[b]?, fun _ => none, fun b => .inl ⟨rfl, rfl⟩, fun _ _ => rfl, trivial⟩
theorem cmpLays (blk off size : Nat) (w : World) : CmpLays Try.prog 29 #[] Ap.encC 2 ordL blk off size w := fun m os dk _ x y => by
  have h := order_tri x.1 x.2 y.1 y.2 _ [old (sortWorldK Ap.encC 2 w blk off m dk os).heap] _ (sat_self _)
  refine h.mono ?_
  rintro e w' ⟨v, B, ⟨rfl, rfl⟩, rfl, hs⟩
  exact ⟨rfl, grow_of hs⟩
end Od
end Go.Proofs.Ytiikdofbaoidcaa
