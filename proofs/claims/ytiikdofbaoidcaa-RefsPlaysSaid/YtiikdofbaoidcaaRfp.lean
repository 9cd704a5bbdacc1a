import Derived.Test.YtiikdofbaoidcaaPj
import Derived.Test.YtiikdofbaoidcaaHq
import Derived.ChangeArms
import Derived.ChangeSlices
import Derived.DataElems
namespace Go.Proofs.Ytiikdofbaoidcaa.Rfp
set_option maxRecDepth 10000
set_option linter.unusedVariables false
set_option linter.unusedSimpArgs false
open Go.ChangeShapes Go.WideShapes Go.RowKit
open Go Go.Proofs.Ytiikdofbaoidcaa Go.Proofs.Ytiikdofbaoidcaa.Hp Rs Pj
theorem list_choice {α : Type} {p : Nat → α → Prop} : ∀ n : Nat, (∀ i, i < n → ∃ x, p i x) → ∃ xs : List α, xs.length = n ∧ ∀ (i : Nat) (h : i < xs.length), p i xs[i]
  | 0, _ => ⟨[], rfl, fun i h => by simp at h⟩
  | n + 1, h => by
    obtain ⟨xs, hl, hx⟩ := list_choice n fun i hi => h i (by omega)
    obtain ⟨x, hp⟩ := h n (by omega)
    refine ⟨xs ++ [x], by simp [hl], fun i hi => ?_⟩
    by_cases h1 : i < xs.length
    · rw [List.getElem_append_left h1]; exact hx i h1
    · have h2 : i = n := by simp at hi; omega
      subst h2
      rw [List.getElem_append_right (by omega)]
      simpa [hl] using hp
theorem int_of_trod {H : Type} {enc : TypeId × Value → H} {P : Program} {w : World} {base : Nat} {sp : Nat → Bool} {held : Bool} {fuel : Nat} {t : TypeId} {k : IntKind} {c : Value} {y : DataW H × List MemPlace}
    (ht : P.underlying t = some (.int k)) (h : DataW.trod enc P w base sp held fuel t [c] = some y) : ∃ n, c = .int k n ∧ (Lit.int k n).wf = true := by
  cases fuel with
  | zero => simp [DataW.trod] at h
  | succ fuel =>
    cases c <;> simp [DataW.trod, ht] at h
    rename_i k' n
    obtain ⟨⟨rfl, hw⟩, rfl⟩ := h
    exact ⟨n, rfl, hw⟩
theorem cells_get {w : World} {base n : Nat} {a : Addr} {cs : List Value} (h : w.cells? base a n = some cs) : ∀ i c, cs[i]? = some c → w.cell? (a.add i) = some c := by
  unfold World.cells? at h
  split at h
  · intro i c hc
    have h1 := mapM_some_get h i
    have hi : i < cs.length := (List.getElem?_eq_some_iff.1 hc).1
    have hn := mapM_some_length h
    rw [List.length_range] at hn
    have h2 := h1 i (by rw [List.getElem?_range (by omega)])
    rw [← hc, ← h2]
  · cases h
theorem open_ops {H : Type} {enc : TypeId × Value → H} {w : World} {fuel : Nat} {a : Option Addr} {len cap : Nat} {y : DataW H × List MemPlace}
    (h : DataW.trod enc Try.prog w 0 (fun _ => true) true fuel 54 [.slice a len cap] = some y) :
    ∃ es : List Opv, Ro (old w.heap) 4 (.slice a len cap) (ocells es) := by
  have hc2 : Try.prog.cellsOf 56 = 4 := by kernel_rfl
  have hc3 : Try.prog.cellsOf 27 = 3 := by kernel_rfl
  rcases DataW.trod_slice Try.underlying54 h with ⟨hcs, _⟩ | ⟨x, l, cp, elems, rest, n, _, hcs, hy, _, hl, hm, hlen, hel, _⟩
  · simp at hcs
    obtain ⟨rfl, rfl, rfl⟩ := hcs
    exact ⟨[], ⟨none, 0, 0, rfl, by simp [ocells], by simp [maxLen], .inl rfl⟩⟩
  · simp at hcs
    obtain ⟨rfl, rfl, rfl⟩ := hcs
    rw [hc2] at hel
    have each : ∀ i, i < len → ∃ o : Opv, w.cell? (x.add (i * 4)) = some (I o.1) ∧ w.cell? (x.add (i * 4 + 1)) = some (I o.2.1.1) ∧ w.cell? (x.add (i * 4 + 2)) = some (I o.2.1.2) ∧ w.cell? (x.add (i * 4 + 3)) = some (I o.2.2) := by
      intro i hi
      have h1 := hel i hi
      rw [List.getElem?_eq_getElem (by omega)] at h1
      obtain ⟨cs, h2, h3⟩ := Option.bind_eq_some_iff.1 h1
      have hget := cells_get h2
      obtain ⟨xs, m, _, _, hcl, hxl, hf⟩ := DataW.trod_struct Try.underlying56 h3
      rw [hc2] at hcl
      obtain ⟨c0, c1, c2, c3, rfl⟩ : ∃ c0 c1 c2 c3, cs = [c0, c1, c2, c3] := by
        match cs, hcl with
        | [c0, c1, c2, c3], _ => exact ⟨c0, c1, c2, c3, rfl⟩
      have hxl : xs.length = 2 := hxl
      have k1 : Try.prog.cellsOf 3 = 1 := by kernel_rfl
      have f0 : DataW.trod enc Try.prog w 0 (fun _ => true) true m 3 (([c0, c1, c2, c3].drop 0).take (Try.prog.cellsOf 3)) = xs[0]? := hf 0 _ rfl
      have f1 : DataW.trod enc Try.prog w 0 (fun _ => true) true m 27 (([c0, c1, c2, c3].drop 1).take (Try.prog.cellsOf 27)) = xs[1]? := hf 1 _ rfl
      rw [List.getElem?_eq_getElem (by omega)] at f0 f1
      rw [k1] at f0
      rw [hc3] at f1
      change DataW.trod enc Try.prog w 0 (fun _ => true) true m 3 [c0] = _ at f0
      change DataW.trod enc Try.prog w 0 (fun _ => true) true m 27 [c1, c2, c3] = _ at f1
      obtain ⟨ys, m', _, _, _, hyl, hg⟩ := DataW.trod_struct Try.underlying27 f1
      have hyl : ys.length = 3 := hyl
      have g0 : DataW.trod enc Try.prog w 0 (fun _ => true) true m' 3 (([c1, c2, c3].drop 0).take (Try.prog.cellsOf 3)) = ys[0]? := hg 0 _ rfl
      have g1 : DataW.trod enc Try.prog w 0 (fun _ => true) true m' 3 (([c1, c2, c3].drop 1).take (Try.prog.cellsOf 3)) = ys[1]? := hg 1 _ rfl
      have g2 : DataW.trod enc Try.prog w 0 (fun _ => true) true m' 3 (([c1, c2, c3].drop 2).take (Try.prog.cellsOf 3)) = ys[2]? := hg 2 _ rfl
      rw [List.getElem?_eq_getElem (by omega)] at g0 g1 g2
      rw [k1] at g0 g1 g2
      change DataW.trod enc Try.prog w 0 (fun _ => true) true m' 3 [c1] = _ at g0
      change DataW.trod enc Try.prog w 0 (fun _ => true) true m' 3 [c2] = _ at g1
      change DataW.trod enc Try.prog w 0 (fun _ => true) true m' 3 [c3] = _ at g2
      obtain ⟨n0, rfl, w0⟩ := int_of_trod Try.underlying3 f0
      obtain ⟨n1, rfl, w1⟩ := int_of_trod Try.underlying3 g0
      obtain ⟨n2, rfl, w2⟩ := int_of_trod Try.underlying3 g1
      obtain ⟨n3, rfl, w3⟩ := int_of_trod Try.underlying3 g2
      refine ⟨(n0, (n1, n2), n3), ?_, ?_, ?_, ?_⟩
      · have := hget 0 _ rfl
        simpa [Addr.add_add] using this
      · have := hget 1 _ rfl
        simpa [Addr.add_add] using this
      · have := hget 2 _ rfl
        simpa [Addr.add_add] using this
      · have := hget 3 _ rfl
        simpa [Addr.add_add] using this
    obtain ⟨os, hol, hos⟩ := list_choice len each
    refine ⟨os, ro_old (by rw [ocells_len, hol]) (by omega) (by decide) (.inr ⟨x, rfl, fun j u hj => ?_⟩)⟩
    have hjl : j < (ocells os).length := (List.getElem?_eq_some_iff.1 hj).1
    rw [ocells_len] at hjl
    have hq : j / 4 < os.length := by omega
    obtain ⟨g0, g1, g2, g3⟩ := ocells_at os (j / 4) hq
    obtain ⟨c0, c1, c2, c3⟩ := hos (j / 4) hq
    rcases (by omega : j = j / 4 * 4 ∨ j = j / 4 * 4 + 1 ∨ j = j / 4 * 4 + 2 ∨ j = j / 4 * 4 + 3) with e | e | e | e
    · rw [e, g0] at hj; rw [e, c0]; exact hj
    · rw [e, g1] at hj; rw [e, c1]; exact hj
    · rw [e, g2] at hj; rw [e, c2]; exact hj
    · rw [e, g3] at hj; rw [e, c3]; exact hj
end Go.Proofs.Ytiikdofbaoidcaa.Rfp
