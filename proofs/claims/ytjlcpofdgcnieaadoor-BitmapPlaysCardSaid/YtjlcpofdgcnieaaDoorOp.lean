import Derived.Test.YtjlcpofdgcnieaaDoorLd
import Derived.Test.YtjlcpofdgcnieaaDoorHq
import Derived.ChangeArms
import Derived.ChangeSlices
import Derived.DataElems
namespace Go.Proofs.YtjlcpofdgcnieaaDoor.Op
set_option maxRecDepth 10000
open Go.ChangeShapes Go.WideShapes Go.RowKit
open Go Go.Proofs.YtjlcpofdgcnieaaDoor Go.Proofs.YtjlcpofdgcnieaaDoor.Hp

/-- one call of a script: its kind, its number, its slice and what that reads as -/
structure Call where
  kind : Int
  num : Int
  sl : Value
  xs : List Int
def ocells (os : List Call) : List Value := os.flatMap fun o => [I o.kind, I o.num, o.sl]
theorem ocells_len : ∀ os, (ocells os).length = os.length * 3
  | [] => rfl
  | o :: os => by
    have := ocells_len os
    unfold ocells at this ⊢
    simp only [List.flatMap_cons, List.length_append, List.length_cons, List.length_nil, this]
    omega
theorem ocells_at : ∀ (os : List Call) (k : Nat) (hk : k < os.length), (ocells os)[k * 3]? = some (I os[k].kind) ∧ (ocells os)[k * 3 + 1]? = some (I os[k].num) ∧ (ocells os)[k * 3 + 2]? = some os[k].sl
  | [], _, hk => by simp at hk
  | o :: os, 0, _ => ⟨rfl, rfl, rfl⟩
  | o :: os, k + 1, hk => by
    have hk' : k < os.length := by simpa using hk
    have h1 := ocells_at os k hk'
    have e1 : (k + 1) * 3 = k * 3 + 3 := by omega
    have e2 : ocells (o :: os) = I o.kind :: I o.num :: o.sl :: ocells os := rfl
    rw [e1, e2]
    exact h1
theorem list_choice {α : Type} {p : Nat → α → Prop} : ∀ n : Nat, (∀ i, i < n → ∃ x, p i x) → ∃ xs : List α, xs.length = n ∧ ∀ (i : Nat) (h : i < xs.length), p i xs[i]
  | 0, _ => ⟨[], rfl, fun i h => by simp at h⟩
  | n + 1, h => by
    obtain ⟨xs, hl, hx⟩ := list_choice n fun i hi => h i (by omega)
    obtain ⟨x, hp⟩ := h n (by omega)
    refine ⟨xs ++ [x], by simp [hl], fun i hi => ?_⟩
    by_cases h1 : i < xs.length
    · rw [List.getElem_append_left h1]; exact hx i h1
    · have h2 : i = n := by simp at hi; omega
      subst h2
      rw [List.getElem_append_right (by omega)]
      simpa [hl] using hp
theorem int_of_trod {H : Type} {enc : TypeId × Value → H} {P : Program} {w : World} {base : Nat} {sp : Nat → Bool} {held : Bool} {fuel : Nat} {t : TypeId} {k : IntKind} {c : Value} {y : DataW H × List MemPlace}
    (ht : P.underlying t = some (.int k)) (h : DataW.trod enc P w base sp held fuel t [c] = some y) : ∃ n, c = .int k n ∧ (Lit.int k n).wf = true := by
  cases fuel with
  | zero => simp [DataW.trod] at h
  | succ fuel =>
    cases c <;> simp [DataW.trod, ht] at h
    rename_i k' n
    obtain ⟨⟨rfl, hw⟩, rfl⟩ := h
    exact ⟨n, rfl, hw⟩
theorem ints_of_trod {H : Type} {enc : TypeId × Value → H} {w : World} {fuel : Nat} {c : Value} {y : DataW H × List MemPlace}
    (h : DataW.trod enc Tryd.prog w 0 (fun _ => true) true fuel 22 [c] = some y) : ∃ xs : List Int, Ro (old w.heap) 1 c (xs.map I) := by
  rcases open_ints Tryd.underlying22 Tryd.underlying3 (by kernel_rfl) h with ⟨hcs, _⟩ | ⟨x, l, cp, zs, hcs, _, hl, hm, hz, _, hcell, hwz⟩
  · obtain rfl : c = .slice none 0 0 := by simpa using hcs
    exact ⟨_, ro_ints (zs := []) (.inl ⟨rfl, rfl, rfl, rfl⟩)⟩
  · obtain rfl : c = .slice (some x) l cp := by simpa using hcs
    exact ⟨_, ro_ints (zs := zs) (.inr ⟨x, rfl, hl, hm, by simpa using hz, hcell, hwz⟩)⟩
theorem cells_get {w : World} {base n : Nat} {a : Addr} {cs : List Value} (h : w.cells? base a n = some cs) : ∀ i c, cs[i]? = some c → w.cell? (a.add i) = some c := by
  unfold World.cells? at h
  split at h
  · intro i c hc
    have h1 := mapM_some_get h i
    have hi : i < cs.length := (List.getElem?_eq_some_iff.1 hc).1
    have hn := mapM_some_length h
    rw [List.length_range] at hn
    have h2 := h1 i (by rw [List.getElem?_range (by omega)])
    rw [← hc, ← h2]
  · cases h
def Fine (w : World) (o : Call) : Prop := (-9223372036854775808 ≤ o.kind ∧ o.kind ≤ 9223372036854775807) ∧ (-9223372036854775808 ≤ o.num ∧ o.num ≤ 9223372036854775807) ∧ Ro (old w.heap) 1 o.sl (o.xs.map I)
theorem open_ops {H : Type} {enc : TypeId × Value → H} {w : World} {fuel : Nat} {a : Option Addr} {len cap : Nat} {y : DataW H × List MemPlace}
    (h : DataW.trod enc Tryd.prog w 0 (fun _ => true) true fuel 39 [.slice a len cap] = some y) :
    ∃ os : List Call, Ro (old w.heap) 3 (.slice a len cap) (ocells os) ∧ ∀ o ∈ os, Fine w o := by
  have hc3 : Tryd.prog.cellsOf 43 = 3 := by kernel_rfl
  rcases DataW.trod_slice Tryd.underlying39 h with ⟨hcs, _⟩ | ⟨x, l, cp, elems, rest, n, _, hcs, _, _, hl, hm, hlen, hel, _⟩
  · simp at hcs
    obtain ⟨rfl, rfl, rfl⟩ := hcs
    exact ⟨[], ⟨none, 0, 0, rfl, by simp [ocells], by simp [maxLen], .inl rfl⟩, fun o ho => by cases ho⟩
  · simp at hcs
    obtain ⟨rfl, rfl, rfl⟩ := hcs
    rw [hc3] at hel
    have each : ∀ i, i < len → ∃ o : Call, Fine w o ∧ w.cell? (x.add (i * 3)) = some (I o.kind) ∧ w.cell? (x.add (i * 3 + 1)) = some (I o.num) ∧ w.cell? (x.add (i * 3 + 2)) = some o.sl := by
      intro i hi
      have h1 := hel i hi
      rw [List.getElem?_eq_getElem (by omega)] at h1
      obtain ⟨cs, h2, h3⟩ := Option.bind_eq_some_iff.1 h1
      have hget := cells_get h2
      obtain ⟨xs, m, _, _, hcl, hxl, hf⟩ := DataW.trod_struct Tryd.underlying43 h3
      rw [hc3] at hcl
      obtain ⟨c0, c1, c2, rfl⟩ : ∃ c0 c1 c2, cs = [c0, c1, c2] := by
        match cs, hcl with
        | [c0, c1, c2], _ => exact ⟨c0, c1, c2, rfl⟩
      have hxl : xs.length = 3 := hxl
      have k1 : Tryd.prog.cellsOf 3 = 1 := by kernel_rfl
      have k2 : Tryd.prog.cellsOf 22 = 1 := by kernel_rfl
      have f0 : DataW.trod enc Tryd.prog w 0 (fun _ => true) true m 3 (([c0, c1, c2].drop 0).take (Tryd.prog.cellsOf 3)) = xs[0]? := hf 0 _ rfl
      have f1 : DataW.trod enc Tryd.prog w 0 (fun _ => true) true m 3 (([c0, c1, c2].drop 1).take (Tryd.prog.cellsOf 3)) = xs[1]? := hf 1 _ rfl
      have f2 : DataW.trod enc Tryd.prog w 0 (fun _ => true) true m 22 (([c0, c1, c2].drop 2).take (Tryd.prog.cellsOf 22)) = xs[2]? := hf 2 _ rfl
      rw [List.getElem?_eq_getElem (by omega)] at f0 f1 f2
      rw [k1] at f0 f1
      rw [k2] at f2
      change DataW.trod enc Tryd.prog w 0 (fun _ => true) true m 3 [c0] = _ at f0
      change DataW.trod enc Tryd.prog w 0 (fun _ => true) true m 3 [c1] = _ at f1
      change DataW.trod enc Tryd.prog w 0 (fun _ => true) true m 22 [c2] = _ at f2
      obtain ⟨n0, rfl, w0⟩ := int_of_trod Tryd.underlying3 f0
      obtain ⟨n1, rfl, w1⟩ := int_of_trod Tryd.underlying3 f1
      obtain ⟨zs, hro⟩ := ints_of_trod f2
      refine ⟨⟨n0, n1, c2, zs⟩, ⟨bounds_i64 w0, bounds_i64 w1, hro⟩, ?_, ?_, ?_⟩
      · have := hget 0 _ rfl
        simpa [Addr.add_add] using this
      · have := hget 1 _ rfl
        simpa [Addr.add_add] using this
      · have := hget 2 _ rfl
        simpa [Addr.add_add] using this
    obtain ⟨os, hol, hos⟩ := list_choice len each
    refine ⟨os, ro_old (by rw [ocells_len, hol]) (by omega) (by decide) (.inr ⟨x, rfl, fun j u hj => ?_⟩), fun o ho => ?_⟩
    · have hjl : j < (ocells os).length := (List.getElem?_eq_some_iff.1 hj).1
      rw [ocells_len] at hjl
      have hq : j / 3 < os.length := by omega
      obtain ⟨g0, g1, g2⟩ := ocells_at os (j / 3) hq
      obtain ⟨_, c0, c1, c2⟩ := hos (j / 3) hq
      rcases (by omega : j = j / 3 * 3 ∨ j = j / 3 * 3 + 1 ∨ j = j / 3 * 3 + 2) with e | e | e
      · rw [e, g0] at hj; rw [e, c0]; exact hj
      · rw [e, g1] at hj; rw [e, c1]; exact hj
      · rw [e, g2] at hj; rw [e, c2]; exact hj
    · obtain ⟨i, hi, rfl⟩ := List.mem_iff_getElem.1 ho
      exact (hos i hi).1
end Go.Proofs.YtjlcpofdgcnieaaDoor.Op
