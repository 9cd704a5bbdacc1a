import Derived.Test.YtejaonodaplbhaaDoorOe
namespace Go.Proofs.YtejaonodaplbhaaDoor.Os
set_option maxRecDepth 10000
set_option linter.unusedVariables false
set_option linter.unusedSimpArgs false
open Go.ChangeShapes Go.WideShapes Go.RowKit
open Go Go.Proofs.YtejaonodaplbhaaDoor Go.Proofs.YtejaonodaplbhaaDoor.Hp Sp Oe

/-- one call of a script: its kind, its address, its number, its list and what that reads as -/
structure Call where
  kind : Int
  adr : Int
  num : Int
  sl : Value
  xs : List Ent
def ocells (os : List Call) : List Value := os.flatMap fun o => [I o.kind, I o.adr, I o.num, o.sl]
theorem ocells_len : ∀ os, (ocells os).length = os.length * 4
  | [] => rfl
  | o :: os => by
    have := ocells_len os
    unfold ocells at this ⊢
    simp only [List.flatMap_cons, List.length_append, List.length_cons, List.length_nil, this]
    omega
theorem ocells_at : ∀ (os : List Call) (k : Nat) (hk : k < os.length), (ocells os)[k * 4]? = some (I os[k].kind) ∧ (ocells os)[k * 4 + 1]? = some (I os[k].adr) ∧ (ocells os)[k * 4 + 2]? = some (I os[k].num) ∧ (ocells os)[k * 4 + 3]? = some os[k].sl
  | [], _, hk => by simp at hk
  | o :: os, 0, _ => ⟨rfl, rfl, rfl, rfl⟩
  | o :: os, k + 1, hk => by
    have hk' : k < os.length := by simpa using hk
    have h1 := ocells_at os k hk'
    have e1 : (k + 1) * 4 = k * 4 + 4 := by omega
    have e2 : ocells (o :: os) = I o.kind :: I o.adr :: I o.num :: o.sl :: ocells os := rfl
    rw [e1, e2]
    exact h1
theorem ents_of_trod {H : Type} {enc : TypeId × Value → H} {w : World} {fuel : Nat} {c : Value} {y : DataW H × List MemPlace}
    (h : DataW.trod enc Tryd.prog w 0 (fun _ => true) true fuel 27 [c] = some y) : ∃ es : List Ent, Ro (old w.heap) 2 c (ecells es) := by
  have hc : ∃ a l cp, c = .slice a l cp := by
    rcases DataW.trod_slice Tryd.underlying27 h with ⟨hcs, _⟩ | ⟨x, l, cp, elems, rest, n, _, hcs, _⟩
    · exact ⟨_, _, _, by simpa using hcs⟩
    · exact ⟨_, _, _, by simpa using hcs⟩
  obtain ⟨a, l, cp, rfl⟩ := hc
  obtain ⟨es, h1, _⟩ := open_ents h
  exact ⟨es, h1⟩
def Fine (w : World) (o : Call) : Prop := (-9223372036854775808 ≤ o.kind ∧ o.kind ≤ 9223372036854775807) ∧ (-9223372036854775808 ≤ o.adr ∧ o.adr ≤ 9223372036854775807) ∧ (-9223372036854775808 ≤ o.num ∧ o.num ≤ 9223372036854775807) ∧ Ro (old w.heap) 2 o.sl (ecells o.xs)
theorem open_ops {H : Type} {enc : TypeId × Value → H} {w : World} {fuel : Nat} {a : Option Addr} {len cap : Nat} {y : DataW H × List MemPlace}
    (h : DataW.trod enc Tryd.prog w 0 (fun _ => true) true fuel 46 [.slice a len cap] = some y) :
    ∃ os : List Call, Ro (old w.heap) 4 (.slice a len cap) (ocells os) ∧ ∀ o ∈ os, Fine w o := by
  have hc4 : Tryd.prog.cellsOf 49 = 4 := by kernel_rfl
  rcases DataW.trod_slice Tryd.underlying46 h with ⟨hcs, _⟩ | ⟨x, l, cp, elems, rest, n, _, hcs, _, _, hl, hm, hlen, hel, _⟩
  · simp at hcs
    obtain ⟨rfl, rfl, rfl⟩ := hcs
    exact ⟨[], ⟨none, 0, 0, rfl, by simp [ocells], by simp [maxLen], .inl rfl⟩, fun o ho => by cases ho⟩
  · simp at hcs
    obtain ⟨rfl, rfl, rfl⟩ := hcs
    rw [hc4] at hel
    have each : ∀ i, i < len → ∃ o : Call, Fine w o ∧ w.cell? (x.add (i * 4)) = some (I o.kind) ∧ w.cell? (x.add (i * 4 + 1)) = some (I o.adr) ∧ w.cell? (x.add (i * 4 + 2)) = some (I o.num) ∧ w.cell? (x.add (i * 4 + 3)) = some o.sl := by
      intro i hi
      have h1 := hel i hi
      rw [List.getElem?_eq_getElem (by omega)] at h1
      obtain ⟨cs, h2, h3⟩ := Option.bind_eq_some_iff.1 h1
      have hget := cells_get h2
      obtain ⟨xs, m, _, _, hcl, hxl, hf⟩ := DataW.trod_struct Tryd.underlying49 h3
      rw [hc4] at hcl
      obtain ⟨c0, c1, c2, c3, rfl⟩ : ∃ c0 c1 c2 c3, cs = [c0, c1, c2, c3] := by
        match cs, hcl with
        | [c0, c1, c2, c3], _ => exact ⟨c0, c1, c2, c3, rfl⟩
      have hxl : xs.length = 4 := hxl
      have k1 : Tryd.prog.cellsOf 3 = 1 := by kernel_rfl
      have k2 : Tryd.prog.cellsOf 27 = 1 := by kernel_rfl
      have f0 : DataW.trod enc Tryd.prog w 0 (fun _ => true) true m 3 (([c0, c1, c2, c3].drop 0).take (Tryd.prog.cellsOf 3)) = xs[0]? := hf 0 _ rfl
      have f1 : DataW.trod enc Tryd.prog w 0 (fun _ => true) true m 3 (([c0, c1, c2, c3].drop 1).take (Tryd.prog.cellsOf 3)) = xs[1]? := hf 1 _ rfl
      have f2 : DataW.trod enc Tryd.prog w 0 (fun _ => true) true m 3 (([c0, c1, c2, c3].drop 2).take (Tryd.prog.cellsOf 3)) = xs[2]? := hf 2 _ rfl
      have f3 : DataW.trod enc Tryd.prog w 0 (fun _ => true) true m 27 (([c0, c1, c2, c3].drop 3).take (Tryd.prog.cellsOf 27)) = xs[3]? := hf 3 _ rfl
      rw [List.getElem?_eq_getElem (by omega)] at f0 f1 f2 f3
      rw [k1] at f0 f1 f2
      rw [k2] at f3
      change DataW.trod enc Tryd.prog w 0 (fun _ => true) true m 3 [c0] = _ at f0
      change DataW.trod enc Tryd.prog w 0 (fun _ => true) true m 3 [c1] = _ at f1
      change DataW.trod enc Tryd.prog w 0 (fun _ => true) true m 3 [c2] = _ at f2
      change DataW.trod enc Tryd.prog w 0 (fun _ => true) true m 27 [c3] = _ at f3
      obtain ⟨n0, rfl, w0⟩ := int_of_trod Tryd.underlying3 f0
      obtain ⟨n1, rfl, w1⟩ := int_of_trod Tryd.underlying3 f1
      obtain ⟨n2, rfl, w2⟩ := int_of_trod Tryd.underlying3 f2
      obtain ⟨zs, hro⟩ := ents_of_trod f3
      refine ⟨⟨n0, n1, n2, c3, zs⟩, ⟨bounds_i64 w0, bounds_i64 w1, bounds_i64 w2, hro⟩, ?_, ?_, ?_, ?_⟩
      · have := hget 0 _ rfl
        simpa [Addr.add_add] using this
      · have := hget 1 _ rfl
        simpa [Addr.add_add] using this
      · have := hget 2 _ rfl
        simpa [Addr.add_add] using this
      · have := hget 3 _ rfl
        simpa [Addr.add_add] using this
    obtain ⟨os, hol, hos⟩ := list_choice len each
    refine ⟨os, ro_old (by rw [ocells_len, hol]) (by omega) (by decide) (.inr ⟨x, rfl, fun j u hj => ?_⟩), fun o ho => ?_⟩
    · have hjl : j < (ocells os).length := (List.getElem?_eq_some_iff.1 hj).1
      rw [ocells_len] at hjl
      have hq : j / 4 < os.length := by omega
      obtain ⟨g0, g1, g2, g3⟩ := ocells_at os (j / 4) hq
      obtain ⟨_, c0, c1, c2, c3⟩ := hos (j / 4) hq
      rcases (by omega : j = j / 4 * 4 ∨ j = j / 4 * 4 + 1 ∨ j = j / 4 * 4 + 2 ∨ j = j / 4 * 4 + 3) with e | e | e | e
      · rw [e, g0] at hj; rw [e, c0]; exact hj
      · rw [e, g1] at hj; rw [e, c1]; exact hj
      · rw [e, g2] at hj; rw [e, c2]; exact hj
      · rw [e, g3] at hj; rw [e, c3]; exact hj
    · obtain ⟨i, hi, rfl⟩ := List.mem_iff_getElem.1 ho
      exact (hos i hi).1
end Go.Proofs.YtejaonodaplbhaaDoor.Os
