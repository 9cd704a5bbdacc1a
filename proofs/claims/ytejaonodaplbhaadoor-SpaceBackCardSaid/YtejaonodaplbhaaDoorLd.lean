import Derived.Test.YtejaonodaplbhaaDoorBm8
import Derived.Test.YtejaonodaplbhaaDoorRows
import Derived.ChangeSame
import Derived.ChangeVars
import Derived.JoinedOf
import Derived.RowKit
import Derived.LaidLaws
import Derived.LaidHandle
import Derived.LaidMore
import Derived.OpenShut
import Derived.Stop.Joined
namespace Go.Proofs.YtejaonodaplbhaaDoor.Ld
open Go.ChangeShapes Go.WideShapes Go.RowKit
open Go Go.Proofs.YtejaonodaplbhaaDoor Go.Proofs.YtejaonodaplbhaaDoor.Hp

abbrev laid : List (String × DataW Unit) := [("math/bits.deBruijn64tab", Rows.laid_math_bits_deBruijn64tab)]
theorem tabAt : Tryd.prog.globalNamed "math/bits.deBruijn64tab" = some 0 := by kernel_rfl
theorem tabType : (Tryd.prog.globals[0]?).map (·.type) = some 131 := by kernel_rfl
theorem cellsA : Tryd.prog.cellsOf 131 = 64 := by kernel_rfl
theorem cellsB : Tryd.prog.cellsOf 5 = 1 := by kernel_rfl
theorem byte_of_trod {H : Type} {enc : TypeId × Value → H} {P : Program} {w : World} {base : Nat} {sp : Nat → Bool} {held : Bool} {fuel : Nat} {t : TypeId} {k : IntKind} {c : Value} {y : DataW H × List MemPlace}
    (ht : P.underlying t = some (.int k)) (h : DataW.trod enc P w base sp held fuel t [c] = some y) : ∃ n, c = .int k n ∧ y = (.lit (.int k n), []) := by
  cases fuel with
  | zero => simp [DataW.trod] at h
  | succ fuel =>
    cases c <;> simp [DataW.trod, ht] at h
    rename_i k' n
    obtain ⟨⟨rfl, _⟩, rfl⟩ := h
    exact ⟨n, rfl, rfl⟩
theorem cells_of_laid {W : World} (h : laidMetH Tryd.prog laid W) : W.var? Tryd.prog "math/bits.deBruijn64tab" = some (tz.map (Value.int .u8)).toArray := by
  have h0 : laidMet Tryd.prog laid W := h
  obtain ⟨ps, ⟨g, t, cs, fuel, p, q, hg, ht, hvar, hd, _, _⟩, _⟩ := h0
  obtain rfl := Option.some.inj (tabAt.symm.trans hg)
  obtain rfl := Option.some.inj (tabType.symm.trans ht)
  rw [hvar]
  congr 1
  obtain ⟨l⟩ := cs
  obtain ⟨xs, m, _, hx, hl, hn, hi⟩ := DataW.trod_array Tryd.underlying131 hd
  rw [cellsA] at hl
  simp only [cellsB, Nat.mul_one] at hi
  have hl : l.length = 64 := hl
  have hx1 : xs.map (·.1) = tz.map fun n => (DataW.lit (.int .u8 n) : DataW Unit) := by
    have := congrArg Prod.fst hx
    exact (DataW.agg.inj this).symm
  refine Array.ext' (List.ext_getElem? fun i => ?_)
  show l[i]? = (tz.map (Value.int .u8))[i]?
  by_cases h64 : i < 64
  · have hil : i < l.length := by omega
    have hix : i < xs.length := by omega
    have h1 := hi i h64
    have e1 : (l.drop i).take 1 = [l[i]] := by rw [List.drop_eq_getElem_cons hil]; rfl
    rw [e1, List.getElem?_eq_getElem hix] at h1
    obtain ⟨n, h2, h3⟩ := byte_of_trod Tryd.underlying5 h1
    have h4 := congrArg (·[i]?) hx1
    simp only [List.getElem?_map, List.getElem?_eq_getElem hix, h3, Option.map_some] at h4
    rw [List.getElem?_map, List.getElem?_eq_getElem hil, h2]
    cases ht : tz[i]? with
    | none => rw [ht] at h4; cases h4
    | some z =>
      rw [ht] at h4
      simp only [Option.map_some, Option.some.injEq, DataW.lit.injEq, Lit.int.injEq, true_and] at h4
      rw [h4]; rfl
  · have e2 : tz.length = 64 := rfl
    rw [List.getElem?_eq_none (by omega), List.getElem?_eq_none (by rw [List.length_map]; omega)]
theorem tz_of_laid {W : World} (h : laidMetH Tryd.prog laid W) : Tz (old W.heap) := fun L => Rd.old fun j u hj => by
  have h1 := World.var?_cell tabAt (cells_of_laid h) j
  rw [Nat.zero_add, h1]
  simpa using hj
theorem door_met (os : Os) (args : Array Value) : laidMetH Tryd.prog laid ((World.doorLaid Tryd.prog 400 os).forCall (fun _ _ => 0) ⟨#[], args, []⟩).memory :=
  laidMetH_of_parts3 (fuel := 8) (laidMet_of_run' 8 (by kernel_rfl) (by kernel_rfl)) (by kernel_rfl) (by kernel_rfl)
theorem shaped (os : Os) (args : Array Value) : ((World.doorLaid Tryd.prog 400 os).forCall (fun _ _ => 0) ⟨#[], args, []⟩).Shaped Tryd.prog := World.shaped_of_RefB (by kernel_rfl) (by kernel_rfl)
end Go.Proofs.YtejaonodaplbhaaDoor.Ld
