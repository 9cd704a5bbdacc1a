/-
  The law SpaceBack holds for every input: it returns true and leaves its arguments as they were. No condition. (The frame of this text follows the kit's proof-skeleton; the walk is ours.)
-/
import Derived.Test.YtejaonodaplbhaaDoorRows
import Derived.WalkKit
import Derived.ProofKit
import Derived.OpenShut
import Derived.ShutString
import Derived.ChangeOld
import Derived.Below
import Derived.SevenTiedAt
import Derived.LaidMore
import Derived.LaidLaws
import Derived.LaidHandle
import Derived.SizedLaws
import Derived.Test.YtejaonodaplbhaaDoorSk5
import Derived.Test.YtejaonodaplbhaaDoorHq
import Derived.Test.YtejaonodaplbhaaDoorOe
import Derived.Test.YtejaonodaplbhaaDoorOs
import Derived.Test.YtejaonodaplbhaaDoorLd
import Derived.Test.YtejaonodaplbhaaDoorCards
import Derived.Test.YtejaonodaplbhaaDoorTie
namespace Go.Proofs.YtejaonodaplbhaaDoor.spaceBack
open Go.ChangeShapes Go.WideShapes Go.ChangeAt Go.RowKit
set_option linter.unusedVariables false

theorem own : ownKnob Tryd.prog.godebug = none := by kernel_rfl
theorem laidOut : laidOutB Tryd.prog = true := by kernel_rfl

theorem walk (w : World) (wz : Tz (Hp.old w.heap)) (a0 : Option Addr) (len0 cap0 : Nat) (z0 : List Sp.Ent) (w0 : Hp.Ro (Hp.old w.heap) 2 (.slice a0 len0 cap0) (Sp.ecells z0) ∧ z0.length * 16 ≤ 140737488355328) (a1 : Option Addr) (len1 cap1 : Nat) (z1 : List Os.Call) (w1 : Hp.Ro (Hp.old w.heap) 4 (.slice a1 len1 cap1) (Os.ocells z1) ∧ ∀ o ∈ z1, Os.Fine w o) (a2 : Option Addr) (len2 cap2 : Nat) (z2 : List Os.Call) (w2 : Hp.Ro (Hp.old w.heap) 4 (.slice a2 len2 cap2) (Os.ocells z2) ∧ ∀ o ∈ z2, Os.Fine w o) :
    Calls Tryd.prog 7 #[.slice a0 len0 cap0, .slice a1 len1 cap1, .slice a2 len2 cap2] w fun e w' => e = .returned (.bool true) ∧ Below w.heap.size w w' := by
  exact Hp.tri_below (Sk5.back_tri wz w0.1 w0.2 w1.1 (fun o ho => ⟨(w1.2 o ho).2.1.2, S8.ro_one (w1.2 o ho).2.2.2, (w1.2 o ho).2.2.2⟩) w2.1 (fun o ho => S8.ro_one (w2.2 o ho).2.2.2))

set_option maxRecDepth 100000 in
theorem lifted (os : Os) (started : os.Started) (H : Type) (enc : TypeId × Value → H) :
    ReturnsInHanded {} Tryd.checked os 7 .any (fun w args => (Rows.spaceBackSpec.pre enc Tryd.prog Tryd.f7 [] false w args ∧ laidMetH Tryd.prog Ld.laid w) ∧ sizedMet enc Tryd.prog Tryd.f7 (OpenSpec.ofChange Rows.spaceBackSpec) false w args) (Rows.spaceBackSpec.post enc Tryd.prog Tryd.f7 false true false false) := by
  refine returnsInHanded_of_change_and (C := Tryd.checked) (X := fun w _ => laidMetH Tryd.prog Ld.laid w) (fun _ _ _ hh h => h.of_heap hh) own started (by kernel_rfl) Tryd.func7
    (ChangeSpec.witness_shaped (enc := enc) (C := Tryd.checked) (os := os) (X := fun w _ => laidMetH Tryd.prog Ld.laid w) false (World.doorLaid Tryd.prog 400 os) #[.slice none 0 0, .slice none 0 0, .slice none 0 0] 8 rfl (Ld.shaped os _) (by kernel_rfl) (by kernel_rfl) (by kernel_rfl) (Ld.door_met os _)) ?_
  intro W base args ds gs before hval0 hW _ hsz hL _
  have hval : ∀ (j : Nat) t v, Tryd.f7.params[j]? = some t → args[j]? = some v → Value.okWide Tryd.prog W .any base t v := hval0
  have hW' := hW
  obtain ⟨p, q, hA0, hV, rfl, hfz, hnd⟩ := hW
  have hA : DataW.TrodAll enc Tryd.prog W 0 (fun _ => true) true Tryd.f7.params.toList args.toList ds p := hA0
  rw [Tryd.params7] at hA hval
  obtain ⟨v0, vs0, d0, ds0, p0, q0, hargs, rfl, rfl, h0, r0⟩ := trodAll_cons hA
  obtain ⟨v1, vs1, d1, ds1, p1, q1, rfl, rfl, rfl, h1, r1⟩ := trodAll_cons r0
  obtain ⟨v2, vs2, d2, ds2, p2, q2, rfl, rfl, rfl, h2, r2⟩ := trodAll_cons r1
  obtain ⟨rfl, rfl, rfl⟩ := trodAll_nil r2
  obtain rfl : args = #[v0, v1, v2] := by cases args; simp_all
  obtain ⟨rfl, rfl⟩ := trodVars_none hV
  obtain ⟨a0, len0, cap0, rfl⟩ := okWide_slice Tryd.underlying27 (hval 0 27 v0 rfl rfl)
  have k0 := h0
  have lt0 : ∀ x ∈ p0, x.block < W.heap.size := by obtain ⟨m, hm⟩ := k0; exact DataW.trod_lt m _ _ _ hm
  obtain ⟨z0, w0⟩ : ∃ xs, Hp.Ro (Hp.old W.heap) 2 (.slice a0 len0 cap0) (Sp.ecells xs) ∧ (xs = [] ∨ ∃ elems spare, d0 = .slice elems spare ∧ elems.length = xs.length) := by
    obtain ⟨fuel, hf⟩ := h0
    exact Oe.open_ents hf
  have b0 : z0.length * 16 ≤ 140737488355328 := by
    rcases w0.2 with h0 | ⟨elems, spare, hd, hl⟩
    · rw [h0]; decide
    · have h9 : (elems.length + spare.length) * Tryd.prog.bytesOf 43 ≤ reachBytes := sized_slice hsz (j := 0) (t := 27) (e := 43) (elems := elems) (spare := spare) (by rw [Tryd.params7]; rfl) (by rw [hd]; rfl) Tryd.underlying27
      rw [show Tryd.prog.bytesOf 43 = 16 by kernel_rfl] at h9
      have h8 : reachBytes = 140737488351232 := by decide
      have h7 : elems.length * 16 ≤ (elems.length + spare.length) * 16 := Nat.mul_le_mul_right _ (Nat.le_add_right _ _)
      rw [hl] at h7
      omega
  obtain ⟨a1, len1, cap1, rfl⟩ := okWide_slice Tryd.underlying46 (hval 1 46 v1 rfl rfl)
  have k1 := h1
  have lt1 : ∀ x ∈ p1, x.block < W.heap.size := by obtain ⟨m, hm⟩ := k1; exact DataW.trod_lt m _ _ _ hm
  obtain ⟨z1, w1⟩ : ∃ xs, Hp.Ro (Hp.old W.heap) 4 (.slice a1 len1 cap1) (Os.ocells xs) ∧ ∀ o ∈ xs, Os.Fine W o := by
    obtain ⟨fuel, hf⟩ := h1
    exact Os.open_ops hf
  obtain ⟨a2, len2, cap2, rfl⟩ := okWide_slice Tryd.underlying46 (hval 2 46 v2 rfl rfl)
  have k2 := h2
  have lt2 : ∀ x ∈ p2, x.block < W.heap.size := by obtain ⟨m, hm⟩ := k2; exact DataW.trod_lt m _ _ _ hm
  obtain ⟨z2, w2⟩ : ∃ xs, Hp.Ro (Hp.old W.heap) 4 (.slice a2 len2 cap2) (Os.ocells xs) ∧ ∀ o ∈ xs, Os.Fine W o := by
    obtain ⟨fuel, hf⟩ := h2
    exact Os.open_ops hf
  clear hA0 hval0
  refine (walk W (Ld.tz_of_laid hL) a0 len0 cap0 z0 ⟨w0.1, b0⟩ a1 len1 cap1 z1 w1 a2 len2 cap2 z2 w2).mono fun e W' ⟨he, bel⟩ => ?_
  subst he
  exact ⟨_, rfl, _, _, _, [], _, [], hW', trodAll_mk1 (shut_bool Tryd.underlying4 _), (trodAll_cons_mk (Below.trod laidOut (by kernel_rfl) (of_decide_eq_true (by kernel_rfl)) k0 bel lt0) (trodAll_cons_mk (Below.trod laidOut (by kernel_rfl) (of_decide_eq_true (by kernel_rfl)) k1 bel lt1) (trodAll_cons_mk (Below.trod laidOut (by kernel_rfl) (of_decide_eq_true (by kernel_rfl)) k2 bel lt2) trodAll_mk0))), rfl, bel.frame _, fun h => by cases h⟩

theorem over : Rows.spaceBackRow.holds Tryd.pinned (OpenSpec.ofChange Rows.spaceBackSpec) :=
  OpenClaim.holds_of_wide 7 Tryd.f7 rfl rfl rfl rfl rfl rfl rfl ⟨rfl, rfl, rfl, rfl, rfl⟩ rfl rfl rfl rfl rfl (by kernel_rfl) Tryd.func7 (by kernel_rfl)
    (of_decide_eq_true (by kernel_rfl)) (by unfold Func.isWrapper; first | (rw [if_pos (by decide +kernel)]; kernel_rfl) | (rw [if_neg (by decide +kernel)]; exact ⟨rfl, rfl⟩))
    (fun os started H enc _ => lifted os started H enc)

theorem proved : Rows.SpaceBackCardSaid :=
  Claim7.holds_tied_plain_at .later [] [.data] true (true, "26e3836636e69c89a2088bd1d3436860535e316ddbfaf8a3cb9de952b4aedd2d") true
    over (fun _ h => by cases h) (by kernel_rfl) (fun _ h => by cases h) spaceBack_row_tie rfl ⟨rfl, rfl⟩ (by kernel_rfl) rfl
    (fun f fn hf hfn => by
      obtain rfl : f = 7 := Option.some.inj ((show Tryd.prog.funcNamed "portage/portagelaw08.SpaceBack" = some 7 by kernel_rfl).symm.trans hf) |>.symm
      obtain rfl : fn = Tryd.f7 := (Option.some.inj (Tryd.func7.symm.trans hfn)).symm
      refine ⟨by kernel_rfl, fun j t ht => ?_⟩
      have hall : (Tryd.f7.params.toList.all fun u => !Tryd.prog.wantsStandIn u) = true := by kernel_rfl
      have hm : t ∈ Tryd.f7.params.toList := Array.mem_toList_iff.2 (Array.mem_of_getElem? ht)
      have h3 := List.all_eq_true.1 hall t hm
      exact (show Tryd.prog.wantsStandIn t = false by simpa using h3))
    (by kernel_rfl)
end Go.Proofs.YtejaonodaplbhaaDoor.spaceBack
