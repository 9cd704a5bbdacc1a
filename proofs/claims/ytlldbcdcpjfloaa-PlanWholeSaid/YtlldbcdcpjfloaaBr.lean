import Derived.Test.YtlldbcdcpjfloaaPl1
import Derived.Test.YtlldbcdcpjfloaaSh4
import Derived.Shelf.SlIterI.Sorted
import Derived.WalkKit
import Derived.OwnWalkIn
import Derived.TacticsInMore
import Derived.LoopNIn
import Derived.LoopIn
set_option linter.unusedVariables false
set_option linter.unusedSimpArgs false
namespace Go.Proofs.Ytlldbcdcpjfloaa.Br
open Go Go.RowKit Go.Shelf Go.Sort Go.Maps
attribute [local go_sem] Oper.semAt_some
/-- an iterator that gives just xs, to rounds that leave alone what lay in w -/
def SeqB (F : Fence) (n : Nat) (P : Program) (g : Nat) (lb : Array Value) (xs : List Int) (w : World) : Prop :=
  ∀ (l : Nat) (J : List Int → World → Prop) (W : World), (∀ pre W1, J pre W1 → Below w.heap.size w W1) →
    (∀ pre x W1, J pre W1 → pre.length < xs.length → YieldAt F (n - 1) P l #[encZ x] W1 fun e W' => e = .returned (.bool true) ∧ J (pre ++ [x]) W') → J [] W →
    CallsIn F n P g (#[.func (.yield l) #[] #[]] ++ lb) W fun e W' => (∃ v, e = .returned v) ∧ J xs W'

set_option maxRecDepth 100000 in
set_option maxHeartbeats 2000000 in
theorem values1 (F : Fence) (n : Nat) (h7 : F.fn 32) (hro : F.round = none) (hn : 1 ≤ n) (l Bs b off len cap : Nat) (zs : List Int) (hlen : zs.length = len) (hreach : len ≤ 1000) (w0 : World) (hb : b < w0.heap.size) (hB : Bs < w0.heap.size)
    (J : List Int → World → Prop) (hJ : ∀ pre W1, J pre W1 → Below w0.heap.size w0 W1)
    (hY : ∀ pre x W, J pre W → pre.length < len → YieldAt F (n - 1) Try.prog l #[.int .i64 x] W fun e W' => e = .returned (.bool true) ∧ J (pre ++ [x]) W')
    (W : World) (hBs0 : w0.cell? ⟨Bs, 0, none⟩ = some (.slice (some ⟨b, off, none⟩) len cap)) (hc0 : ∀ j, j < len → w0.cell? ⟨b, off + j, none⟩ = some (.int .i64 (zs[j]?.getD 0))) (h0 : J [] W) :
    CallsIn F n Try.prog 32 #[.func (.yield l) #[] #[], .pointer (some ⟨Bs, 0, none⟩)] W fun e W' => (∃ v, e = .returned v) ∧ J zs W' := by
  have hBs : W.cell? ⟨Bs, 0, none⟩ = some (.slice (some ⟨b, off, none⟩) len cap) := ((hJ _ _ h0).cell (p := ⟨Bs, 0, none⟩) hB).trans hBs0
  refine callsIn_of_wp Try.func32 rfl h7 ?_ hro
  simp only [Try.ntmps32, List.size_toArray, List.length_cons, List.length_nil, Nat.reduceAdd, Nat.reduceSub, Array.replicate_succ, Array.replicate_zero, List.push_toArray, List.append_toArray, List.nil_append, List.cons_append]
  gi_wp2
  gi_loopw [7] (fun i wr => ∃ k : Nat, k ≤ len ∧ i = .int .i64 k ∧ J (zs.take k) wr) (fun i _ => len - (intOf i).toNat)
  case atStart => exact ⟨0, Nat.zero_le _, rfl, by simpa using h0⟩
  case round =>
    obtain ⟨k, hk, rfl, hJs⟩ := hrel
    have hcx : k < len → wr.cell? ⟨b, off + k, none⟩ = some (.int .i64 (zs[k]?.getD 0)) := fun h => ((hJ _ _ hJs).cell (p := ⟨b, off + k, none⟩) hb).trans (hc0 k h)
    by_cases hlt : k < len
    · have hcx' := hcx hlt
      have e1 : zs.take (k + 1) = zs.take k ++ [zs[k]?.getD 0] := by
        rw [List.take_succ_eq_append_getElem (by omega), List.getElem?_eq_getElem (by omega)]; rfl
      have HE : Hid (zs.take (k + 1) = zs.take k ++ [zs[k]?.getD 0]) := e1
      clear e1 hcx hc0
      generalize zs[k]?.getD 0 = x at hcx' HE
      obtain ⟨fn, tmps, assign, body, hy, hR⟩ := hY _ x wr hJs (by rw [List.length_take]; omega)
      gi_wp2
      refine hR.mono ?_
      rintro e W3 ⟨rfl, hJ3⟩
      gi_wp2
      go_roundw
      case rel =>
        refine ⟨k + 1, by omega, by simp, ?_⟩
        rw [HE.out]; exact hJ3
      case measure => simp [intOf]; omega
    · obtain rfl : k = len := by omega
      gi_wp2
      go_end0
      refine ⟨⟨_, rfl⟩, ?_⟩
      rw [List.take_of_length_le (by omega)] at hJs
      exact hJs

set_option maxRecDepth 100000 in
set_option maxHeartbeats 1000000 in
theorem values1_nil (F : Fence) (n : Nat) (h7 : F.fn 32) (hro : F.round = none) (l Bs : Nat) (bp : Option Addr) (cp : Nat) (J : List Int → World → Prop) (W : World) (hBs : W.cell? ⟨Bs, 0, none⟩ = some (.slice bp 0 cp)) (h0 : J [] W) :
    CallsIn F n Try.prog 32 #[.func (.yield l) #[] #[], .pointer (some ⟨Bs, 0, none⟩)] W fun e W' => (∃ v, e = .returned v) ∧ J [] W' := by
  refine callsIn_of_wp Try.func32 rfl h7 ?_ hro
  simp only [Try.ntmps32, List.size_toArray, List.length_cons, List.length_nil, Nat.reduceAdd, Nat.reduceSub, Array.replicate_succ, Array.replicate_zero, List.push_toArray, List.append_toArray, List.nil_append, List.cons_append]
  gi_wp2
  gi_loopw [7] (fun i wr => i = .int .i64 0 ∧ J [] wr) (fun _ _ => 0)
  case atStart => exact ⟨rfl, h0⟩
  case round =>
    obtain ⟨rfl, hJs⟩ := hrel
    gi_wp2
    go_end0
    exact ⟨⟨_, rfl⟩, hJs⟩
end Go.Proofs.Ytlldbcdcpjfloaa.Br
