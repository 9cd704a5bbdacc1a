import Derived.Test.YtiikdofbaoidcaaAp
set_option linter.unusedVariables false
set_option linter.unusedSimpArgs false
namespace Go.Proofs.Ytiikdofbaoidcaa.Ki
open Go Go.RowKit Go.Maps Go.Proofs Go.Proofs.Ytiikdofbaoidcaa.Mp Go.Proofs.Ytiikdofbaoidcaa.Kr Go.Proofs.Ytiikdofbaoidcaa.Ks
attribute [local go_sem] Oper.semAt_some
set_option maxRecDepth 100000 in
set_option maxHeartbeats 2000000 in
theorem keysI (F : Fence) (n : Nat) (hF : F.fn 45) (hro : F.round = none) (hn : 1 ≤ n) (Bm b : Nat) {D : List (Int × Value)} {es : Array MapEntry} {clock : Nat} (w : World) (hBm : Bm < w.heap.size)
    (hm : w.cell? ⟨Bm, 0, none⟩ = some (.map (some b))) (hb : w.heap[b]? = some (.map es clock)) (hE : Ents Mp.encI es clock D) :
    SeqGives F n Try.prog 45 #[.pointer (some ⟨Bm, 0, none⟩)] encZ (fun ss => ss.Perm (D.map (·.1))) D.length w := fun l J W hW hJ hY h0 => by
  have hb' : W.heap[b]? = some (.map es clock) := (hW.block b (Array.getElem?_eq_some_iff.1 hb).1).trans hb
  have hm' : W.cell? ⟨Bm, 0, none⟩ = some (.map (some b)) := (hW.cell (p := ⟨Bm, 0, none⟩) hBm).trans hm
  refine callsIn_of_wp Try.func45 rfl hF ?_ hro
  simp only [Try.ntmps45, List.size_toArray, List.length_cons, List.length_nil, Nat.reduceAdd, Nat.reduceSub, Array.replicate_succ, Array.replicate_zero, List.push_toArray, List.append_toArray, List.nil_append, List.cons_append]
  gi_wp2_with (first
    | (gi_at_range; refine wpListIn_range_m _ rfl _ 63 rfl 3 62 Try.underlying63 b rfl hb' hE ?_; intro hrg0)
    | gi_in)
  go_frame
  gi_loopw [3] (fun _ wr => ∃ ss : List Int, Rgs Mp.encI wr b W.heap.size D ss ∧ J ss wr)
    (fun _ wr => wr.rangeLeft b W.heap.size)
  case atStart => exact ⟨[], hrg0, hJ [] W _ none h0 (World.grownBy_alloc W _ none) (fun r e => by cases e)⟩
  case round =>
    obtain ⟨ss, hrg, hJs⟩ := hrel
    gi_wp2_with (first
      | (gi_at_next; refine wpListIn_next_m _ rfl _ rfl 3 (ko_int Try.underlying3) b W.heap.size rfl hrg ?_ ?_)
      | gi_in)
    · intro hp
      gi_wp2
      go_end0
      exact ⟨⟨_, rfl⟩, ss, hp, hJs⟩
    · intro x v w2 hrg2 hg2 hs2 hlt hen
      have hJ2 : J ss w2 := hJ ss wr w2 (some W.heap.size) hJs hg2 (fun r e => by cases e; exact ⟨Nat.le_refl _, rgs_walk hrg⟩)
      obtain ⟨fn, tmps, assign, body, hy, hR⟩ := hY ss x _ hJ2 hlt
      clear hs2
      simp only [Mp.encI] at hen ⊢
      simp only [encZ] at hy
      gi_wp2
      refine hR.mono ?_
      rintro e W3 ⟨rfl, hJ4, hk3⟩
      gi_wp2
      have hrg4 := rgs_walks hrg2 hk3
      go_roundw
      case rel => exact ⟨ss ++ [x], hrg4, hJ4⟩
      case measure => rw [rgs_left hrg4, rgs_left hrg, List.length_append]; simp only [List.length_cons, List.length_nil]; omega
end Go.Proofs.Ytiikdofbaoidcaa.Ki
