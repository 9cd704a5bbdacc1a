import Derived.Test.YtiikdofbaoidcaaKr
import Derived.RangeFuncSeq
import Derived.RangeFuncGives
import Derived.WalkKit
import Derived.OwnWalkIn
import Derived.TacticsInMore
import Derived.RegionIn
import Derived.LoopNIn
import Derived.LoopIn
import Derived.Sort.MapsRangeIn
set_option linter.unusedVariables false
set_option linter.unusedSimpArgs false
namespace Go.Proofs.Ytiikdofbaoidcaa.Ks
open Go Go.RowKit Go.Maps Mp Kr
attribute [local go_sem] Oper.semAt_some
theorem rgs_left {α : Type} {enc : α → Value} {w : World} {b r : Nat} {D : List (α × Value)} {ss : List α} (h : Rgs enc w b r D ss) : w.rangeLeft b r = D.length - ss.length := by
  obtain ⟨es, clock, since, seen, c0, hb, hE, hr, _, _, _, hss⟩ := h
  simp only [World.rangeLeft, hb, hr]
  have h1 := hss.length_eq
  have h2 := hE.2.length_eq
  have h3 : (es.toList.filter fun x => seen.contains x.born).length + (es.toList.filter fun x => !seen.contains x.born).length = es.toList.length := by
    generalize es.toList = l
    induction l with
    | nil => rfl
    | cons x l ih =>
      rw [List.filter_cons, List.filter_cons]
      cases seen.contains x.born
      · simp only [Bool.not_false, if_true, Bool.false_eq_true, if_false, List.length_cons]; omega
      · simp only [Bool.not_true, if_true, Bool.false_eq_true, if_false, List.length_cons]; omega
  have h4 : (leftOf es seen).size = (es.toList.filter fun e => !seen.contains e.born).length := by
    unfold leftOf
    rw [← Array.length_toList, Array.toList_filter]
  simp only [List.length_map] at h1 h2
  omega
theorem rgs_walk {α : Type} {enc : α → Value} {w : World} {b r : Nat} {D : List (α × Value)} {ss : List α} (h : Rgs enc w b r D ss) : ∃ o : Obj, w.heap[r]? = some o ∧ o.isWalk = true := by
  obtain ⟨es, clock, since, seen, c0, hb, hE, hr, _, _, _, hss⟩ := h
  exact ⟨_, hr, rfl⟩
theorem rgs_alloc {α : Type} {enc : α → Value} {w : World} {b r : Nat} {D : List (α × Value)} {ss : List α} (h : Rgs enc w b r D ss) (o : Obj) : Rgs enc (w.alloc o) b r D ss :=
  h.kept ((MapKept.heap_alloc w o).2 b h.lt.1) ((MapKept.heap_alloc w o).2 r h.lt.2)
theorem rgs_walks {α : Type} {enc : α → Value} {w w' : World} {b r : Nat} {D : List (α × Value)} {ss : List α} (h : Rgs enc w b r D ss) (hk : KeepsWalks w w') : Rgs enc w' b r D ss := by
  obtain ⟨es, clock, since, seen, c0, hb, hE, hr, rest⟩ := h
  exact ⟨es, clock, since, seen, c0, hk.same b _ hb rfl, hE, hk.same r _ hr rfl, rest⟩
set_option maxRecDepth 100000 in
set_option maxHeartbeats 2000000 in
theorem keysT (F : Fence) (n : Nat) (hF : F.fn 40) (hro : F.round = none) (hn : 1 ≤ n) (Bm b : Nat) {D : List (Two × Value)} {es : Array MapEntry} {clock : Nat} (w : World) (hBm : Bm < w.heap.size)
    (hm : w.cell? ⟨Bm, 0, none⟩ = some (.map (some b))) (hb : w.heap[b]? = some (.map es clock)) (hE : Ents encT es clock D) :
    SeqGives F n Try.prog 40 #[.pointer (some ⟨Bm, 0, none⟩)] encT (fun ss => ss.Perm (D.map (·.1))) D.length w := fun l J W hW hJ hY h0 => by
  have hb' : W.heap[b]? = some (.map es clock) := (hW.block b (Array.getElem?_eq_some_iff.1 hb).1).trans hb
  have hm' : W.cell? ⟨Bm, 0, none⟩ = some (.map (some b)) := (hW.cell (p := ⟨Bm, 0, none⟩) hBm).trans hm
  refine callsIn_of_wp Try.func40 rfl hF ?_ hro
  simp only [Try.ntmps40, List.size_toArray, List.length_cons, List.length_nil, Nat.reduceAdd, Nat.reduceSub, Array.replicate_succ, Array.replicate_zero, List.push_toArray, List.append_toArray, List.nil_append, List.cons_append]
  gi_wp2_with (first
    | (gi_at_range; refine wpListIn_range_m _ rfl _ 62 rfl 32 3 Try.underlying62 b rfl hb' hE ?_; intro hrg0)
    | gi_in)
  go_frame
  gi_loopw [3] (fun _ wr => ∃ ss : List Two, Rgs encT wr b W.heap.size D ss ∧ J ss wr)
    (fun _ wr => wr.rangeLeft b W.heap.size)
  case atStart => exact ⟨[], hrg0, hJ [] W _ none h0 (World.grownBy_alloc W _ none) (fun r e => by cases e)⟩
  case round =>
    obtain ⟨ss, hrg, hJs⟩ := hrel
    gi_wp2_with (first
      | (gi_at_next; refine wpListIn_next_m _ rfl _ rfl 32 ko_two b W.heap.size rfl hrg ?_ ?_)
      | gi_in)
    · intro hp
      gi_wp2
      go_end0
      exact ⟨⟨_, rfl⟩, ss, hp, hJs⟩
    · intro x1 x2 v w2 hrg2 hg2 hs2 hlt hen
      have hJ2 : J ss w2 := hJ ss wr w2 (some W.heap.size) hJs hg2 (fun r e => by cases e; exact ⟨Nat.le_refl _, rgs_walk hrg⟩)
      have hJ3 : J ss (w2.alloc (Obj.cells #[.int .i64 x1, .int .i64 x2] 32)) := hJ ss w2 _ none hJ2 (World.grownBy_alloc w2 _ none) (fun r e => by cases e)
      have hrg3 := rgs_alloc hrg2 (Obj.cells #[.int .i64 x1, .int .i64 x2] 32)
      obtain ⟨fn, tmps, assign, body, hy, hR⟩ := hY ss (x1, x2) _ hJ3 hlt
      clear hs2
      simp only [encT] at hen hy
      gi_wp2
      refine hR.mono ?_
      rintro e W3 ⟨rfl, hJ4, hk3⟩
      gi_wp2
      have hrg4 := rgs_walks hrg3 hk3
      go_roundw
      case rel => exact ⟨ss ++ [(x1, x2)], hrg4, hJ4⟩
      case measure => rw [rgs_left hrg4, rgs_left hrg, List.length_append]; simp only [List.length_cons, List.length_nil]; omega
set_option maxRecDepth 100000 in
set_option maxHeartbeats 1000000 in
theorem keysT_nil (F : Fence) (n : Nat) (hF : F.fn 40) (hro : F.round = none) (Bm : Nat) (w : World) (hBm : Bm < w.heap.size) (hm : w.cell? ⟨Bm, 0, none⟩ = some (.map none)) :
    SeqGives F n Try.prog 40 #[.pointer (some ⟨Bm, 0, none⟩)] encT (fun ss => ss = []) 0 w := fun l J W hW hJ hY h0 => by
  have hm' : W.cell? ⟨Bm, 0, none⟩ = some (.map none) := (hW.cell (p := ⟨Bm, 0, none⟩) hBm).trans hm
  refine callsIn_of_wp Try.func40 rfl hF ?_ hro
  simp only [Try.ntmps40, List.size_toArray, List.length_cons, List.length_nil, Nat.reduceAdd, Nat.reduceSub, Array.replicate_succ, Array.replicate_zero, List.push_toArray, List.append_toArray, List.nil_append, List.cons_append]
  have hrg := run_range_nilMap (P := Try.prog) W 62 32 3 Try.underlying62
  have hnx : ∀ ty, (Instr.next (.pointer (some ⟨W.heap.size, 0, none⟩)) false ty).run Try.prog (W.alloc (.mapIter none 0 #[] 0)) = _ := fun ty => run_next_nilMap _ ty 0 0 #[]
  gi_wp2
  refine wpIn_loop_rounds 1 ?_
  rw [roundsIn_succ]
  gi_wp2
  go_end0
  exact ⟨⟨_, rfl⟩, [], rfl, hJ [] W _ none h0 (World.grownBy_alloc W _ none) (fun r e => by cases e)⟩
end Go.Proofs.Ytiikdofbaoidcaa.Ks
