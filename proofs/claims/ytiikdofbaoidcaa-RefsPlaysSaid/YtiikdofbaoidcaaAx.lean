import Derived.Test.YtiikdofbaoidcaaOw
import Derived.Test.YtiikdofbaoidcaaKi
import Derived.Test.YtiikdofbaoidcaaSh6
set_option linter.unusedVariables false
set_option linter.unusedSimpArgs false
namespace Go.Proofs.Ytiikdofbaoidcaa
namespace Ax
open Go Go.Proofs Go.Proofs.Ytiikdofbaoidcaa.Hp Mp Mq Rs Rt Ru Rv Ow
set_option maxRecDepth 10000
attribute [local irreducible] wpList Code.wp wpAny wpAnyK
def tab : Tab := [
  ⟨3, .int .i64, 1, 8, [.int .i64 0]⟩,
  ⟨4, .bool, 1, 1, [.bool false]⟩,
  ⟨51, .slice 3, 1, 24, [.slice none 0 0]⟩,
  ⟨32, .struct [(0, 3), (1, 3)], 2, 16, [.int .i64 0, .int .i64 0]⟩,
  ⟨35, .slice 32, 1, 24, [.slice none 0 0]⟩,
  ⟨65, .struct [(0, 62), (1, 63), (2, 62), (3, 4)], 4, 32, [.map none, .map none, .map none, .bool false]⟩,
  ⟨23, .pointer 65, 1, 8, [.pointer none]⟩,
  ⟨62, .map 32 3, 1, 8, [.map none]⟩,
  ⟨63, .map 3 62, 1, 8, [.map none]⟩,
  ⟨29, .iface, 1, 16, [.nilIface]⟩,
  ⟨66, .int .i64, 1, 8, [.int .i64 0]⟩]
theorem tab_3 : TE.ok Try.prog ⟨3, .int .i64, 1, 8, [.int .i64 0]⟩ := ⟨by kernel_rfl, by kernel_rfl, by kernel_rfl, by kernel_rfl⟩
theorem tab_4 : TE.ok Try.prog ⟨4, .bool, 1, 1, [.bool false]⟩ := ⟨by kernel_rfl, by kernel_rfl, by kernel_rfl, by kernel_rfl⟩
theorem tab_51 : TE.ok Try.prog ⟨51, .slice 3, 1, 24, [.slice none 0 0]⟩ := ⟨by kernel_rfl, by kernel_rfl, by kernel_rfl, by kernel_rfl⟩
theorem tab_32 : TE.ok Try.prog ⟨32, .struct [(0, 3), (1, 3)], 2, 16, [.int .i64 0, .int .i64 0]⟩ := ⟨by kernel_rfl, by kernel_rfl, by kernel_rfl, by kernel_rfl⟩
theorem tab_35 : TE.ok Try.prog ⟨35, .slice 32, 1, 24, [.slice none 0 0]⟩ := ⟨by kernel_rfl, by kernel_rfl, by kernel_rfl, by kernel_rfl⟩
theorem tab_65 : TE.ok Try.prog ⟨65, .struct [(0, 62), (1, 63), (2, 62), (3, 4)], 4, 32, [.map none, .map none, .map none, .bool false]⟩ := ⟨by kernel_rfl, by kernel_rfl, by kernel_rfl, by kernel_rfl⟩
theorem tab_23 : TE.ok Try.prog ⟨23, .pointer 65, 1, 8, [.pointer none]⟩ := ⟨by kernel_rfl, by kernel_rfl, by kernel_rfl, by kernel_rfl⟩
theorem tab_62 : TE.ok Try.prog ⟨62, .map 32 3, 1, 8, [.map none]⟩ := ⟨by kernel_rfl, by kernel_rfl, by kernel_rfl, by kernel_rfl⟩
theorem tab_63 : TE.ok Try.prog ⟨63, .map 3 62, 1, 8, [.map none]⟩ := ⟨by kernel_rfl, by kernel_rfl, by kernel_rfl, by kernel_rfl⟩
theorem tab_29 : TE.ok Try.prog ⟨29, .iface, 1, 16, [.nilIface]⟩ := ⟨by kernel_rfl, by kernel_rfl, by kernel_rfl, by kernel_rfl⟩
theorem tab_66 : TE.ok Try.prog ⟨66, .int .i64, 1, 8, [.int .i64 0]⟩ := ⟨by kernel_rfl, by kernel_rfl, by kernel_rfl, by kernel_rfl⟩
theorem tab_ok : tab.ok Try.prog := by
  intro e he
  simp only [tab, List.mem_cons, List.not_mem_nil, or_false] at he
  rcases he with rfl | rfl | rfl | rfl | rfl | rfl | rfl | rfl | rfl | rfl | rfl
  · exact tab_3
  · exact tab_4
  · exact tab_51
  · exact tab_32
  · exact tab_35
  · exact tab_65
  · exact tab_23
  · exact tab_62
  · exact tab_63
  · exact tab_29
  · exact tab_66

theorem ent33 : Hp.Enters Try.prog 33 := ⟨_, _, Try.func33, by kernel_rfl, rfl⟩
theorem ent32 : Hp.Enters Try.prog 32 := ⟨_, _, Try.func32, by kernel_rfl, rfl⟩

def srtI (l : List Int) : List Int := l.mergeSort fun x y => decide (x ≤ y)
theorem srtI_perm (l : List Int) : (srtI l).Perm l := List.mergeSort_perm ..
theorem srtI_sorted (l : List Int) : (srtI l).Pairwise fun x y => x ≤ y := by
  have h := List.pairwise_mergeSort (le := fun x y : Int => decide (x ≤ y)) (fun a b c h1 h2 => by simp at *; omega) (fun a b => by simp; omega) l
  exact h.imp fun h => by simpa using h
theorem keysI_tri (mo : Option Nat) : Tri Try.prog 33 [.map mo] [] fun v B => ∃ q, v = .func (.func 45) #[] #[ptr q] ∧ B = [cl q [.map mo] 63] := by
  refine tri_introX Try.func33 rfl Try.ntmps33 rfl fun E X => ?_
  (refine j_nm rfl ?_; repeat (first | refine jo_cons ?_ | (refine jo_iso ?_; first | (refine jo_isbin ?_; first | refine jo_v (by first | exact pv_add rfl rfl (by omega) | exact pv_sub rfl rfl (by omega)) rfl ?_ | refine jo_pure tab_ok rfl rfl ?_ | refine jo_v (by first | exact pv_add64 rfl rfl | exact pv_ptr_eq tab_ok rfl rfl rfl | exact pv_ptr_ne tab_ok rfl rfl rfl | exact pv_if_eq tab_ok rfl rfl rfl (.inl rfl) | exact pv_if_eq tab_ok rfl rfl rfl (.inr ⟨_, _, rfl⟩) | exact pv_if_ne tab_ok rfl rfl rfl (.inl rfl) | exact pv_if_ne tab_ok rfl rfl rfl (.inr ⟨_, _, rfl⟩)) rfl ?_) | refine jo_pure tab_ok rfl rfl ?_ | refine jo_want rfl ?_ | refine jo_skip rfl rfl ?_ | refine jo_load tab_ok rfl rfl rfl (by first | ((repeat first | exact Rd.here rfl | refine Rd.there ?_); done) | assumption) rfl ?_) | refine jo_nil ?_ | refine jc_seq ?_ | refine jc_skip ?_ | refine jc_region ?_ | refine jc_block ?_ | refine jc_ret ?_ | refine jc_exit ?_ | refine jx_then ?_ | refine jx_then_exit ?_ | refine jx_then_ret ?_ | refine jx_block ?_ | refine jx_block_ret ?_ | refine jx_block_hit ?_ | refine jx_block_miss rfl ?_ | refine jc_true rfl ?_ | refine jc_false rfl ?_))
  refine jo_box rfl rfl rfl fun q => ?_
  (refine j_nm rfl ?_; repeat (first | refine jo_cons ?_ | (refine jo_iso ?_; first | (refine jo_isbin ?_; first | refine jo_v (by first | exact pv_add rfl rfl (by omega) | exact pv_sub rfl rfl (by omega)) rfl ?_ | refine jo_pure tab_ok rfl rfl ?_ | refine jo_v (by first | exact pv_add64 rfl rfl | exact pv_ptr_eq tab_ok rfl rfl rfl | exact pv_ptr_ne tab_ok rfl rfl rfl | exact pv_if_eq tab_ok rfl rfl rfl (.inl rfl) | exact pv_if_eq tab_ok rfl rfl rfl (.inr ⟨_, _, rfl⟩) | exact pv_if_ne tab_ok rfl rfl rfl (.inl rfl) | exact pv_if_ne tab_ok rfl rfl rfl (.inr ⟨_, _, rfl⟩)) rfl ?_) | refine jo_pure tab_ok rfl rfl ?_ | refine jo_want rfl ?_ | refine jo_skip rfl rfl ?_ | refine jo_load tab_ok rfl rfl rfl (by first | ((repeat first | exact Rd.here rfl | refine Rd.there ?_); done) | assumption) rfl ?_) | refine jo_nil ?_ | refine jc_seq ?_ | refine jc_skip ?_ | refine jc_region ?_ | refine jc_block ?_ | refine jc_ret ?_ | refine jc_exit ?_ | refine jx_then ?_ | refine jx_then_exit ?_ | refine jx_then_ret ?_ | refine jx_block ?_ | refine jx_block_ret ?_ | refine jx_block_hit ?_ | refine jx_block_miss rfl ?_ | refine jc_true rfl ?_ | refine jc_false rfl ?_))
  exact j_ret [0] [] rfl ⟨q, rfl, rfl⟩ ⟨rfl, rfl⟩
theorem sorts (m : Nat) : AnyZI.SortsIn Try.prog Try.sortedL_ren Fence.wide m :=
  ⟨fun blk off cap ss W hH hblk hsz => callsIn_wide.2 (Try.slices_Sort_int blk off cap ss W hH hblk hsz), fun p cap W => callsIn_wide.2 (Try.slices_Sort_int_none p cap W)⟩
set_option maxHeartbeats 1000000 in
theorem sortedI_tri {q b : Nat} {D : List (Int × Value)} (hD : D.length ≤ 1000) :
    Tri Try.prog 32 [.func (.func 45) #[] #[ptr q]] [cl q [.map (some b)] 63, mp Mp.encI b D] fun v B => ∃ ss : List Int, ss.Perm (D.map (·.1)) ∧ B = [sl 3 1 v ((srtI ss).map I), cl q [.map (some b)] 63, mp Mp.encI b D] := by
  intro E F w hs
  obtain ⟨f, g, hsp, hcl, hL⟩ := hs.heap
  have hq := hsp.left hcl
  have hs2 : Sat E w (star (mp Mp.encI b D :: F)) := hs.imp fun m hm => star_drop hm
  obtain ⟨es, clock, hb, hE, _⟩ := sat_mp hs2
  have hqc : w.cell? ⟨q, 0, none⟩ = some (.map (some b)) := cell_block hq 0
  have cS := AnyZI.sorted_in Try.sortedL Fence.wide 5 trivial trivial trivial trivial rfl (by omega) (sorts _) (enters_of Try.func44 (by kernel_rfl) rfl) 45 #[ptr q] trivial (enters_of Try.func45 (by kernel_rfl) rfl) _ D.length (by simp only [maxLen]; omega) (by omega) w (Ki.keysI Fence.wide 2 trivial rfl (by omega) q b w (block_lt hq) hqc hb hE)
  change CallsIn _ _ Try.prog 32 _ _ _ at cS
  refine ((callsIn_wide (n := 5)).1 cS).mono ?_
  rintro e w' ⟨v, ss, rfl, hS, hrow, hnil, hb'⟩
  refine ⟨v, _, ⟨ss, hS, rfl⟩, rfl, ?_⟩
  exact Sat.below (N := [sl 3 1 v ((srtI ss).map I)]) (L := [cl q [.map (some b)] 63, mp Mp.encI b D] ++ F) hs hb' (sl_of_row (size := 1) (t := 3) hrow)
/-- the addresses: each that is named, once, rising -/
structure AddrsOf (R : List Own) (l : List Int) : Prop where
  sorted : l.Pairwise fun x y => x < y
  mem : ∀ a, a ∈ l ↔ ∃ o, (o, a) ∈ R
theorem by_len {R : List Own} {Bs : List (Int × Nat)} {Is : List (List Two)} (hB : By R Bs Is) : ∀ a, a ∈ Bs.map (·.1) ↔ ∃ o, (o, a) ∈ R := fun a => by
  rw [List.mem_map]
  constructor
  · rintro ⟨x, hx, rfl⟩
    obtain ⟨i, hi⟩ := List.getElem?_of_mem hx
    have hl : i < Is.length := by have := (List.getElem?_eq_some_iff.1 hi).1; have := hB.len; omega
    obtain ⟨_, hne⟩ := hB.nod i _ (List.getElem?_eq_getElem hl)
    obtain ⟨o, ho⟩ := List.exists_mem_of_ne_nil _ hne
    exact ⟨o, (hB.mem i x.1 x.2 _ hi (List.getElem?_eq_getElem hl) o).1 ho⟩
  · rintro ⟨o, ho⟩
    obtain ⟨i, k, hi⟩ := hB.all o a ho
    exact ⟨_, List.mem_of_getElem? hi, rfl⟩
theorem addrs_of {R : List Own} {Bs : List (Int × Nat)} {Is : List (List Two)} (hB : By R Bs Is) {ss : List Int} (h : ss.Perm (Bs.map (·.1))) : AddrsOf R (srtI ss) := by
  have hn : (srtI ss).Nodup := ((srtI_perm ss).trans h).nodup_iff.2 hB.nd
  refine ⟨(List.Pairwise.and (srtI_sorted ss) hn).imp fun ⟨h1, h2⟩ => by omega, fun a => ?_⟩
  rw [((srtI_perm ss).trans h).mem_iff, by_len hB]
end Ax
end Go.Proofs.Ytiikdofbaoidcaa
