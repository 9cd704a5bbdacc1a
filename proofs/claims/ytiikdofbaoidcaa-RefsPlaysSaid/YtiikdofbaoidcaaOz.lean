import Derived.Test.YtiikdofbaoidcaaAx
import Derived.Test.YtiikdofbaoidcaaMy
set_option linter.unusedVariables false
set_option linter.unusedSimpArgs false
namespace Go.Proofs.Ytiikdofbaoidcaa
namespace Oz
open Go Go.Proofs.Ytiikdofbaoidcaa.Hp Mp Mq Rs Rt Ru Rv Ap _root_.Go.Proofs.Ytiikdofbaoidcaa.So Ow Mo Mv Rk Mw Mx My Ax
set_option maxRecDepth 10000
attribute [local irreducible] wpList Code.wp wpAny wpAnyK
def tab : Tab := [
  ⟨3, .int .i64, 1, 8, [.int .i64 0]⟩,
  ⟨4, .bool, 1, 1, [.bool false]⟩,
  ⟨51, .slice 3, 1, 24, [.slice none 0 0]⟩,
  ⟨32, .struct [(0, 3), (1, 3)], 2, 16, [.int .i64 0, .int .i64 0]⟩,
  ⟨35, .slice 32, 1, 24, [.slice none 0 0]⟩,
  ⟨65, .struct [(0, 62), (1, 63), (2, 62), (3, 4)], 4, 32, [.map none, .map none, .map none, .bool false]⟩,
  ⟨23, .pointer 65, 1, 8, [.pointer none]⟩,
  ⟨27, .struct [(0, 3), (1, 3), (2, 3)], 3, 24, [.int .i64 0, .int .i64 0, .int .i64 0]⟩,
  ⟨22, .slice 27, 1, 24, [.slice none 0 0]⟩,
  ⟨62, .map 32 3, 1, 8, [.map none]⟩,
  ⟨63, .map 3 62, 1, 8, [.map none]⟩,
  ⟨29, .iface, 1, 16, [.nilIface]⟩,
  ⟨66, .int .i64, 1, 8, [.int .i64 0]⟩]
theorem tab_3 : TE.ok Try.prog ⟨3, .int .i64, 1, 8, [.int .i64 0]⟩ := ⟨by kernel_rfl, by kernel_rfl, by kernel_rfl, by kernel_rfl⟩
theorem tab_4 : TE.ok Try.prog ⟨4, .bool, 1, 1, [.bool false]⟩ := ⟨by kernel_rfl, by kernel_rfl, by kernel_rfl, by kernel_rfl⟩
theorem tab_51 : TE.ok Try.prog ⟨51, .slice 3, 1, 24, [.slice none 0 0]⟩ := ⟨by kernel_rfl, by kernel_rfl, by kernel_rfl, by kernel_rfl⟩
theorem tab_32 : TE.ok Try.prog ⟨32, .struct [(0, 3), (1, 3)], 2, 16, [.int .i64 0, .int .i64 0]⟩ := ⟨by kernel_rfl, by kernel_rfl, by kernel_rfl, by kernel_rfl⟩
theorem tab_35 : TE.ok Try.prog ⟨35, .slice 32, 1, 24, [.slice none 0 0]⟩ := ⟨by kernel_rfl, by kernel_rfl, by kernel_rfl, by kernel_rfl⟩
theorem tab_65 : TE.ok Try.prog ⟨65, .struct [(0, 62), (1, 63), (2, 62), (3, 4)], 4, 32, [.map none, .map none, .map none, .bool false]⟩ := ⟨by kernel_rfl, by kernel_rfl, by kernel_rfl, by kernel_rfl⟩
theorem tab_23 : TE.ok Try.prog ⟨23, .pointer 65, 1, 8, [.pointer none]⟩ := ⟨by kernel_rfl, by kernel_rfl, by kernel_rfl, by kernel_rfl⟩
theorem tab_27 : TE.ok Try.prog ⟨27, .struct [(0, 3), (1, 3), (2, 3)], 3, 24, [.int .i64 0, .int .i64 0, .int .i64 0]⟩ := ⟨by kernel_rfl, by kernel_rfl, by kernel_rfl, by kernel_rfl⟩
theorem tab_22 : TE.ok Try.prog ⟨22, .slice 27, 1, 24, [.slice none 0 0]⟩ := ⟨by kernel_rfl, by kernel_rfl, by kernel_rfl, by kernel_rfl⟩
theorem tab_62 : TE.ok Try.prog ⟨62, .map 32 3, 1, 8, [.map none]⟩ := ⟨by kernel_rfl, by kernel_rfl, by kernel_rfl, by kernel_rfl⟩
theorem tab_63 : TE.ok Try.prog ⟨63, .map 3 62, 1, 8, [.map none]⟩ := ⟨by kernel_rfl, by kernel_rfl, by kernel_rfl, by kernel_rfl⟩
theorem tab_29 : TE.ok Try.prog ⟨29, .iface, 1, 16, [.nilIface]⟩ := ⟨by kernel_rfl, by kernel_rfl, by kernel_rfl, by kernel_rfl⟩
theorem tab_66 : TE.ok Try.prog ⟨66, .int .i64, 1, 8, [.int .i64 0]⟩ := ⟨by kernel_rfl, by kernel_rfl, by kernel_rfl, by kernel_rfl⟩
theorem tab_ok : tab.ok Try.prog := by
  intro e he
  simp only [tab, List.mem_cons, List.not_mem_nil, or_false] at he
  rcases he with rfl | rfl | rfl | rfl | rfl | rfl | rfl | rfl | rfl | rfl | rfl | rfl | rfl
  · exact tab_3
  · exact tab_4
  · exact tab_51
  · exact tab_32
  · exact tab_35
  · exact tab_65
  · exact tab_23
  · exact tab_27
  · exact tab_22
  · exact tab_62
  · exact tab_63
  · exact tab_29
  · exact tab_66

theorem ent8 : Hp.Enters Try.prog 8 := ⟨_, _, Try.func8, by kernel_rfl, rfl⟩
theorem ent10 : Hp.Enters Try.prog 10 := ⟨_, _, Try.func10, by kernel_rfl, rfl⟩
theorem ent12 : Hp.Enters Try.prog 12 := ⟨_, _, Try.func12, by kernel_rfl, rfl⟩
theorem ent14 : Hp.Enters Try.prog 14 := ⟨_, _, Try.func14, by kernel_rfl, rfl⟩
theorem ent11 : Hp.Enters Try.prog 11 := ⟨_, _, Try.func11, by kernel_rfl, rfl⟩
theorem ent13 : Hp.Enters Try.prog 13 := ⟨_, _, Try.func13, by kernel_rfl, rfl⟩
theorem ent22 : Hp.Enters Try.prog 22 := ⟨_, _, Try.func22, by kernel_rfl, rfl⟩
theorem ent9 : Hp.Enters Try.prog 9 := ⟨_, _, Try.func9, by kernel_rfl, rfl⟩
theorem ent33 : Hp.Enters Try.prog 33 := ⟨_, _, Try.func33, by kernel_rfl, rfl⟩
theorem ent32 : Hp.Enters Try.prog 32 := ⟨_, _, Try.func32, by kernel_rfl, rfl⟩

theorem sub_len : ∀ (l m : List Int), l.Nodup → (∀ x ∈ l, x ∈ m) → l.length ≤ m.length
  | [], _, _, _ => Nat.zero_le _
  | a :: l, m, hn, h => by
    rw [List.nodup_cons] at hn
    have ha := h a (by simp)
    have h1 := sub_len l (m.erase a) hn.2 fun x hx => (List.mem_erase_of_ne (fun e => hn.1 (by rw [← e]; exact hx))).2 (h x (by simp [hx]))
    have h2 := List.length_erase_of_mem ha
    have h3 : 0 < m.length := List.length_pos_of_mem ha
    rw [List.length_cons]
    omega
set_option maxHeartbeats 2000000 in
theorem addrs_tri {p : Nat} {wv : Value} {bg : Bool} {R : List Own} (hR : R.length ≤ 1000) : Tri Try.prog 22 [ptr p] [Rf p wv bg R] fun v B => ∃ l : List Int, AddrsOf R l ∧ B = [sl 3 1 v (l.map I), Rf p wv bg R] := by
  refine tri_introX Try.func22 rfl Try.ntmps22 rfl fun E X => ?_
  refine j_rf fun ob bb Bs Is hB hok => ?_
  have hD : (bmap Bs).length ≤ 1000 := by
    have h1 := sub_len (Bs.map (·.1)) (R.map (·.2)) hB.nd fun a ha => by
      obtain ⟨o, ho⟩ := (by_len hB a).1 ha
      exact List.mem_map.2 ⟨_, ho, rfl⟩
    rw [List.length_map, List.length_map] at h1
    unfold bmap
    rw [List.length_map]
    omega
  have he : (bmap Bs).map (·.1) = Bs.map (·.1) := by unfold bmap; rw [List.map_map]; rfl
  (refine j_nm rfl ?_; repeat (first | refine jo_cons ?_ | (refine jo_iso ?_; first | (refine jo_isbin ?_; first | refine jo_v (by first | exact pv_add rfl rfl (by omega) | exact pv_sub rfl rfl (by omega)) rfl ?_ | refine jo_pure tab_ok rfl rfl ?_ | refine jo_v (by first | exact pv_add64 rfl rfl | exact pv_ptr_eq tab_ok rfl rfl rfl | exact pv_ptr_ne tab_ok rfl rfl rfl | exact pv_if_eq tab_ok rfl rfl rfl (.inl rfl) | exact pv_if_eq tab_ok rfl rfl rfl (.inr ⟨_, _, rfl⟩) | exact pv_if_ne tab_ok rfl rfl rfl (.inl rfl) | exact pv_if_ne tab_ok rfl rfl rfl (.inr ⟨_, _, rfl⟩)) rfl ?_) | refine jo_pure tab_ok rfl rfl ?_ | refine jo_want rfl ?_ | refine jo_skip rfl rfl ?_ | refine jo_load tab_ok rfl rfl rfl (by first | ((repeat first | exact Rd.here rfl | refine Rd.there ?_); done) | assumption) rfl ?_) | refine jo_nil ?_ | refine jc_seq ?_ | refine jc_skip ?_ | refine jc_region ?_ | refine jc_block ?_ | refine jc_ret ?_ | refine jc_exit ?_ | refine jx_then ?_ | refine jx_then_exit ?_ | refine jx_then_ret ?_ | refine jx_block ?_ | refine jx_block_ret ?_ | refine jx_block_hit ?_ | refine jx_block_miss rfl ?_ | refine jc_true rfl ?_ | refine jc_false rfl ?_))
  refine jo_call [] (keysI_tri (some bb)) ent33 rfl ⟨rfl, rfl⟩ rfl ?_
  rintro v B ⟨q, rfl, rfl⟩
  (refine j_nm rfl ?_; repeat (first | refine jo_cons ?_ | (refine jo_iso ?_; first | (refine jo_isbin ?_; first | refine jo_v (by first | exact pv_add rfl rfl (by omega) | exact pv_sub rfl rfl (by omega)) rfl ?_ | refine jo_pure tab_ok rfl rfl ?_ | refine jo_v (by first | exact pv_add64 rfl rfl | exact pv_ptr_eq tab_ok rfl rfl rfl | exact pv_ptr_ne tab_ok rfl rfl rfl | exact pv_if_eq tab_ok rfl rfl rfl (.inl rfl) | exact pv_if_eq tab_ok rfl rfl rfl (.inr ⟨_, _, rfl⟩) | exact pv_if_ne tab_ok rfl rfl rfl (.inl rfl) | exact pv_if_ne tab_ok rfl rfl rfl (.inr ⟨_, _, rfl⟩)) rfl ?_) | refine jo_pure tab_ok rfl rfl ?_ | refine jo_want rfl ?_ | refine jo_skip rfl rfl ?_ | refine jo_load tab_ok rfl rfl rfl (by first | ((repeat first | exact Rd.here rfl | refine Rd.there ?_); done) | assumption) rfl ?_) | refine jo_nil ?_ | refine jc_seq ?_ | refine jc_skip ?_ | refine jc_region ?_ | refine jc_block ?_ | refine jc_ret ?_ | refine jc_exit ?_ | refine jx_then ?_ | refine jx_then_exit ?_ | refine jx_then_ret ?_ | refine jx_block ?_ | refine jx_block_ret ?_ | refine jx_block_hit ?_ | refine jx_block_miss rfl ?_ | refine jc_true rfl ?_ | refine jc_false rfl ?_))
  refine jo_call [0, 2] (sortedI_tri (D := bmap Bs) hD) ent32 rfl ⟨rfl, rfl⟩ rfl ?_
  rintro v B ⟨ss, hp, rfl⟩
  rw [he] at hp
  (refine j_nm rfl ?_; repeat (first | refine jo_cons ?_ | (refine jo_iso ?_; first | (refine jo_isbin ?_; first | refine jo_v (by first | exact pv_add rfl rfl (by omega) | exact pv_sub rfl rfl (by omega)) rfl ?_ | refine jo_pure tab_ok rfl rfl ?_ | refine jo_v (by first | exact pv_add64 rfl rfl | exact pv_ptr_eq tab_ok rfl rfl rfl | exact pv_ptr_ne tab_ok rfl rfl rfl | exact pv_if_eq tab_ok rfl rfl rfl (.inl rfl) | exact pv_if_eq tab_ok rfl rfl rfl (.inr ⟨_, _, rfl⟩) | exact pv_if_ne tab_ok rfl rfl rfl (.inl rfl) | exact pv_if_ne tab_ok rfl rfl rfl (.inr ⟨_, _, rfl⟩)) rfl ?_) | refine jo_pure tab_ok rfl rfl ?_ | refine jo_want rfl ?_ | refine jo_skip rfl rfl ?_ | refine jo_load tab_ok rfl rfl rfl (by first | ((repeat first | exact Rd.here rfl | refine Rd.there ?_); done) | assumption) rfl ?_) | refine jo_nil ?_ | refine jc_seq ?_ | refine jc_skip ?_ | refine jc_region ?_ | refine jc_block ?_ | refine jc_ret ?_ | refine jc_exit ?_ | refine jx_then ?_ | refine jx_then_exit ?_ | refine jx_then_ret ?_ | refine jx_block ?_ | refine jx_block_ret ?_ | refine jx_block_hit ?_ | refine jx_block_miss rfl ?_ | refine jc_true rfl ?_ | refine jc_false rfl ?_))
  refine j_close [3, 3, 2, 2] rfl (rf_shut hB hok) ?_
  exact j_ret [1, 0] [2] rfl ⟨srtI ss, addrs_of hB hp, rfl⟩ ⟨rfl, rfl⟩
theorem pv_two_eq {l : Fr} {x y : Operand} {t' : TypeId} {a b : Two} (hx : ev l x = some (encT a)) (hy : ev l y = some (encT b)) : PV Try.prog l (.binOp .eql 32 x y t') (.bool (decide (a = b))) := by
  refine pv_bin hx hy fun w => ?_
  rw [Sem.run_bind]
  have h1 : (eqGuard .eql 32 x y (encT a) (encT b)).run Try.prog w = .ok () w := run_eqGuard_agg w .eql 32 x y _ _ (by kernel_rfl)
  rw [h1]
  simp only [Result.andThen_ok]
  have h2 := eq_two a b w
  show (binOp .eql 32 (encT a) (encT b)).run Try.prog w = _
  unfold encT at h2 ⊢
  rw [run_eql_struct]
  have h3 : (Op.equalIn 10000 32 (.agg #[I a.1, I a.2]) (.agg #[I b.1, I b.2])).run Try.prog w = .ok (decide (a = b)) w := h2
  rw [h3]
  rfl
def cntA (R : List Own) (s : List Int) : Nat := (R.filter fun x => decide (x.2 ∈ s)).length
theorem cntA_step {R : List Own} {s : List Int} {a : Int} (h : a ∉ s) : cntA R (s ++ [a]) = cntA R s + (whoL R a).length := by
  unfold cntA whoL
  rw [List.length_map]
  induction R with
  | nil => rfl
  | cons x R ih =>
    rw [List.filter_cons, List.filter_cons, List.filter_cons]
    by_cases h1 : x.2 = a
    · have h2 : x.2 ∉ s := by rw [h1]; exact h
      simp [h1, h] at ih ⊢
      omega
    · by_cases h2 : x.2 ∈ s
      · simp [h1, h2] at ih ⊢
        omega
      · simp [h1, h2] at ih ⊢
        omega
theorem cntA_all {R : List Own} {s : List Int} (h : AddrsOf R s) : cntA R s = R.length := by
  unfold cntA
  rw [List.filter_eq_self.2 fun x hx => by simpa using (h.mem x.2).2 ⟨x.1, hx⟩]
theorem cntA_le (R : List Own) (s : List Int) : cntA R s ≤ R.length := List.length_filter_le ..
end Oz
end Go.Proofs.Ytiikdofbaoidcaa
