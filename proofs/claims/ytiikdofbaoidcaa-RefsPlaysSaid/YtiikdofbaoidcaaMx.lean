import Derived.Test.YtiikdofbaoidcaaMw
set_option linter.unusedVariables false
set_option linter.unusedSimpArgs false
namespace Go.Proofs.Ytiikdofbaoidcaa
namespace Mx
open Go Go.Proofs.Ytiikdofbaoidcaa.Hp Mp Mq Rs Rt Ru Rv Ap _root_.Go.Proofs.Ytiikdofbaoidcaa.So Ow Mo Mv Rk Mw
set_option maxRecDepth 10000
attribute [local irreducible] wpList Code.wp wpAny wpAnyK
def tab : Tab := [
  ⟨3, .int .i64, 1, 8, [.int .i64 0]⟩,
  ⟨4, .bool, 1, 1, [.bool false]⟩,
  ⟨32, .struct [(0, 3), (1, 3)], 2, 16, [.int .i64 0, .int .i64 0]⟩,
  ⟨35, .slice 32, 1, 24, [.slice none 0 0]⟩,
  ⟨65, .struct [(0, 62), (1, 63), (2, 62), (3, 4)], 4, 32, [.map none, .map none, .map none, .bool false]⟩,
  ⟨23, .pointer 65, 1, 8, [.pointer none]⟩,
  ⟨27, .struct [(0, 3), (1, 3), (2, 3)], 3, 24, [.int .i64 0, .int .i64 0, .int .i64 0]⟩,
  ⟨22, .slice 27, 1, 24, [.slice none 0 0]⟩,
  ⟨62, .map 32 3, 1, 8, [.map none]⟩,
  ⟨63, .map 3 62, 1, 8, [.map none]⟩,
  ⟨29, .iface, 1, 16, [.nilIface]⟩,
  ⟨66, .int .i64, 1, 8, [.int .i64 0]⟩]
theorem tab_3 : TE.ok Try.prog ⟨3, .int .i64, 1, 8, [.int .i64 0]⟩ := ⟨by kernel_rfl, by kernel_rfl, by kernel_rfl, by kernel_rfl⟩
theorem tab_4 : TE.ok Try.prog ⟨4, .bool, 1, 1, [.bool false]⟩ := ⟨by kernel_rfl, by kernel_rfl, by kernel_rfl, by kernel_rfl⟩
theorem tab_32 : TE.ok Try.prog ⟨32, .struct [(0, 3), (1, 3)], 2, 16, [.int .i64 0, .int .i64 0]⟩ := ⟨by kernel_rfl, by kernel_rfl, by kernel_rfl, by kernel_rfl⟩
theorem tab_35 : TE.ok Try.prog ⟨35, .slice 32, 1, 24, [.slice none 0 0]⟩ := ⟨by kernel_rfl, by kernel_rfl, by kernel_rfl, by kernel_rfl⟩
theorem tab_65 : TE.ok Try.prog ⟨65, .struct [(0, 62), (1, 63), (2, 62), (3, 4)], 4, 32, [.map none, .map none, .map none, .bool false]⟩ := ⟨by kernel_rfl, by kernel_rfl, by kernel_rfl, by kernel_rfl⟩
theorem tab_23 : TE.ok Try.prog ⟨23, .pointer 65, 1, 8, [.pointer none]⟩ := ⟨by kernel_rfl, by kernel_rfl, by kernel_rfl, by kernel_rfl⟩
theorem tab_27 : TE.ok Try.prog ⟨27, .struct [(0, 3), (1, 3), (2, 3)], 3, 24, [.int .i64 0, .int .i64 0, .int .i64 0]⟩ := ⟨by kernel_rfl, by kernel_rfl, by kernel_rfl, by kernel_rfl⟩
theorem tab_22 : TE.ok Try.prog ⟨22, .slice 27, 1, 24, [.slice none 0 0]⟩ := ⟨by kernel_rfl, by kernel_rfl, by kernel_rfl, by kernel_rfl⟩
theorem tab_62 : TE.ok Try.prog ⟨62, .map 32 3, 1, 8, [.map none]⟩ := ⟨by kernel_rfl, by kernel_rfl, by kernel_rfl, by kernel_rfl⟩
theorem tab_63 : TE.ok Try.prog ⟨63, .map 3 62, 1, 8, [.map none]⟩ := ⟨by kernel_rfl, by kernel_rfl, by kernel_rfl, by kernel_rfl⟩
theorem tab_29 : TE.ok Try.prog ⟨29, .iface, 1, 16, [.nilIface]⟩ := ⟨by kernel_rfl, by kernel_rfl, by kernel_rfl, by kernel_rfl⟩
theorem tab_66 : TE.ok Try.prog ⟨66, .int .i64, 1, 8, [.int .i64 0]⟩ := ⟨by kernel_rfl, by kernel_rfl, by kernel_rfl, by kernel_rfl⟩
theorem tab_ok : tab.ok Try.prog := by
  intro e he
  simp only [tab, List.mem_cons, List.not_mem_nil, or_false] at he
  rcases he with rfl | rfl | rfl | rfl | rfl | rfl | rfl | rfl | rfl | rfl | rfl | rfl
  · exact tab_3
  · exact tab_4
  · exact tab_32
  · exact tab_35
  · exact tab_65
  · exact tab_23
  · exact tab_27
  · exact tab_22
  · exact tab_62
  · exact tab_63
  · exact tab_29
  · exact tab_66

theorem ent14 : Hp.Enters Try.prog 14 := ⟨_, _, Try.func14, by kernel_rfl, rfl⟩

theorem pv_sub1 {P : Program} {l : Fr} {x y : Operand} {t t' : TypeId} {j : Nat} (hj : j ≤ 1000) (hx : ev l x = some (I ((j + 1 : Nat) : Int))) (hy : ev l y = some (I 1)) : PV P l (.binOp .sub t x y t') (I (j : Nat)) := by
  have h : PV P l (.binOp .sub t x y t') (I (((j + 1 : Nat) : Int) - 1)) := pv_sub hx hy (by omega)
  rwa [show (((j + 1 : Nat) : Int) - 1) = (j : Nat) by omega] at h
set_option maxHeartbeats 8000000 in
theorem m17 {A : Assn} (E : World) (X : Assn) {p : Nat} {R : List Own} {frm to : Int} {n k : Nat} {mb : Option Addr} {mc : Nat} {S : List Two} (h0 : whoL R frm = []) (hn : R.length = n) (hk : S.length = k) (hk2 : k ≤ 1000)
    (hofs : ∀ o ∈ S, ofL R o = to) (hsort : S.Pairwise fun x y => x.1 < y.1 ∨ x.1 = y.1 ∧ x.2 < y.2) :
    J E (here Try.prog [.r, .r, .r, .r, .r, .r, .r] Try.f3 (QM E A [X])) 154 [(1, I frm), (2, I to), (7, ptr p), (10, I n), (11, I k), (14, .slice mb k mc)] [sl 32 2 (.slice mb k mc) (S.flatMap encC), Rf p (.map none) false R, A, X] := by
  refine j_here rfl ?_
  refine j_sl_ro fun hro => ?_
  obtain ⟨b', k', c', e, hl, hm, hor⟩ := hro
  cases e
  (refine j_nm rfl ?_; repeat (first | refine jo_cons ?_ | (refine jo_iso ?_; first | (refine jo_isbin ?_; first | refine jo_v (by first | exact pv_add rfl rfl (by omega) | exact pv_sub rfl rfl (by omega)) rfl ?_ | refine jo_pure tab_ok rfl rfl ?_ | refine jo_v (by first | exact pv_add64 rfl rfl | exact pv_ptr_eq tab_ok rfl rfl rfl | exact pv_ptr_ne tab_ok rfl rfl rfl | exact pv_if_eq tab_ok rfl rfl rfl (.inl rfl) | exact pv_if_eq tab_ok rfl rfl rfl (.inr ⟨_, _, rfl⟩) | exact pv_if_ne tab_ok rfl rfl rfl (.inl rfl) | exact pv_if_ne tab_ok rfl rfl rfl (.inr ⟨_, _, rfl⟩)) rfl ?_) | refine jo_pure tab_ok rfl rfl ?_ | refine jo_want rfl ?_ | refine jo_skip rfl rfl ?_ | refine jo_load tab_ok rfl rfl rfl (by first | ((repeat first | exact Rd.here rfl | refine Rd.there ?_); done) | assumption) rfl ?_) | refine jo_nil ?_ | refine jc_seq ?_ | refine jc_skip ?_ | refine jc_region ?_ | refine jc_block ?_ | refine jc_ret ?_ | refine jc_exit ?_ | refine jx_then ?_ | refine jx_then_exit ?_ | refine jx_then_ret ?_ | refine jx_block ?_ | refine jx_block_ret ?_ | refine jx_block_hit ?_ | refine jx_block_miss rfl ?_ | refine jc_true rfl ?_ | refine jc_false rfl ?_))
  refine jc_loop (ι := Nat) (fun i => [(87, I i), (86, I k), (85, .slice mb k mc), (1, I frm), (2, I to), (7, ptr p), (10, I n), (11, I k), (14, .slice mb k mc)])
    (fun _ => [sl 32 2 (.slice mb k mc) (S.flatMap encC), Rf p (.map none) false R, A, X]) (fun i => i ≤ k) (fun i => k - i) 0 [] [] (Nat.zero_le _) ⟨rfl, rfl, rfl, rfl, rfl, rfl, rfl, rfl, rfl, trivial⟩ rfl ?_
  intro i hi
  (refine j_nm rfl ?_; repeat (first | refine jo_cons ?_ | (refine jo_iso ?_; first | (refine jo_isbin ?_; first | refine jo_v (by first | exact pv_add rfl rfl (by omega) | exact pv_sub rfl rfl (by omega)) rfl ?_ | refine jo_pure tab_ok rfl rfl ?_ | refine jo_v (by first | exact pv_add64 rfl rfl | exact pv_ptr_eq tab_ok rfl rfl rfl | exact pv_ptr_ne tab_ok rfl rfl rfl | exact pv_if_eq tab_ok rfl rfl rfl (.inl rfl) | exact pv_if_eq tab_ok rfl rfl rfl (.inr ⟨_, _, rfl⟩) | exact pv_if_ne tab_ok rfl rfl rfl (.inl rfl) | exact pv_if_ne tab_ok rfl rfl rfl (.inr ⟨_, _, rfl⟩)) rfl ?_) | refine jo_pure tab_ok rfl rfl ?_ | refine jo_want rfl ?_ | refine jo_skip rfl rfl ?_ | refine jo_load tab_ok rfl rfl rfl (by first | ((repeat first | exact Rd.here rfl | refine Rd.there ?_); done) | assumption) rfl ?_) | refine jo_nil ?_ | refine jc_seq ?_ | refine jc_skip ?_ | refine jc_region ?_ | refine jc_block ?_ | refine jc_ret ?_ | refine jc_exit ?_ | refine jx_then ?_ | refine jx_then_exit ?_ | refine jx_then_ret ?_ | refine jx_block ?_ | refine jx_block_ret ?_ | refine jx_block_hit ?_ | refine jx_block_miss rfl ?_ | refine jc_true rfl ?_ | refine jc_false rfl ?_))
  refine jc_dec rfl (fun h => ?_) (fun h => ?_)
  · have hlt : i < k := by have h' : (i : Int) < k := h; omega
    have hiS : i < S.length := by omega
    obtain ⟨mp, mo_, rfl, ro⟩ := hor.resolve_left (by omega)
    obtain ⟨d1, d2⟩ := encC_at S i hiS
    have hof := hofs S[i] (List.getElem_mem hiS)
    have hpw : ∀ j (hj : j < i), S[j].1 < S[i].1 ∨ S[j].1 = S[i].1 ∧ S[j].2 < S[i].2 := fun j hj => List.pairwise_iff_getElem.1 hsort j i (by omega) hiS hj
    (refine j_nm rfl ?_; repeat (first | refine jo_cons ?_ | (refine jo_iso ?_; first | (refine jo_isbin ?_; first | refine jo_v (by first | exact pv_add rfl rfl (by omega) | exact pv_sub rfl rfl (by omega)) rfl ?_ | refine jo_pure tab_ok rfl rfl ?_ | refine jo_v (by first | exact pv_add64 rfl rfl | exact pv_ptr_eq tab_ok rfl rfl rfl | exact pv_ptr_ne tab_ok rfl rfl rfl | exact pv_if_eq tab_ok rfl rfl rfl (.inl rfl) | exact pv_if_eq tab_ok rfl rfl rfl (.inr ⟨_, _, rfl⟩) | exact pv_if_ne tab_ok rfl rfl rfl (.inl rfl) | exact pv_if_ne tab_ok rfl rfl rfl (.inr ⟨_, _, rfl⟩)) rfl ?_) | refine jo_pure tab_ok rfl rfl ?_ | refine jo_want rfl ?_ | refine jo_skip rfl rfl ?_ | refine jo_load tab_ok rfl rfl rfl (by first | ((repeat first | exact Rd.here rfl | refine Rd.there ?_); done) | assumption) rfl ?_) | refine jo_nil ?_ | refine jc_seq ?_ | refine jc_skip ?_ | refine jc_region ?_ | refine jc_block ?_ | refine jc_ret ?_ | refine jc_exit ?_ | refine jx_then ?_ | refine jx_then_exit ?_ | refine jx_then_ret ?_ | refine jx_block ?_ | refine jx_block_ret ?_ | refine jx_block_hit ?_ | refine jx_block_miss rfl ?_ | refine jc_true rfl ?_ | refine jc_false rfl ?_))
    refine jo_v (pv_index tab_ok i rfl rfl rfl rfl rfl rfl hlt) rfl (jo_cons ?_)
    refine jo_load_agg tab_ok (vs := [I S[i].1, I S[i].2]) rfl rfl rfl rfl (rd_two (ro _) d1 d2) rfl (jo_cons ?_)
    refine jo_alloc tab_ok rfl rfl fun q => jo_cons ?_
    (refine j_nm rfl ?_; repeat (first | refine jo_cons ?_ | (refine jo_iso ?_; first | (refine jo_isbin ?_; first | refine jo_v (by first | exact pv_add rfl rfl (by omega) | exact pv_sub rfl rfl (by omega)) rfl ?_ | refine jo_pure tab_ok rfl rfl ?_ | refine jo_v (by first | exact pv_add64 rfl rfl | exact pv_ptr_eq tab_ok rfl rfl rfl | exact pv_ptr_ne tab_ok rfl rfl rfl | exact pv_if_eq tab_ok rfl rfl rfl (.inl rfl) | exact pv_if_eq tab_ok rfl rfl rfl (.inr ⟨_, _, rfl⟩) | exact pv_if_ne tab_ok rfl rfl rfl (.inl rfl) | exact pv_if_ne tab_ok rfl rfl rfl (.inr ⟨_, _, rfl⟩)) rfl ?_) | refine jo_pure tab_ok rfl rfl ?_ | refine jo_want rfl ?_ | refine jo_skip rfl rfl ?_ | refine jo_load tab_ok rfl rfl rfl (by first | ((repeat first | exact Rd.here rfl | refine Rd.there ?_); done) | assumption) rfl ?_) | refine jo_nil ?_ | refine jc_seq ?_ | refine jc_skip ?_ | refine jc_region ?_ | refine jc_block ?_ | refine jc_ret ?_ | refine jc_exit ?_ | refine jx_then ?_ | refine jx_then_exit ?_ | refine jx_then_ret ?_ | refine jx_block ?_ | refine jx_block_ret ?_ | refine jx_block_hit ?_ | refine jx_block_miss rfl ?_ | refine jc_true rfl ?_ | refine jc_false rfl ?_))
    refine jo_store_agg tab_ok (vs := [I S[i].1, I S[i].2]) 0 rfl rfl rfl rfl (by simp [Hp.one]) ⟨rfl, rfl⟩ rfl ?_
    rcases i with _ | j
    · generalize S[0] = x at hof
      obtain ⟨x1, x2⟩ := x
      obtain ⟨i, hi0⟩ : ∃ i : Nat, i = 0 := ⟨_, rfl⟩
      (refine j_nm rfl ?_; repeat (first | refine jo_cons ?_ | (refine jo_iso ?_; first | (refine jo_isbin ?_; first | refine jo_v (by first | exact pv_add rfl rfl (by omega) | exact pv_sub rfl rfl (by omega)) rfl ?_ | refine jo_pure tab_ok rfl rfl ?_ | refine jo_v (by first | exact pv_add64 rfl rfl | exact pv_ptr_eq tab_ok rfl rfl rfl | exact pv_ptr_ne tab_ok rfl rfl rfl | exact pv_if_eq tab_ok rfl rfl rfl (.inl rfl) | exact pv_if_eq tab_ok rfl rfl rfl (.inr ⟨_, _, rfl⟩) | exact pv_if_ne tab_ok rfl rfl rfl (.inl rfl) | exact pv_if_ne tab_ok rfl rfl rfl (.inr ⟨_, _, rfl⟩)) rfl ?_) | refine jo_pure tab_ok rfl rfl ?_ | refine jo_want rfl ?_ | refine jo_skip rfl rfl ?_ | refine jo_load tab_ok rfl rfl rfl (by first | ((repeat first | exact Rd.here rfl | refine Rd.there ?_); done) | assumption) rfl ?_) | refine jo_nil ?_ | refine jc_seq ?_ | refine jc_skip ?_ | refine jc_region ?_ | refine jc_block ?_ | refine jc_ret ?_ | refine jc_exit ?_ | refine jx_then ?_ | refine jx_then_exit ?_ | refine jx_then_ret ?_ | refine jx_block ?_ | refine jx_block_ret ?_ | refine jx_block_hit ?_ | refine jx_block_miss rfl ?_ | refine jc_true rfl ?_ | refine jc_false rfl ?_))
      refine jc_drawh 99 [(q, 0, I x1), (q, 1, I x2)] mo (.cons (by first | ((repeat first | exact Rd.here rfl | refine Rd.there ?_); done) | assumption) (.cons (by first | ((repeat first | exact Rd.here rfl | refine Rd.there ?_); done) | assumption) .nil)) fun hrd => ?_
      refine jh_pure tab_ok 0 rfl (by kernel_rfl) rfl rfl hrd ?_
      refine jh_s 1 rfl (by kernel_rfl) (ps_load2 tab_ok 0 1 rfl rfl rfl rfl rfl rfl) rfl hrd ?_
      refine jh_pure tab_ok 3 rfl (by kernel_rfl) rfl rfl hrd ?_
      refine jh_one 2 rfl (by kernel_rfl) ?_
      refine jo_call [2] (of_tri x1 x2) ent14 rfl ⟨rfl, rfl⟩ rfl ?_
      rintro v B ⟨rfl, rfl⟩
      refine j_nm rfl ?_
      refine jh_back (.cons (by first | ((repeat first | exact Rd.here rfl | refine Rd.there ?_); done) | assumption) (.cons (by first | ((repeat first | exact Rd.here rfl | refine Rd.there ?_); done) | assumption) .nil)) fun hrd => ?_
      refine jh_s 4 rfl (by kernel_rfl) ((pv_neql_f rfl rfl hof).ps) rfl hrd ?_
      refine jh_one 5 rfl (by kernel_rfl) (jo_pure tab_ok rfl rfl (jh_back hrd fun hrd => ?_))
      refine jh_pureg tab_ok 6 rfl (by kernel_rfl) rfl rfl rfl hrd ?_
      refine jh_sg 7 rfl (by kernel_rfl) rfl ((pv_gtr_f rfl rfl (by omega)).ps) rfl hrd ?_
      refine jh_pureg tab_ok 8 rfl (by kernel_rfl) rfl rfl rfl hrd ?_
      refine jh_skip 9 rfl (by kernel_rfl) rfl rfl hrd ?_
      refine jh_skip 10 rfl (by kernel_rfl) rfl rfl hrd ?_
      refine jh_skip 11 rfl (by kernel_rfl) rfl rfl hrd ?_
      refine jh_skip 12 rfl (by kernel_rfl) rfl rfl hrd ?_
      refine jh_skip 13 rfl (by kernel_rfl) rfl rfl hrd ?_
      refine jh_skip 14 rfl (by kernel_rfl) rfl rfl hrd ?_
      refine jh_skip 15 rfl (by kernel_rfl) rfl rfl hrd ?_
      refine jh_skip 16 rfl (by kernel_rfl) rfl rfl hrd ?_
      refine jh_skip 17 rfl (by kernel_rfl) rfl rfl hrd ?_
      refine jh_skip 18 rfl (by kernel_rfl) rfl rfl hrd ?_
      refine jh_skip 19 rfl (by kernel_rfl) rfl rfl hrd ?_
      refine jh_skip 20 rfl (by kernel_rfl) rfl rfl hrd ?_
      refine jh_skip 21 rfl (by kernel_rfl) rfl rfl hrd ?_
      refine jh_skip 22 rfl (by kernel_rfl) rfl rfl hrd ?_
      refine jh_skip 23 rfl (by kernel_rfl) rfl rfl hrd ?_
      refine jh_skip 24 rfl (by kernel_rfl) rfl rfl hrd ?_
      refine jh_skip 25 rfl (by kernel_rfl) rfl rfl hrd ?_
      refine jh_skip 26 rfl (by kernel_rfl) rfl rfl hrd ?_
      refine jh_skip 27 rfl (by kernel_rfl) rfl rfl hrd ?_
      refine jh_skip 28 rfl (by kernel_rfl) rfl rfl hrd ?_
      refine jh_skip 29 rfl (by kernel_rfl) rfl rfl hrd ?_
      refine jh_skip 30 rfl (by kernel_rfl) rfl rfl hrd ?_
      refine jh_skip 31 rfl (by kernel_rfl) rfl rfl hrd ?_
      refine jh_skip 32 rfl (by kernel_rfl) rfl rfl hrd ?_
      refine jh_skip 33 rfl (by kernel_rfl) rfl rfl hrd ?_
      refine jh_skip 34 rfl (by kernel_rfl) rfl rfl hrd ?_
      refine jh_skip 35 rfl (by kernel_rfl) rfl rfl hrd ?_
      refine jh_skip 36 rfl (by kernel_rfl) rfl rfl hrd ?_
      refine jh_skip 37 rfl (by kernel_rfl) rfl rfl hrd ?_
      refine jh_skip 38 rfl (by kernel_rfl) rfl rfl hrd ?_
      refine jh_skip 39 rfl (by kernel_rfl) rfl rfl hrd ?_
      refine jh_pureg tab_ok 40 rfl (by kernel_rfl) rfl rfl rfl hrd ?_
      refine jh_one 41 rfl (by kernel_rfl) (jo_pure tab_ok rfl rfl (jh_back hrd fun hrd => ?_))
      refine jh_done (by kernel_rfl) ?_
      (refine j_nm rfl ?_; repeat (first | refine jo_cons ?_ | (refine jo_iso ?_; first | (refine jo_isbin ?_; first | refine jo_v (by first | exact pv_add rfl rfl (by omega) | exact pv_sub rfl rfl (by omega)) rfl ?_ | refine jo_pure tab_ok rfl rfl ?_ | refine jo_v (by first | exact pv_add64 rfl rfl | exact pv_ptr_eq tab_ok rfl rfl rfl | exact pv_ptr_ne tab_ok rfl rfl rfl | exact pv_if_eq tab_ok rfl rfl rfl (.inl rfl) | exact pv_if_eq tab_ok rfl rfl rfl (.inr ⟨_, _, rfl⟩) | exact pv_if_ne tab_ok rfl rfl rfl (.inl rfl) | exact pv_if_ne tab_ok rfl rfl rfl (.inr ⟨_, _, rfl⟩)) rfl ?_) | refine jo_pure tab_ok rfl rfl ?_ | refine jo_want rfl ?_ | refine jo_skip rfl rfl ?_ | refine jo_load tab_ok rfl rfl rfl (by first | ((repeat first | exact Rd.here rfl | refine Rd.there ?_); done) | assumption) rfl ?_) | refine jo_nil ?_ | refine jc_seq ?_ | refine jc_skip ?_ | refine jc_region ?_ | refine jc_block ?_ | refine jc_ret ?_ | refine jc_exit ?_ | refine jx_then ?_ | refine jx_then_exit ?_ | refine jx_then_ret ?_ | refine jx_block ?_ | refine jx_block_ret ?_ | refine jx_block_hit ?_ | refine jx_block_miss rfl ?_ | refine jc_true rfl ?_ | refine jc_false rfl ?_))
      exact jx_round 1 [1] [1] hlt (by omega) ⟨rfl, rfl, rfl, rfl, rfl, rfl, rfl, rfl, rfl, trivial⟩ rfl
    · have hj := hpw j (by omega)
      have hjS : j < S.length := by omega
      obtain ⟨c1, c2⟩ := encC_at S j hjS
      generalize S[j + 1] = x at hof hj
      generalize S[j] = y at hj c1 c2
      obtain ⟨x1, x2⟩ := x
      obtain ⟨y1, y2⟩ := y
      simp only at hj c1 c2
      by_cases he : y1 = x1
      · (refine j_nm rfl ?_; repeat (first | refine jo_cons ?_ | (refine jo_iso ?_; first | (refine jo_isbin ?_; first | refine jo_v (by first | exact pv_add rfl rfl (by omega) | exact pv_sub rfl rfl (by omega)) rfl ?_ | refine jo_pure tab_ok rfl rfl ?_ | refine jo_v (by first | exact pv_add64 rfl rfl | exact pv_ptr_eq tab_ok rfl rfl rfl | exact pv_ptr_ne tab_ok rfl rfl rfl | exact pv_if_eq tab_ok rfl rfl rfl (.inl rfl) | exact pv_if_eq tab_ok rfl rfl rfl (.inr ⟨_, _, rfl⟩) | exact pv_if_ne tab_ok rfl rfl rfl (.inl rfl) | exact pv_if_ne tab_ok rfl rfl rfl (.inr ⟨_, _, rfl⟩)) rfl ?_) | refine jo_pure tab_ok rfl rfl ?_ | refine jo_want rfl ?_ | refine jo_skip rfl rfl ?_ | refine jo_load tab_ok rfl rfl rfl (by first | ((repeat first | exact Rd.here rfl | refine Rd.there ?_); done) | assumption) rfl ?_) | refine jo_nil ?_ | refine jc_seq ?_ | refine jc_skip ?_ | refine jc_region ?_ | refine jc_block ?_ | refine jc_ret ?_ | refine jc_exit ?_ | refine jx_then ?_ | refine jx_then_exit ?_ | refine jx_then_ret ?_ | refine jx_block ?_ | refine jx_block_ret ?_ | refine jx_block_hit ?_ | refine jx_block_miss rfl ?_ | refine jc_true rfl ?_ | refine jc_false rfl ?_))
        refine jc_drawh 99 [(q, 0, I x1), (q, 1, I x2), (mp, mo_ + j * 2, I y1), (mp, mo_ + (j * 2 + 1), I y2)] mo (.cons (by first | ((repeat first | exact Rd.here rfl | refine Rd.there ?_); done) | assumption) (.cons (by first | ((repeat first | exact Rd.here rfl | refine Rd.there ?_); done) | assumption) (.cons (Rd.there ((ro _).one c1)) (.cons (Rd.there ((ro _).one c2)) .nil)))) fun hrd => ?_
        refine jh_pure tab_ok 0 rfl (by kernel_rfl) rfl rfl hrd ?_
        refine jh_s 1 rfl (by kernel_rfl) (ps_load2 tab_ok 0 1 rfl rfl rfl rfl rfl rfl) rfl hrd ?_
        refine jh_pure tab_ok 3 rfl (by kernel_rfl) rfl rfl hrd ?_
        refine jh_one 2 rfl (by kernel_rfl) ?_
        refine jo_call [2] (of_tri x1 x2) ent14 rfl ⟨rfl, rfl⟩ rfl ?_
        rintro v B ⟨rfl, rfl⟩
        refine j_nm rfl ?_
        refine jh_back (.cons (by first | ((repeat first | exact Rd.here rfl | refine Rd.there ?_); done) | assumption) (.cons (by first | ((repeat first | exact Rd.here rfl | refine Rd.there ?_); done) | assumption) (.cons (Rd.there (Rd.there ((ro _).one c1))) (.cons (Rd.there (Rd.there ((ro _).one c2))) .nil)))) fun hrd => ?_
        refine jh_s 4 rfl (by kernel_rfl) ((pv_neql_f rfl rfl hof).ps) rfl hrd ?_
        refine jh_one 5 rfl (by kernel_rfl) (jo_pure tab_ok rfl rfl (jh_back hrd fun hrd => ?_))
        refine jh_pureg tab_ok 6 rfl (by kernel_rfl) rfl rfl rfl hrd ?_
        refine jh_sg 7 rfl (by kernel_rfl) rfl ((pv_gtr_t rfl rfl (by omega)).ps) rfl hrd ?_
        refine jh_pureg tab_ok 8 rfl (by kernel_rfl) rfl rfl rfl hrd ?_
        refine jh_pureg tab_ok 9 rfl (by kernel_rfl) rfl rfl rfl hrd ?_
        refine jh_pureg tab_ok 10 rfl (by kernel_rfl) rfl rfl rfl hrd ?_
        refine jh_sg 11 rfl (by kernel_rfl) rfl ((pv_sub1 (by omega) rfl rfl).ps) rfl hrd ?_
        refine jh_sg 12 rfl (by kernel_rfl) rfl ((pv_index tab_ok j rfl rfl rfl rfl rfl rfl (by omega)).ps) rfl hrd ?_
        refine jh_pureg tab_ok 13 rfl (by kernel_rfl) rfl rfl rfl hrd ?_
        refine jh_sg 14 rfl (by kernel_rfl) rfl (ps_load tab_ok 2 rfl rfl rfl rfl) rfl hrd ?_
        refine jh_pureg tab_ok 15 rfl (by kernel_rfl) rfl rfl rfl hrd ?_
        refine jh_sg 16 rfl (by kernel_rfl) rfl (ps_load tab_ok 0 rfl rfl rfl rfl) rfl hrd ?_
        refine jh_sg 17 rfl (by kernel_rfl) rfl ((pv_gtr_f rfl rfl (by omega)).ps) rfl hrd ?_
        refine jh_pureg tab_ok 18 rfl (by kernel_rfl) rfl rfl rfl hrd ?_
        refine jh_pureg tab_ok 19 rfl (by kernel_rfl) rfl rfl rfl hrd ?_
        refine jh_pureg tab_ok 20 rfl (by kernel_rfl) rfl rfl rfl hrd ?_
        refine jh_sg 21 rfl (by kernel_rfl) rfl ((pv_sub1 (by omega) rfl rfl).ps) rfl hrd ?_
        refine jh_sg 22 rfl (by kernel_rfl) rfl ((pv_index tab_ok j rfl rfl rfl rfl rfl rfl (by omega)).ps) rfl hrd ?_
        refine jh_pureg tab_ok 23 rfl (by kernel_rfl) rfl rfl rfl hrd ?_
        refine jh_sg 24 rfl (by kernel_rfl) rfl (ps_load tab_ok 2 rfl rfl rfl rfl) rfl hrd ?_
        refine jh_pureg tab_ok 25 rfl (by kernel_rfl) rfl rfl rfl hrd ?_
        refine jh_sg 26 rfl (by kernel_rfl) rfl (ps_load tab_ok 0 rfl rfl rfl rfl) rfl hrd ?_
        refine jh_sg 27 rfl (by kernel_rfl) rfl ((pv_eql_t rfl rfl he).ps) rfl hrd ?_
        refine jh_pureg tab_ok 28 rfl (by kernel_rfl) rfl rfl rfl hrd ?_
        refine jh_pureg tab_ok 29 rfl (by kernel_rfl) rfl rfl rfl hrd ?_
        refine jh_pureg tab_ok 30 rfl (by kernel_rfl) rfl rfl rfl hrd ?_
        refine jh_sg 31 rfl (by kernel_rfl) rfl ((pv_sub1 (by omega) rfl rfl).ps) rfl hrd ?_
        refine jh_sg 32 rfl (by kernel_rfl) rfl ((pv_index tab_ok j rfl rfl rfl rfl rfl rfl (by omega)).ps) rfl hrd ?_
        refine jh_pureg tab_ok 33 rfl (by kernel_rfl) rfl rfl rfl hrd ?_
        refine jh_sg 34 rfl (by kernel_rfl) rfl (ps_load tab_ok 3 rfl rfl rfl rfl) rfl hrd ?_
        refine jh_pureg tab_ok 35 rfl (by kernel_rfl) rfl rfl rfl hrd ?_
        refine jh_sg 36 rfl (by kernel_rfl) rfl (ps_load tab_ok 1 rfl rfl rfl rfl) rfl hrd ?_
        refine jh_sg 37 rfl (by kernel_rfl) rfl ((pv_geq_f rfl rfl (by omega)).ps) rfl hrd ?_
        refine jh_pureg tab_ok 38 rfl (by kernel_rfl) rfl rfl rfl hrd ?_
        refine jh_pureg tab_ok 39 rfl (by kernel_rfl) rfl rfl rfl hrd ?_
        refine jh_pureg tab_ok 40 rfl (by kernel_rfl) rfl rfl rfl hrd ?_
        refine jh_one 41 rfl (by kernel_rfl) (jo_pure tab_ok rfl rfl (jh_back hrd fun hrd => ?_))
        refine jh_done (by kernel_rfl) ?_
        (refine j_nm rfl ?_; repeat (first | refine jo_cons ?_ | (refine jo_iso ?_; first | (refine jo_isbin ?_; first | refine jo_v (by first | exact pv_add rfl rfl (by omega) | exact pv_sub rfl rfl (by omega)) rfl ?_ | refine jo_pure tab_ok rfl rfl ?_ | refine jo_v (by first | exact pv_add64 rfl rfl | exact pv_ptr_eq tab_ok rfl rfl rfl | exact pv_ptr_ne tab_ok rfl rfl rfl | exact pv_if_eq tab_ok rfl rfl rfl (.inl rfl) | exact pv_if_eq tab_ok rfl rfl rfl (.inr ⟨_, _, rfl⟩) | exact pv_if_ne tab_ok rfl rfl rfl (.inl rfl) | exact pv_if_ne tab_ok rfl rfl rfl (.inr ⟨_, _, rfl⟩)) rfl ?_) | refine jo_pure tab_ok rfl rfl ?_ | refine jo_want rfl ?_ | refine jo_skip rfl rfl ?_ | refine jo_load tab_ok rfl rfl rfl (by first | ((repeat first | exact Rd.here rfl | refine Rd.there ?_); done) | assumption) rfl ?_) | refine jo_nil ?_ | refine jc_seq ?_ | refine jc_skip ?_ | refine jc_region ?_ | refine jc_block ?_ | refine jc_ret ?_ | refine jc_exit ?_ | refine jx_then ?_ | refine jx_then_exit ?_ | refine jx_then_ret ?_ | refine jx_block ?_ | refine jx_block_ret ?_ | refine jx_block_hit ?_ | refine jx_block_miss rfl ?_ | refine jc_true rfl ?_ | refine jc_false rfl ?_))
        exact jx_round (j + 2) [1] [1] hlt (by omega) ⟨rfl, rfl, rfl, rfl, rfl, rfl, rfl, rfl, rfl, trivial⟩ rfl
      · (refine j_nm rfl ?_; repeat (first | refine jo_cons ?_ | (refine jo_iso ?_; first | (refine jo_isbin ?_; first | refine jo_v (by first | exact pv_add rfl rfl (by omega) | exact pv_sub rfl rfl (by omega)) rfl ?_ | refine jo_pure tab_ok rfl rfl ?_ | refine jo_v (by first | exact pv_add64 rfl rfl | exact pv_ptr_eq tab_ok rfl rfl rfl | exact pv_ptr_ne tab_ok rfl rfl rfl | exact pv_if_eq tab_ok rfl rfl rfl (.inl rfl) | exact pv_if_eq tab_ok rfl rfl rfl (.inr ⟨_, _, rfl⟩) | exact pv_if_ne tab_ok rfl rfl rfl (.inl rfl) | exact pv_if_ne tab_ok rfl rfl rfl (.inr ⟨_, _, rfl⟩)) rfl ?_) | refine jo_pure tab_ok rfl rfl ?_ | refine jo_want rfl ?_ | refine jo_skip rfl rfl ?_ | refine jo_load tab_ok rfl rfl rfl (by first | ((repeat first | exact Rd.here rfl | refine Rd.there ?_); done) | assumption) rfl ?_) | refine jo_nil ?_ | refine jc_seq ?_ | refine jc_skip ?_ | refine jc_region ?_ | refine jc_block ?_ | refine jc_ret ?_ | refine jc_exit ?_ | refine jx_then ?_ | refine jx_then_exit ?_ | refine jx_then_ret ?_ | refine jx_block ?_ | refine jx_block_ret ?_ | refine jx_block_hit ?_ | refine jx_block_miss rfl ?_ | refine jc_true rfl ?_ | refine jc_false rfl ?_))
        refine jc_drawh 99 [(q, 0, I x1), (q, 1, I x2), (mp, mo_ + j * 2, I y1), (mp, mo_ + (j * 2 + 1), I y2)] mo (.cons (by first | ((repeat first | exact Rd.here rfl | refine Rd.there ?_); done) | assumption) (.cons (by first | ((repeat first | exact Rd.here rfl | refine Rd.there ?_); done) | assumption) (.cons (Rd.there ((ro _).one c1)) (.cons (Rd.there ((ro _).one c2)) .nil)))) fun hrd => ?_
        refine jh_pure tab_ok 0 rfl (by kernel_rfl) rfl rfl hrd ?_
        refine jh_s 1 rfl (by kernel_rfl) (ps_load2 tab_ok 0 1 rfl rfl rfl rfl rfl rfl) rfl hrd ?_
        refine jh_pure tab_ok 3 rfl (by kernel_rfl) rfl rfl hrd ?_
        refine jh_one 2 rfl (by kernel_rfl) ?_
        refine jo_call [2] (of_tri x1 x2) ent14 rfl ⟨rfl, rfl⟩ rfl ?_
        rintro v B ⟨rfl, rfl⟩
        refine j_nm rfl ?_
        refine jh_back (.cons (by first | ((repeat first | exact Rd.here rfl | refine Rd.there ?_); done) | assumption) (.cons (by first | ((repeat first | exact Rd.here rfl | refine Rd.there ?_); done) | assumption) (.cons (Rd.there (Rd.there ((ro _).one c1))) (.cons (Rd.there (Rd.there ((ro _).one c2))) .nil)))) fun hrd => ?_
        refine jh_s 4 rfl (by kernel_rfl) ((pv_neql_f rfl rfl hof).ps) rfl hrd ?_
        refine jh_one 5 rfl (by kernel_rfl) (jo_pure tab_ok rfl rfl (jh_back hrd fun hrd => ?_))
        refine jh_pureg tab_ok 6 rfl (by kernel_rfl) rfl rfl rfl hrd ?_
        refine jh_sg 7 rfl (by kernel_rfl) rfl ((pv_gtr_t rfl rfl (by omega)).ps) rfl hrd ?_
        refine jh_pureg tab_ok 8 rfl (by kernel_rfl) rfl rfl rfl hrd ?_
        refine jh_pureg tab_ok 9 rfl (by kernel_rfl) rfl rfl rfl hrd ?_
        refine jh_pureg tab_ok 10 rfl (by kernel_rfl) rfl rfl rfl hrd ?_
        refine jh_sg 11 rfl (by kernel_rfl) rfl ((pv_sub1 (by omega) rfl rfl).ps) rfl hrd ?_
        refine jh_sg 12 rfl (by kernel_rfl) rfl ((pv_index tab_ok j rfl rfl rfl rfl rfl rfl (by omega)).ps) rfl hrd ?_
        refine jh_pureg tab_ok 13 rfl (by kernel_rfl) rfl rfl rfl hrd ?_
        refine jh_sg 14 rfl (by kernel_rfl) rfl (ps_load tab_ok 2 rfl rfl rfl rfl) rfl hrd ?_
        refine jh_pureg tab_ok 15 rfl (by kernel_rfl) rfl rfl rfl hrd ?_
        refine jh_sg 16 rfl (by kernel_rfl) rfl (ps_load tab_ok 0 rfl rfl rfl rfl) rfl hrd ?_
        refine jh_sg 17 rfl (by kernel_rfl) rfl ((pv_gtr_f rfl rfl (by omega)).ps) rfl hrd ?_
        refine jh_pureg tab_ok 18 rfl (by kernel_rfl) rfl rfl rfl hrd ?_
        refine jh_pureg tab_ok 19 rfl (by kernel_rfl) rfl rfl rfl hrd ?_
        refine jh_pureg tab_ok 20 rfl (by kernel_rfl) rfl rfl rfl hrd ?_
        refine jh_sg 21 rfl (by kernel_rfl) rfl ((pv_sub1 (by omega) rfl rfl).ps) rfl hrd ?_
        refine jh_sg 22 rfl (by kernel_rfl) rfl ((pv_index tab_ok j rfl rfl rfl rfl rfl rfl (by omega)).ps) rfl hrd ?_
        refine jh_pureg tab_ok 23 rfl (by kernel_rfl) rfl rfl rfl hrd ?_
        refine jh_sg 24 rfl (by kernel_rfl) rfl (ps_load tab_ok 2 rfl rfl rfl rfl) rfl hrd ?_
        refine jh_pureg tab_ok 25 rfl (by kernel_rfl) rfl rfl rfl hrd ?_
        refine jh_sg 26 rfl (by kernel_rfl) rfl (ps_load tab_ok 0 rfl rfl rfl rfl) rfl hrd ?_
        refine jh_sg 27 rfl (by kernel_rfl) rfl ((pv_eql_f rfl rfl he).ps) rfl hrd ?_
        refine jh_pureg tab_ok 28 rfl (by kernel_rfl) rfl rfl rfl hrd ?_
        refine jh_skip 29 rfl (by kernel_rfl) rfl rfl hrd ?_
        refine jh_skip 30 rfl (by kernel_rfl) rfl rfl hrd ?_
        refine jh_skip 31 rfl (by kernel_rfl) rfl rfl hrd ?_
        refine jh_skip 32 rfl (by kernel_rfl) rfl rfl hrd ?_
        refine jh_skip 33 rfl (by kernel_rfl) rfl rfl hrd ?_
        refine jh_skip 34 rfl (by kernel_rfl) rfl rfl hrd ?_
        refine jh_skip 35 rfl (by kernel_rfl) rfl rfl hrd ?_
        refine jh_skip 36 rfl (by kernel_rfl) rfl rfl hrd ?_
        refine jh_skip 37 rfl (by kernel_rfl) rfl rfl hrd ?_
        refine jh_pureg tab_ok 38 rfl (by kernel_rfl) rfl rfl rfl hrd ?_
        refine jh_pureg tab_ok 39 rfl (by kernel_rfl) rfl rfl rfl hrd ?_
        refine jh_pureg tab_ok 40 rfl (by kernel_rfl) rfl rfl rfl hrd ?_
        refine jh_one 41 rfl (by kernel_rfl) (jo_pure tab_ok rfl rfl (jh_back hrd fun hrd => ?_))
        refine jh_done (by kernel_rfl) ?_
        (refine j_nm rfl ?_; repeat (first | refine jo_cons ?_ | (refine jo_iso ?_; first | (refine jo_isbin ?_; first | refine jo_v (by first | exact pv_add rfl rfl (by omega) | exact pv_sub rfl rfl (by omega)) rfl ?_ | refine jo_pure tab_ok rfl rfl ?_ | refine jo_v (by first | exact pv_add64 rfl rfl | exact pv_ptr_eq tab_ok rfl rfl rfl | exact pv_ptr_ne tab_ok rfl rfl rfl | exact pv_if_eq tab_ok rfl rfl rfl (.inl rfl) | exact pv_if_eq tab_ok rfl rfl rfl (.inr ⟨_, _, rfl⟩) | exact pv_if_ne tab_ok rfl rfl rfl (.inl rfl) | exact pv_if_ne tab_ok rfl rfl rfl (.inr ⟨_, _, rfl⟩)) rfl ?_) | refine jo_pure tab_ok rfl rfl ?_ | refine jo_want rfl ?_ | refine jo_skip rfl rfl ?_ | refine jo_load tab_ok rfl rfl rfl (by first | ((repeat first | exact Rd.here rfl | refine Rd.there ?_); done) | assumption) rfl ?_) | refine jo_nil ?_ | refine jc_seq ?_ | refine jc_skip ?_ | refine jc_region ?_ | refine jc_block ?_ | refine jc_ret ?_ | refine jc_exit ?_ | refine jx_then ?_ | refine jx_then_exit ?_ | refine jx_then_ret ?_ | refine jx_block ?_ | refine jx_block_ret ?_ | refine jx_block_hit ?_ | refine jx_block_miss rfl ?_ | refine jc_true rfl ?_ | refine jc_false rfl ?_))
        exact jx_round (j + 2) [1] [1] hlt (by omega) ⟨rfl, rfl, rfl, rfl, rfl, rfl, rfl, rfl, rfl, trivial⟩ rfl
  · (refine j_nm rfl ?_; repeat (first | refine jo_cons ?_ | (refine jo_iso ?_; first | (refine jo_isbin ?_; first | refine jo_v (by first | exact pv_add rfl rfl (by omega) | exact pv_sub rfl rfl (by omega)) rfl ?_ | refine jo_pure tab_ok rfl rfl ?_ | refine jo_v (by first | exact pv_add64 rfl rfl | exact pv_ptr_eq tab_ok rfl rfl rfl | exact pv_ptr_ne tab_ok rfl rfl rfl | exact pv_if_eq tab_ok rfl rfl rfl (.inl rfl) | exact pv_if_eq tab_ok rfl rfl rfl (.inr ⟨_, _, rfl⟩) | exact pv_if_ne tab_ok rfl rfl rfl (.inl rfl) | exact pv_if_ne tab_ok rfl rfl rfl (.inr ⟨_, _, rfl⟩)) rfl ?_) | refine jo_pure tab_ok rfl rfl ?_ | refine jo_want rfl ?_ | refine jo_skip rfl rfl ?_ | refine jo_load tab_ok rfl rfl rfl (by first | ((repeat first | exact Rd.here rfl | refine Rd.there ?_); done) | assumption) rfl ?_) | refine jo_nil ?_ | refine jc_skip ?_ | refine jc_region ?_ | refine jc_block ?_ | refine jc_ret ?_ | refine jc_exit ?_ | refine jx_then ?_ | refine jx_then_exit ?_ | refine jx_then_ret ?_ | refine jx_block ?_ | refine jx_block_ret ?_ | refine jx_block_hit ?_ | refine jx_block_miss rfl ?_ | refine jc_true rfl ?_ | refine jc_false rfl ?_))
    exact j_go (m23 E X h0 hn) [] [0] ⟨rfl, rfl, rfl, rfl, rfl, trivial⟩ rfl
end Mx
end Go.Proofs.Ytiikdofbaoidcaa
