import Derived.Test.YtejaonodaplbhaaDoorSk4
namespace Go.Proofs.YtejaonodaplbhaaDoor
namespace Sk5
open Go Go.Proofs.YtejaonodaplbhaaDoor.Hp Sp S2 S3 S4 S5 S6 S7 S8 S9 S10 S11 S14 S15 Rb1 Rb2 Rb3 Rb4 Rb5 Rb6 Pb Pc Pd Sk1 Sk2 Sk3 Sk4
set_option maxRecDepth 10000
set_option linter.unusedVariables false
set_option linter.unusedSimpArgs false
attribute [local irreducible] wpList Code.wp wpAny wpAnyK
def tab : Tab := [
  ⟨43, .struct [(0, 3), (1, 3)], 2, 16, [.int .i64 0, .int .i64 0]⟩,
  ⟨27, .slice 43, 1, 24, [.slice none 0 0]⟩,
  ⟨94, .struct [(0, 3), (1, 3)], 2, 16, [.int .i64 0, .int .i64 0]⟩,
  ⟨59, .slice 94, 1, 24, [.slice none 0 0]⟩,
  ⟨61, .struct [(0, 27), (1, 59), (2, 27), (3, 59), (4, 4)], 5, 104, [.slice none 0 0, .slice none 0 0, .slice none 0 0, .slice none 0 0, .bool false]⟩,
  ⟨58, .pointer 61, 1, 8, [.pointer none]⟩,
  ⟨49, .struct [(0, 3), (1, 3), (2, 3), (3, 27)], 4, 48, [.int .i64 0, .int .i64 0, .int .i64 0, .slice none 0 0]⟩,
  ⟨46, .slice 49, 1, 24, [.slice none 0 0]⟩,
  ⟨3, .int .i64, 1, 8, [.int .i64 0]⟩,
  ⟨4, .bool, 1, 1, [.bool false]⟩,
  ⟨47, .slice 3, 1, 24, [.slice none 0 0]⟩,
  ⟨63, .slice 47, 1, 24, [.slice none 0 0]⟩,
  ⟨30, .iface, 1, 16, [.nilIface]⟩,
  ⟨35, .struct [(0, 33)], 1, 24, [.slice none 0 0]⟩,
  ⟨33, .slice 51, 1, 24, [.slice none 0 0]⟩,
  ⟨51, .struct [(0, 3), (1, 3)], 2, 16, [.int .i64 0, .int .i64 0]⟩,
  ⟨79, .pointer 104, 1, 8, [.pointer none]⟩,
  ⟨28, .pointer 73, 1, 8, [.pointer none]⟩,
  ⟨73, .struct [(0, 68), (1, 68)], 2, 16, [.pointer none, .pointer none]⟩,
  ⟨115, .array 3 79, 3, 24, [.pointer none, .pointer none, .pointer none]⟩,
  ⟨116, .slice 79, 1, 24, [.slice none 0 0]⟩,
  ⟨76, .int .i64, 1, 8, [.int .i64 0]⟩]
theorem tab_43 : TE.ok Tryd.prog ⟨43, .struct [(0, 3), (1, 3)], 2, 16, [.int .i64 0, .int .i64 0]⟩ := ⟨by kernel_rfl, by kernel_rfl, by kernel_rfl, by kernel_rfl⟩
theorem tab_27 : TE.ok Tryd.prog ⟨27, .slice 43, 1, 24, [.slice none 0 0]⟩ := ⟨by kernel_rfl, by kernel_rfl, by kernel_rfl, by kernel_rfl⟩
theorem tab_94 : TE.ok Tryd.prog ⟨94, .struct [(0, 3), (1, 3)], 2, 16, [.int .i64 0, .int .i64 0]⟩ := ⟨by kernel_rfl, by kernel_rfl, by kernel_rfl, by kernel_rfl⟩
theorem tab_59 : TE.ok Tryd.prog ⟨59, .slice 94, 1, 24, [.slice none 0 0]⟩ := ⟨by kernel_rfl, by kernel_rfl, by kernel_rfl, by kernel_rfl⟩
theorem tab_61 : TE.ok Tryd.prog ⟨61, .struct [(0, 27), (1, 59), (2, 27), (3, 59), (4, 4)], 5, 104, [.slice none 0 0, .slice none 0 0, .slice none 0 0, .slice none 0 0, .bool false]⟩ := ⟨by kernel_rfl, by kernel_rfl, by kernel_rfl, by kernel_rfl⟩
theorem tab_58 : TE.ok Tryd.prog ⟨58, .pointer 61, 1, 8, [.pointer none]⟩ := ⟨by kernel_rfl, by kernel_rfl, by kernel_rfl, by kernel_rfl⟩
theorem tab_49 : TE.ok Tryd.prog ⟨49, .struct [(0, 3), (1, 3), (2, 3), (3, 27)], 4, 48, [.int .i64 0, .int .i64 0, .int .i64 0, .slice none 0 0]⟩ := ⟨by kernel_rfl, by kernel_rfl, by kernel_rfl, by kernel_rfl⟩
theorem tab_46 : TE.ok Tryd.prog ⟨46, .slice 49, 1, 24, [.slice none 0 0]⟩ := ⟨by kernel_rfl, by kernel_rfl, by kernel_rfl, by kernel_rfl⟩
theorem tab_3 : TE.ok Tryd.prog ⟨3, .int .i64, 1, 8, [.int .i64 0]⟩ := ⟨by kernel_rfl, by kernel_rfl, by kernel_rfl, by kernel_rfl⟩
theorem tab_4 : TE.ok Tryd.prog ⟨4, .bool, 1, 1, [.bool false]⟩ := ⟨by kernel_rfl, by kernel_rfl, by kernel_rfl, by kernel_rfl⟩
theorem tab_47 : TE.ok Tryd.prog ⟨47, .slice 3, 1, 24, [.slice none 0 0]⟩ := ⟨by kernel_rfl, by kernel_rfl, by kernel_rfl, by kernel_rfl⟩
theorem tab_63 : TE.ok Tryd.prog ⟨63, .slice 47, 1, 24, [.slice none 0 0]⟩ := ⟨by kernel_rfl, by kernel_rfl, by kernel_rfl, by kernel_rfl⟩
theorem tab_30 : TE.ok Tryd.prog ⟨30, .iface, 1, 16, [.nilIface]⟩ := ⟨by kernel_rfl, by kernel_rfl, by kernel_rfl, by kernel_rfl⟩
theorem tab_35 : TE.ok Tryd.prog ⟨35, .struct [(0, 33)], 1, 24, [.slice none 0 0]⟩ := ⟨by kernel_rfl, by kernel_rfl, by kernel_rfl, by kernel_rfl⟩
theorem tab_33 : TE.ok Tryd.prog ⟨33, .slice 51, 1, 24, [.slice none 0 0]⟩ := ⟨by kernel_rfl, by kernel_rfl, by kernel_rfl, by kernel_rfl⟩
theorem tab_51 : TE.ok Tryd.prog ⟨51, .struct [(0, 3), (1, 3)], 2, 16, [.int .i64 0, .int .i64 0]⟩ := ⟨by kernel_rfl, by kernel_rfl, by kernel_rfl, by kernel_rfl⟩
theorem tab_79 : TE.ok Tryd.prog ⟨79, .pointer 104, 1, 8, [.pointer none]⟩ := ⟨by kernel_rfl, by kernel_rfl, by kernel_rfl, by kernel_rfl⟩
theorem tab_28 : TE.ok Tryd.prog ⟨28, .pointer 73, 1, 8, [.pointer none]⟩ := ⟨by kernel_rfl, by kernel_rfl, by kernel_rfl, by kernel_rfl⟩
theorem tab_73 : TE.ok Tryd.prog ⟨73, .struct [(0, 68), (1, 68)], 2, 16, [.pointer none, .pointer none]⟩ := ⟨by kernel_rfl, by kernel_rfl, by kernel_rfl, by kernel_rfl⟩
theorem tab_115 : TE.ok Tryd.prog ⟨115, .array 3 79, 3, 24, [.pointer none, .pointer none, .pointer none]⟩ := ⟨by kernel_rfl, by kernel_rfl, by kernel_rfl, by kernel_rfl⟩
theorem tab_116 : TE.ok Tryd.prog ⟨116, .slice 79, 1, 24, [.slice none 0 0]⟩ := ⟨by kernel_rfl, by kernel_rfl, by kernel_rfl, by kernel_rfl⟩
theorem tab_76 : TE.ok Tryd.prog ⟨76, .int .i64, 1, 8, [.int .i64 0]⟩ := ⟨by kernel_rfl, by kernel_rfl, by kernel_rfl, by kernel_rfl⟩
theorem tab_ok : tab.ok Tryd.prog := by
  intro e he
  simp only [tab, List.mem_cons, List.not_mem_nil, or_false] at he
  rcases he with rfl | rfl | rfl | rfl | rfl | rfl | rfl | rfl | rfl | rfl | rfl | rfl | rfl | rfl | rfl | rfl | rfl | rfl | rfl | rfl | rfl | rfl
  · exact tab_43
  · exact tab_27
  · exact tab_94
  · exact tab_59
  · exact tab_61
  · exact tab_58
  · exact tab_49
  · exact tab_46
  · exact tab_3
  · exact tab_4
  · exact tab_47
  · exact tab_63
  · exact tab_30
  · exact tab_35
  · exact tab_33
  · exact tab_51
  · exact tab_79
  · exact tab_28
  · exact tab_73
  · exact tab_115
  · exact tab_116
  · exact tab_76

theorem ent12 : Enters Tryd.prog 12 := ⟨_, _, Tryd.func12, by kernel_rfl, rfl⟩
theorem ent11 : Enters Tryd.prog 11 := ⟨_, _, Tryd.func11, by kernel_rfl, rfl⟩
theorem ent13 : Enters Tryd.prog 13 := ⟨_, _, Tryd.func13, by kernel_rfl, rfl⟩
theorem ent10 : Enters Tryd.prog 10 := ⟨_, _, Tryd.func10, by kernel_rfl, rfl⟩

set_option maxHeartbeats 4000000 in
theorem back_tri {A : Assn} (hA : Tz A) {es : List Ent} {v0 v1 v2 : Value} {o1 os : List Os.Call} (hro : Ro A 2 v0 (ecells es)) (hb : es.length * 16 ≤ 140737488355328) (hro1 : Ro A 4 v1 (Os.ocells o1)) (hg : ∀ o ∈ o1, Sk4.Good A o) (hros : Ro A 4 v2 (Os.ocells os)) (hone : ∀ o ∈ os, one o.sl = true) :
    Tri Tryd.prog 7 [v0, v1, v2] [A] (OB A) := by
  have hro0 := hro
  obtain ⟨base, len, cap, rfl, _, _, _⟩ := hro0
  have hro10 := hro1
  obtain ⟨ob, ln, oc, rfl, hl1, _, _⟩ := hro10
  rw [Os.ocells_len] at hl1
  have hros0 := hros
  obtain ⟨pb, pn, pc, rfl, hl2, _, _⟩ := hros0
  rw [Os.ocells_len] at hl2
  refine tri_introX Tryd.func7 rfl Tryd.ntmps7 rfl fun E X => ?_
  (refine j_nm rfl ?_; repeat (first | refine jo_cons ?_ | (refine jo_iso ?_; first | (refine jo_isbin ?_; first | refine jo_v (by first | exact pv_add rfl rfl (by omega) | exact pv_sub rfl rfl (by omega)) rfl ?_ | refine jo_pure tab_ok rfl rfl ?_ | refine jo_v (by first | exact pv_ptr_eq tab_ok rfl rfl rfl | exact pv_ptr_ne tab_ok rfl rfl rfl | exact pv_if_eq tab_ok rfl rfl rfl (.inl rfl) | exact pv_if_eq tab_ok rfl rfl rfl (.inr ⟨_, _, rfl⟩) | exact pv_if_ne tab_ok rfl rfl rfl (.inl rfl) | exact pv_if_ne tab_ok rfl rfl rfl (.inr ⟨_, _, rfl⟩)) rfl ?_) | refine jo_pure tab_ok rfl rfl ?_ | refine jo_want rfl ?_ | refine jo_skip rfl rfl ?_ | refine jo_load tab_ok rfl rfl rfl (by first | ((repeat first | exact Rd.here rfl | refine Rd.there ?_); done) | assumption) rfl ?_) | refine jo_nil ?_ | refine jc_seq ?_ | refine jc_skip ?_ | refine jc_region ?_ | refine jc_block ?_ | refine jc_ret ?_ | refine jc_exit ?_ | refine jx_then ?_ | refine jx_then_exit ?_ | refine jx_then_ret ?_ | refine jx_block ?_ | refine jx_block_ret ?_ | refine jx_block_hit ?_ | refine jx_block_miss rfl ?_ | refine jc_true rfl ?_ | refine jc_false rfl ?_))
  refine jo_call [0] (of_tri hro hb) ent12 rfl ⟨rfl, rfl⟩ rfl ?_
  rintro v B ⟨rv, rfl, rfl⟩
  refine j_nm rfl ?_
  refine j_sl_ro fun hrv => ?_
  (refine j_nm rfl ?_; repeat (first | refine jo_cons ?_ | (refine jo_iso ?_; first | (refine jo_isbin ?_; first | refine jo_v (by first | exact pv_add rfl rfl (by omega) | exact pv_sub rfl rfl (by omega)) rfl ?_ | refine jo_pure tab_ok rfl rfl ?_ | refine jo_v (by first | exact pv_ptr_eq tab_ok rfl rfl rfl | exact pv_ptr_ne tab_ok rfl rfl rfl | exact pv_if_eq tab_ok rfl rfl rfl (.inl rfl) | exact pv_if_eq tab_ok rfl rfl rfl (.inr ⟨_, _, rfl⟩) | exact pv_if_ne tab_ok rfl rfl rfl (.inl rfl) | exact pv_if_ne tab_ok rfl rfl rfl (.inr ⟨_, _, rfl⟩)) rfl ?_) | refine jo_pure tab_ok rfl rfl ?_ | refine jo_want rfl ?_ | refine jo_skip rfl rfl ?_ | refine jo_load tab_ok rfl rfl rfl (by first | ((repeat first | exact Rd.here rfl | refine Rd.there ?_); done) | assumption) rfl ?_) | refine jo_nil ?_ | refine jc_seq ?_ | refine jc_skip ?_ | refine jc_region ?_ | refine jc_block ?_ | refine jc_ret ?_ | refine jc_exit ?_ | refine jx_then ?_ | refine jx_then_exit ?_ | refine jx_then_ret ?_ | refine jx_block ?_ | refine jx_block_ret ?_ | refine jx_block_hit ?_ | refine jx_block_miss rfl ?_ | refine jc_true rfl ?_ | refine jc_false rfl ?_))
  refine jo_call [0] (S8.new_tri hrv) ent11 rfl ⟨rfl, rfl⟩ rfl ?_
  rintro v B (⟨hno, rfl, rfl⟩ | ⟨hok, p, rfl, rfl⟩)
  · (refine j_nm rfl ?_; repeat (first | refine jo_cons ?_ | (refine jo_iso ?_; first | (refine jo_isbin ?_; first | refine jo_v (by first | exact pv_add rfl rfl (by omega) | exact pv_sub rfl rfl (by omega)) rfl ?_ | refine jo_pure tab_ok rfl rfl ?_ | refine jo_v (by first | exact pv_ptr_eq tab_ok rfl rfl rfl | exact pv_ptr_ne tab_ok rfl rfl rfl | exact pv_if_eq tab_ok rfl rfl rfl (.inl rfl) | exact pv_if_eq tab_ok rfl rfl rfl (.inr ⟨_, _, rfl⟩) | exact pv_if_ne tab_ok rfl rfl rfl (.inl rfl) | exact pv_if_ne tab_ok rfl rfl rfl (.inr ⟨_, _, rfl⟩)) rfl ?_) | refine jo_pure tab_ok rfl rfl ?_ | refine jo_want rfl ?_ | refine jo_skip rfl rfl ?_ | refine jo_load tab_ok rfl rfl rfl (by first | ((repeat first | exact Rd.here rfl | refine Rd.there ?_); done) | assumption) rfl ?_) | refine jo_nil ?_ | refine jc_seq ?_ | refine jc_skip ?_ | refine jc_region ?_ | refine jc_block ?_ | refine jc_ret ?_ | refine jc_exit ?_ | refine jx_then ?_ | refine jx_then_exit ?_ | refine jx_then_ret ?_ | refine jx_block ?_ | refine jx_block_ret ?_ | refine jx_block_hit ?_ | refine jx_block_miss rfl ?_ | refine jc_true rfl ?_ | refine jc_false rfl ?_))
    refine jo_v (pv_bool_eq tab_ok rfl rfl rfl rfl) rfl ?_
    (refine j_nm rfl ?_; repeat (first | refine jo_cons ?_ | (refine jo_iso ?_; first | (refine jo_isbin ?_; first | refine jo_v (by first | exact pv_add rfl rfl (by omega) | exact pv_sub rfl rfl (by omega)) rfl ?_ | refine jo_pure tab_ok rfl rfl ?_ | refine jo_v (by first | exact pv_ptr_eq tab_ok rfl rfl rfl | exact pv_ptr_ne tab_ok rfl rfl rfl | exact pv_if_eq tab_ok rfl rfl rfl (.inl rfl) | exact pv_if_eq tab_ok rfl rfl rfl (.inr ⟨_, _, rfl⟩) | exact pv_if_ne tab_ok rfl rfl rfl (.inl rfl) | exact pv_if_ne tab_ok rfl rfl rfl (.inr ⟨_, _, rfl⟩)) rfl ?_) | refine jo_pure tab_ok rfl rfl ?_ | refine jo_want rfl ?_ | refine jo_skip rfl rfl ?_ | refine jo_load tab_ok rfl rfl rfl (by first | ((repeat first | exact Rd.here rfl | refine Rd.there ?_); done) | assumption) rfl ?_) | refine jo_nil ?_ | refine jc_seq ?_ | refine jc_skip ?_ | refine jc_region ?_ | refine jc_block ?_ | refine jc_ret ?_ | refine jc_exit ?_ | refine jx_then ?_ | refine jx_then_exit ?_ | refine jx_then_ret ?_ | refine jx_block ?_ | refine jx_block_ret ?_ | refine jx_block_hit ?_ | refine jx_block_miss rfl ?_ | refine jc_true rfl ?_ | refine jc_false rfl ?_))
    refine jo_call [1] (awake_tri hA) ent10 rfl ⟨rfl, rfl⟩ rfl ?_
    rintro v B ⟨rfl, rfl⟩
    (refine j_nm rfl ?_; repeat (first | refine jo_cons ?_ | (refine jo_iso ?_; first | (refine jo_isbin ?_; first | refine jo_v (by first | exact pv_add rfl rfl (by omega) | exact pv_sub rfl rfl (by omega)) rfl ?_ | refine jo_pure tab_ok rfl rfl ?_ | refine jo_v (by first | exact pv_ptr_eq tab_ok rfl rfl rfl | exact pv_ptr_ne tab_ok rfl rfl rfl | exact pv_if_eq tab_ok rfl rfl rfl (.inl rfl) | exact pv_if_eq tab_ok rfl rfl rfl (.inr ⟨_, _, rfl⟩) | exact pv_if_ne tab_ok rfl rfl rfl (.inl rfl) | exact pv_if_ne tab_ok rfl rfl rfl (.inr ⟨_, _, rfl⟩)) rfl ?_) | refine jo_pure tab_ok rfl rfl ?_ | refine jo_want rfl ?_ | refine jo_skip rfl rfl ?_ | refine jo_load tab_ok rfl rfl rfl (by first | ((repeat first | exact Rd.here rfl | refine Rd.there ?_); done) | assumption) rfl ?_) | refine jo_nil ?_ | refine jc_seq ?_ | refine jc_skip ?_ | refine jc_region ?_ | refine jc_block ?_ | refine jc_ret ?_ | refine jc_exit ?_ | refine jx_then ?_ | refine jx_then_exit ?_ | refine jx_then_ret ?_ | refine jx_block ?_ | refine jx_block_ret ?_ | refine jx_block_hit ?_ | refine jx_block_miss rfl ?_ | refine jc_true rfl ?_ | refine jc_false rfl ?_))
    exact j_ret [0] [1] rfl ⟨rfl, rfl⟩ ⟨rfl, rfl⟩
  refine j_nm rfl ?_
  refine j_drop 1 ?_
  (refine j_nm rfl ?_; repeat (first | refine jo_cons ?_ | (refine jo_iso ?_; first | (refine jo_isbin ?_; first | refine jo_v (by first | exact pv_add rfl rfl (by omega) | exact pv_sub rfl rfl (by omega)) rfl ?_ | refine jo_pure tab_ok rfl rfl ?_ | refine jo_v (by first | exact pv_ptr_eq tab_ok rfl rfl rfl | exact pv_ptr_ne tab_ok rfl rfl rfl | exact pv_if_eq tab_ok rfl rfl rfl (.inl rfl) | exact pv_if_eq tab_ok rfl rfl rfl (.inr ⟨_, _, rfl⟩) | exact pv_if_ne tab_ok rfl rfl rfl (.inl rfl) | exact pv_if_ne tab_ok rfl rfl rfl (.inr ⟨_, _, rfl⟩)) rfl ?_) | refine jo_pure tab_ok rfl rfl ?_ | refine jo_want rfl ?_ | refine jo_skip rfl rfl ?_ | refine jo_load tab_ok rfl rfl rfl (by first | ((repeat first | exact Rd.here rfl | refine Rd.there ?_); done) | assumption) rfl ?_) | refine jo_nil ?_ | refine jc_seq ?_ | refine jc_skip ?_ | refine jc_region ?_ | refine jc_block ?_ | refine jc_ret ?_ | refine jc_exit ?_ | refine jx_then ?_ | refine jx_then_exit ?_ | refine jx_then_ret ?_ | refine jx_block ?_ | refine jx_block_ret ?_ | refine jx_block_hit ?_ | refine jx_block_miss rfl ?_ | refine jc_true rfl ?_ | refine jc_false rfl ?_))
  refine jo_call [1] (Sm.small_tri hro) ent13 rfl ⟨rfl, rfl⟩ rfl ?_
  rintro v B ⟨rfl, rfl⟩
  cases hsm : Sm.smallB es with
  | false =>
    (refine j_nm rfl ?_; repeat (first | refine jo_cons ?_ | (refine jo_iso ?_; first | (refine jo_isbin ?_; first | refine jo_v (by first | exact pv_add rfl rfl (by omega) | exact pv_sub rfl rfl (by omega)) rfl ?_ | refine jo_pure tab_ok rfl rfl ?_ | refine jo_v (by first | exact pv_ptr_eq tab_ok rfl rfl rfl | exact pv_ptr_ne tab_ok rfl rfl rfl | exact pv_if_eq tab_ok rfl rfl rfl (.inl rfl) | exact pv_if_eq tab_ok rfl rfl rfl (.inr ⟨_, _, rfl⟩) | exact pv_if_ne tab_ok rfl rfl rfl (.inl rfl) | exact pv_if_ne tab_ok rfl rfl rfl (.inr ⟨_, _, rfl⟩)) rfl ?_) | refine jo_pure tab_ok rfl rfl ?_ | refine jo_want rfl ?_ | refine jo_skip rfl rfl ?_ | refine jo_load tab_ok rfl rfl rfl (by first | ((repeat first | exact Rd.here rfl | refine Rd.there ?_); done) | assumption) rfl ?_) | refine jo_nil ?_ | refine jc_seq ?_ | refine jc_skip ?_ | refine jc_region ?_ | refine jc_block ?_ | refine jc_ret ?_ | refine jc_exit ?_ | refine jx_then ?_ | refine jx_then_exit ?_ | refine jx_then_ret ?_ | refine jx_block ?_ | refine jx_block_ret ?_ | refine jx_block_hit ?_ | refine jx_block_miss rfl ?_ | refine jc_true rfl ?_ | refine jc_false rfl ?_))
    refine jo_v (pv_bool_eq tab_ok rfl rfl rfl rfl) rfl ?_
    (refine j_nm rfl ?_; repeat (first | refine jo_cons ?_ | (refine jo_iso ?_; first | (refine jo_isbin ?_; first | refine jo_v (by first | exact pv_add rfl rfl (by omega) | exact pv_sub rfl rfl (by omega)) rfl ?_ | refine jo_pure tab_ok rfl rfl ?_ | refine jo_v (by first | exact pv_ptr_eq tab_ok rfl rfl rfl | exact pv_ptr_ne tab_ok rfl rfl rfl | exact pv_if_eq tab_ok rfl rfl rfl (.inl rfl) | exact pv_if_eq tab_ok rfl rfl rfl (.inr ⟨_, _, rfl⟩) | exact pv_if_ne tab_ok rfl rfl rfl (.inl rfl) | exact pv_if_ne tab_ok rfl rfl rfl (.inr ⟨_, _, rfl⟩)) rfl ?_) | refine jo_pure tab_ok rfl rfl ?_ | refine jo_want rfl ?_ | refine jo_skip rfl rfl ?_ | refine jo_load tab_ok rfl rfl rfl (by first | ((repeat first | exact Rd.here rfl | refine Rd.there ?_); done) | assumption) rfl ?_) | refine jo_nil ?_ | refine jc_seq ?_ | refine jc_skip ?_ | refine jc_region ?_ | refine jc_block ?_ | refine jc_ret ?_ | refine jc_exit ?_ | refine jx_then ?_ | refine jx_then_exit ?_ | refine jx_then_ret ?_ | refine jx_block ?_ | refine jx_block_ret ?_ | refine jx_block_hit ?_ | refine jx_block_miss rfl ?_ | refine jc_true rfl ?_ | refine jc_false rfl ?_))
    refine jo_call [0] (awake_tri hA) ent10 rfl ⟨rfl, rfl⟩ rfl ?_
    rintro v B ⟨rfl, rfl⟩
    (refine j_nm rfl ?_; repeat (first | refine jo_cons ?_ | (refine jo_iso ?_; first | (refine jo_isbin ?_; first | refine jo_v (by first | exact pv_add rfl rfl (by omega) | exact pv_sub rfl rfl (by omega)) rfl ?_ | refine jo_pure tab_ok rfl rfl ?_ | refine jo_v (by first | exact pv_ptr_eq tab_ok rfl rfl rfl | exact pv_ptr_ne tab_ok rfl rfl rfl | exact pv_if_eq tab_ok rfl rfl rfl (.inl rfl) | exact pv_if_eq tab_ok rfl rfl rfl (.inr ⟨_, _, rfl⟩) | exact pv_if_ne tab_ok rfl rfl rfl (.inl rfl) | exact pv_if_ne tab_ok rfl rfl rfl (.inr ⟨_, _, rfl⟩)) rfl ?_) | refine jo_pure tab_ok rfl rfl ?_ | refine jo_want rfl ?_ | refine jo_skip rfl rfl ?_ | refine jo_load tab_ok rfl rfl rfl (by first | ((repeat first | exact Rd.here rfl | refine Rd.there ?_); done) | assumption) rfl ?_) | refine jo_nil ?_ | refine jc_seq ?_ | refine jc_skip ?_ | refine jc_region ?_ | refine jc_block ?_ | refine jc_ret ?_ | refine jc_exit ?_ | refine jx_then ?_ | refine jx_then_exit ?_ | refine jx_then_ret ?_ | refine jx_block ?_ | refine jx_block_ret ?_ | refine jx_block_hit ?_ | refine jx_block_miss rfl ?_ | refine jc_true rfl ?_ | refine jc_false rfl ?_))
    exact j_ret [0] [1] rfl ⟨rfl, rfl⟩ ⟨rfl, rfl⟩
  | true =>
  (refine j_nm rfl ?_; repeat (first | refine jo_cons ?_ | (refine jo_iso ?_; first | (refine jo_isbin ?_; first | refine jo_v (by first | exact pv_add rfl rfl (by omega) | exact pv_sub rfl rfl (by omega)) rfl ?_ | refine jo_pure tab_ok rfl rfl ?_ | refine jo_v (by first | exact pv_ptr_eq tab_ok rfl rfl rfl | exact pv_ptr_ne tab_ok rfl rfl rfl | exact pv_if_eq tab_ok rfl rfl rfl (.inl rfl) | exact pv_if_eq tab_ok rfl rfl rfl (.inr ⟨_, _, rfl⟩) | exact pv_if_ne tab_ok rfl rfl rfl (.inl rfl) | exact pv_if_ne tab_ok rfl rfl rfl (.inr ⟨_, _, rfl⟩)) rfl ?_) | refine jo_pure tab_ok rfl rfl ?_ | refine jo_want rfl ?_ | refine jo_skip rfl rfl ?_ | refine jo_load tab_ok rfl rfl rfl (by first | ((repeat first | exact Rd.here rfl | refine Rd.there ?_); done) | assumption) rfl ?_) | refine jo_nil ?_ | refine jc_seq ?_ | refine jc_skip ?_ | refine jc_region ?_ | refine jc_block ?_ | refine jc_ret ?_ | refine jc_exit ?_ | refine jx_then ?_ | refine jx_then_exit ?_ | refine jx_then_ret ?_ | refine jx_block ?_ | refine jx_block_ret ?_ | refine jx_block_hit ?_ | refine jx_block_miss rfl ?_ | refine jc_true rfl ?_ | refine jc_false rfl ?_))
  refine jo_v (pv_max rfl rfl) rfl ?_
  (refine j_nm rfl ?_; repeat (first | refine jo_cons ?_ | (refine jo_iso ?_; first | (refine jo_isbin ?_; first | refine jo_v (by first | exact pv_add rfl rfl (by omega) | exact pv_sub rfl rfl (by omega)) rfl ?_ | refine jo_pure tab_ok rfl rfl ?_ | refine jo_v (by first | exact pv_ptr_eq tab_ok rfl rfl rfl | exact pv_ptr_ne tab_ok rfl rfl rfl | exact pv_if_eq tab_ok rfl rfl rfl (.inl rfl) | exact pv_if_eq tab_ok rfl rfl rfl (.inr ⟨_, _, rfl⟩) | exact pv_if_ne tab_ok rfl rfl rfl (.inl rfl) | exact pv_if_ne tab_ok rfl rfl rfl (.inr ⟨_, _, rfl⟩)) rfl ?_) | refine jo_pure tab_ok rfl rfl ?_ | refine jo_want rfl ?_ | refine jo_skip rfl rfl ?_ | refine jo_load tab_ok rfl rfl rfl (by first | ((repeat first | exact Rd.here rfl | refine Rd.there ?_); done) | assumption) rfl ?_) | refine jo_nil ?_ | refine jc_seq ?_ | refine jc_skip ?_ | refine jc_region ?_ | refine jc_block ?_ | refine jc_ret ?_ | refine jc_exit ?_ | refine jx_then ?_ | refine jx_then_exit ?_ | refine jx_then_ret ?_ | refine jx_block ?_ | refine jx_block_ret ?_ | refine jx_block_hit ?_ | refine jx_block_miss rfl ?_ | refine jc_true rfl ?_ | refine jc_false rfl ?_))
  refine jc_dec rfl (fun h => ?_) (fun hl0 => ?_)
  · (refine j_nm rfl ?_; repeat (first | refine jo_cons ?_ | (refine jo_iso ?_; first | (refine jo_isbin ?_; first | refine jo_v (by first | exact pv_add rfl rfl (by omega) | exact pv_sub rfl rfl (by omega)) rfl ?_ | refine jo_pure tab_ok rfl rfl ?_ | refine jo_v (by first | exact pv_ptr_eq tab_ok rfl rfl rfl | exact pv_ptr_ne tab_ok rfl rfl rfl | exact pv_if_eq tab_ok rfl rfl rfl (.inl rfl) | exact pv_if_eq tab_ok rfl rfl rfl (.inr ⟨_, _, rfl⟩) | exact pv_if_ne tab_ok rfl rfl rfl (.inl rfl) | exact pv_if_ne tab_ok rfl rfl rfl (.inr ⟨_, _, rfl⟩)) rfl ?_) | refine jo_pure tab_ok rfl rfl ?_ | refine jo_want rfl ?_ | refine jo_skip rfl rfl ?_ | refine jo_load tab_ok rfl rfl rfl (by first | ((repeat first | exact Rd.here rfl | refine Rd.there ?_); done) | assumption) rfl ?_) | refine jo_nil ?_ | refine jc_seq ?_ | refine jc_skip ?_ | refine jc_region ?_ | refine jc_block ?_ | refine jc_ret ?_ | refine jc_exit ?_ | refine jx_then ?_ | refine jx_then_exit ?_ | refine jx_then_ret ?_ | refine jx_block ?_ | refine jx_block_ret ?_ | refine jx_block_hit ?_ | refine jx_block_miss rfl ?_ | refine jc_true rfl ?_ | refine jc_false rfl ?_))
    refine jo_v (pv_bool_eq tab_ok rfl rfl rfl rfl) rfl ?_
    (refine j_nm rfl ?_; repeat (first | refine jo_cons ?_ | (refine jo_iso ?_; first | (refine jo_isbin ?_; first | refine jo_v (by first | exact pv_add rfl rfl (by omega) | exact pv_sub rfl rfl (by omega)) rfl ?_ | refine jo_pure tab_ok rfl rfl ?_ | refine jo_v (by first | exact pv_ptr_eq tab_ok rfl rfl rfl | exact pv_ptr_ne tab_ok rfl rfl rfl | exact pv_if_eq tab_ok rfl rfl rfl (.inl rfl) | exact pv_if_eq tab_ok rfl rfl rfl (.inr ⟨_, _, rfl⟩) | exact pv_if_ne tab_ok rfl rfl rfl (.inl rfl) | exact pv_if_ne tab_ok rfl rfl rfl (.inr ⟨_, _, rfl⟩)) rfl ?_) | refine jo_pure tab_ok rfl rfl ?_ | refine jo_want rfl ?_ | refine jo_skip rfl rfl ?_ | refine jo_load tab_ok rfl rfl rfl (by first | ((repeat first | exact Rd.here rfl | refine Rd.there ?_); done) | assumption) rfl ?_) | refine jo_nil ?_ | refine jc_seq ?_ | refine jc_skip ?_ | refine jc_region ?_ | refine jc_block ?_ | refine jc_ret ?_ | refine jc_exit ?_ | refine jx_then ?_ | refine jx_then_exit ?_ | refine jx_then_ret ?_ | refine jx_block ?_ | refine jx_block_ret ?_ | refine jx_block_hit ?_ | refine jx_block_miss rfl ?_ | refine jc_true rfl ?_ | refine jc_false rfl ?_))
    refine jo_call [0] (awake_tri hA) ent10 rfl ⟨rfl, rfl⟩ rfl ?_
    rintro v B ⟨rfl, rfl⟩
    (refine j_nm rfl ?_; repeat (first | refine jo_cons ?_ | (refine jo_iso ?_; first | (refine jo_isbin ?_; first | refine jo_v (by first | exact pv_add rfl rfl (by omega) | exact pv_sub rfl rfl (by omega)) rfl ?_ | refine jo_pure tab_ok rfl rfl ?_ | refine jo_v (by first | exact pv_ptr_eq tab_ok rfl rfl rfl | exact pv_ptr_ne tab_ok rfl rfl rfl | exact pv_if_eq tab_ok rfl rfl rfl (.inl rfl) | exact pv_if_eq tab_ok rfl rfl rfl (.inr ⟨_, _, rfl⟩) | exact pv_if_ne tab_ok rfl rfl rfl (.inl rfl) | exact pv_if_ne tab_ok rfl rfl rfl (.inr ⟨_, _, rfl⟩)) rfl ?_) | refine jo_pure tab_ok rfl rfl ?_ | refine jo_want rfl ?_ | refine jo_skip rfl rfl ?_ | refine jo_load tab_ok rfl rfl rfl (by first | ((repeat first | exact Rd.here rfl | refine Rd.there ?_); done) | assumption) rfl ?_) | refine jo_nil ?_ | refine jc_seq ?_ | refine jc_skip ?_ | refine jc_region ?_ | refine jc_block ?_ | refine jc_ret ?_ | refine jc_exit ?_ | refine jx_then ?_ | refine jx_then_exit ?_ | refine jx_then_ret ?_ | refine jx_block ?_ | refine jx_block_ret ?_ | refine jx_block_hit ?_ | refine jx_block_miss rfl ?_ | refine jc_true rfl ?_ | refine jc_false rfl ?_))
    exact j_ret [0] [1] rfl ⟨rfl, rfl⟩ ⟨rfl, rfl⟩
  have hl0 : ¬ (max (ln : Int) pn > 120) := hl0
  have hl3 : o1.length ≤ 120 := by omega
  (refine j_nm rfl ?_; repeat (first | refine jo_cons ?_ | (refine jo_iso ?_; first | (refine jo_isbin ?_; first | refine jo_v (by first | exact pv_add rfl rfl (by omega) | exact pv_sub rfl rfl (by omega)) rfl ?_ | refine jo_pure tab_ok rfl rfl ?_ | refine jo_v (by first | exact pv_ptr_eq tab_ok rfl rfl rfl | exact pv_ptr_ne tab_ok rfl rfl rfl | exact pv_if_eq tab_ok rfl rfl rfl (.inl rfl) | exact pv_if_eq tab_ok rfl rfl rfl (.inr ⟨_, _, rfl⟩) | exact pv_if_ne tab_ok rfl rfl rfl (.inl rfl) | exact pv_if_ne tab_ok rfl rfl rfl (.inr ⟨_, _, rfl⟩)) rfl ?_) | refine jo_pure tab_ok rfl rfl ?_ | refine jo_want rfl ?_ | refine jo_skip rfl rfl ?_ | refine jo_load tab_ok rfl rfl rfl (by first | ((repeat first | exact Rd.here rfl | refine Rd.there ?_); done) | assumption) rfl ?_) | refine jo_nil ?_ | refine jc_seq ?_ | refine jc_skip ?_ | refine jc_region ?_ | refine jc_block ?_ | refine jc_ret ?_ | refine jc_exit ?_ | refine jx_then ?_ | refine jx_then_exit ?_ | refine jx_then_ret ?_ | refine jx_block ?_ | refine jx_block_ret ?_ | refine jx_block_hit ?_ | refine jx_block_miss rfl ?_ | refine jc_true rfl ?_ | refine jc_false rfl ?_))
  refine jo_v (pv_build tab_ok (szs := [1, 1, 1, 1, 1]) (cs := [.slice base len cap, .slice none 0 0, .slice none 0 0, .slice none 0 0, .bool false]) rfl rfl rfl rfl (by first | (simp [Instr.fill]; done) | simp [Instr.fill, Value.cells])) rfl (jo_cons ?_)
  refine jo_box rfl rfl rfl fun x => ?_
  (refine j_nm rfl ?_; repeat (first | refine jo_cons ?_ | (refine jo_iso ?_; first | (refine jo_isbin ?_; first | refine jo_v (by first | exact pv_add rfl rfl (by omega) | exact pv_sub rfl rfl (by omega)) rfl ?_ | refine jo_pure tab_ok rfl rfl ?_ | refine jo_v (by first | exact pv_ptr_eq tab_ok rfl rfl rfl | exact pv_ptr_ne tab_ok rfl rfl rfl | exact pv_if_eq tab_ok rfl rfl rfl (.inl rfl) | exact pv_if_eq tab_ok rfl rfl rfl (.inr ⟨_, _, rfl⟩) | exact pv_if_ne tab_ok rfl rfl rfl (.inl rfl) | exact pv_if_ne tab_ok rfl rfl rfl (.inr ⟨_, _, rfl⟩)) rfl ?_) | refine jo_pure tab_ok rfl rfl ?_ | refine jo_want rfl ?_ | refine jo_skip rfl rfl ?_ | refine jo_load tab_ok rfl rfl rfl (by first | ((repeat first | exact Rd.here rfl | refine Rd.there ?_); done) | assumption) rfl ?_) | refine jo_nil ?_ | refine jc_skip ?_ | refine jc_region ?_ | refine jc_block ?_ | refine jc_ret ?_ | refine jc_exit ?_ | refine jx_then ?_ | refine jx_then_exit ?_ | refine jx_then_ret ?_ | refine jx_block ?_ | refine jx_block_ret ?_ | refine jx_block_hit ?_ | refine jx_block_miss rfl ?_ | refine jc_true rfl ?_ | refine jc_false rfl ?_))
  refine j_close [] rfl (fun m _ => sl_nil (t := 94) (size := 2) m) ?_
  refine j_close [1, 0] rfl (rsp_shut (ms := [])) ?_
  (refine j_nm rfl ?_; repeat (first | refine jo_cons ?_ | (refine jo_iso ?_; first | (refine jo_isbin ?_; first | refine jo_v (by first | exact pv_add rfl rfl (by omega) | exact pv_sub rfl rfl (by omega)) rfl ?_ | refine jo_pure tab_ok rfl rfl ?_ | refine jo_v (by first | exact pv_ptr_eq tab_ok rfl rfl rfl | exact pv_ptr_ne tab_ok rfl rfl rfl | exact pv_if_eq tab_ok rfl rfl rfl (.inl rfl) | exact pv_if_eq tab_ok rfl rfl rfl (.inr ⟨_, _, rfl⟩) | exact pv_if_ne tab_ok rfl rfl rfl (.inl rfl) | exact pv_if_ne tab_ok rfl rfl rfl (.inr ⟨_, _, rfl⟩)) rfl ?_) | refine jo_pure tab_ok rfl rfl ?_ | refine jo_want rfl ?_ | refine jo_skip rfl rfl ?_ | refine jo_load tab_ok rfl rfl rfl (by first | ((repeat first | exact Rd.here rfl | refine Rd.there ?_); done) | assumption) rfl ?_) | refine jo_nil ?_ | refine jc_skip ?_ | refine jc_region ?_ | refine jc_block ?_ | refine jc_ret ?_ | refine jc_exit ?_ | refine jx_then ?_ | refine jx_then_exit ?_ | refine jx_then_ret ?_ | refine jx_block ?_ | refine jx_block_ret ?_ | refine jx_block_hit ?_ | refine jx_block_miss rfl ?_ | refine jc_true rfl ?_ | refine jc_false rfl ?_))
  exact j_go (b5 hA E X hro hro1 hg hl3 hros hone (rel_start hok)) [2, 0, 0] [] ⟨rfl, rfl, rfl, rfl, rfl, trivial⟩ rfl
end Sk5
end Go.Proofs.YtejaonodaplbhaaDoor
