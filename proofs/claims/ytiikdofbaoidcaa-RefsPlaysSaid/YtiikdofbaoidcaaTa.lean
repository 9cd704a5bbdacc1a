import Derived.Test.YtiikdofbaoidcaaMo
import Derived.Test.YtiikdofbaoidcaaRh
import Derived.Test.YtiikdofbaoidcaaPj
import Derived.Test.YtiikdofbaoidcaaEi
set_option linter.unusedVariables false
set_option linter.unusedSimpArgs false
namespace Go.Proofs.Ytiikdofbaoidcaa
namespace Ta
open Go Go.Proofs.Ytiikdofbaoidcaa.Hp Mp Mq Rs Rt Ru Rv Ap _root_.Go.Proofs.Ytiikdofbaoidcaa.So Ow Mo Mv Rk Rp Rw Rz Rx Rc Bp Ry Rh Pj
set_option maxRecDepth 10000
attribute [local irreducible] wpList Code.wp wpAny wpAnyK
def tab : Tab := [
  ⟨3, .int .i64, 1, 8, [.int .i64 0]⟩,
  ⟨4, .bool, 1, 1, [.bool false]⟩,
  ⟨32, .struct [(0, 3), (1, 3)], 2, 16, [.int .i64 0, .int .i64 0]⟩,
  ⟨35, .slice 32, 1, 24, [.slice none 0 0]⟩,
  ⟨47, .struct [(0, 32), (2, 3), (3, 3)], 4, 32, [.int .i64 0, .int .i64 0, .int .i64 0, .int .i64 0]⟩,
  ⟨43, .slice 47, 1, 24, [.slice none 0 0]⟩,
  ⟨65, .struct [(0, 62), (1, 63), (2, 62), (3, 4)], 4, 32, [.map none, .map none, .map none, .bool false]⟩,
  ⟨23, .pointer 65, 1, 8, [.pointer none]⟩,
  ⟨27, .struct [(0, 3), (1, 3), (2, 3)], 3, 24, [.int .i64 0, .int .i64 0, .int .i64 0]⟩,
  ⟨22, .slice 27, 1, 24, [.slice none 0 0]⟩,
  ⟨59, .struct [(0, 3), (1, 3), (2, 3), (3, 3)], 4, 32, [.int .i64 0, .int .i64 0, .int .i64 0, .int .i64 0]⟩,
  ⟨48, .slice 59, 1, 24, [.slice none 0 0]⟩,
  ⟨56, .struct [(0, 3), (1, 27)], 4, 32, [.int .i64 0, .int .i64 0, .int .i64 0, .int .i64 0]⟩,
  ⟨54, .slice 56, 1, 24, [.slice none 0 0]⟩,
  ⟨62, .map 32 3, 1, 8, [.map none]⟩,
  ⟨63, .map 3 62, 1, 8, [.map none]⟩,
  ⟨29, .iface, 1, 16, [.nilIface]⟩,
  ⟨66, .int .i64, 1, 8, [.int .i64 0]⟩]
theorem tab_3 : TE.ok Try.prog ⟨3, .int .i64, 1, 8, [.int .i64 0]⟩ := ⟨by kernel_rfl, by kernel_rfl, by kernel_rfl, by kernel_rfl⟩
theorem tab_4 : TE.ok Try.prog ⟨4, .bool, 1, 1, [.bool false]⟩ := ⟨by kernel_rfl, by kernel_rfl, by kernel_rfl, by kernel_rfl⟩
theorem tab_32 : TE.ok Try.prog ⟨32, .struct [(0, 3), (1, 3)], 2, 16, [.int .i64 0, .int .i64 0]⟩ := ⟨by kernel_rfl, by kernel_rfl, by kernel_rfl, by kernel_rfl⟩
theorem tab_35 : TE.ok Try.prog ⟨35, .slice 32, 1, 24, [.slice none 0 0]⟩ := ⟨by kernel_rfl, by kernel_rfl, by kernel_rfl, by kernel_rfl⟩
theorem tab_47 : TE.ok Try.prog ⟨47, .struct [(0, 32), (2, 3), (3, 3)], 4, 32, [.int .i64 0, .int .i64 0, .int .i64 0, .int .i64 0]⟩ := ⟨by kernel_rfl, by kernel_rfl, by kernel_rfl, by kernel_rfl⟩
theorem tab_43 : TE.ok Try.prog ⟨43, .slice 47, 1, 24, [.slice none 0 0]⟩ := ⟨by kernel_rfl, by kernel_rfl, by kernel_rfl, by kernel_rfl⟩
theorem tab_65 : TE.ok Try.prog ⟨65, .struct [(0, 62), (1, 63), (2, 62), (3, 4)], 4, 32, [.map none, .map none, .map none, .bool false]⟩ := ⟨by kernel_rfl, by kernel_rfl, by kernel_rfl, by kernel_rfl⟩
theorem tab_23 : TE.ok Try.prog ⟨23, .pointer 65, 1, 8, [.pointer none]⟩ := ⟨by kernel_rfl, by kernel_rfl, by kernel_rfl, by kernel_rfl⟩
theorem tab_27 : TE.ok Try.prog ⟨27, .struct [(0, 3), (1, 3), (2, 3)], 3, 24, [.int .i64 0, .int .i64 0, .int .i64 0]⟩ := ⟨by kernel_rfl, by kernel_rfl, by kernel_rfl, by kernel_rfl⟩
theorem tab_22 : TE.ok Try.prog ⟨22, .slice 27, 1, 24, [.slice none 0 0]⟩ := ⟨by kernel_rfl, by kernel_rfl, by kernel_rfl, by kernel_rfl⟩
theorem tab_59 : TE.ok Try.prog ⟨59, .struct [(0, 3), (1, 3), (2, 3), (3, 3)], 4, 32, [.int .i64 0, .int .i64 0, .int .i64 0, .int .i64 0]⟩ := ⟨by kernel_rfl, by kernel_rfl, by kernel_rfl, by kernel_rfl⟩
theorem tab_48 : TE.ok Try.prog ⟨48, .slice 59, 1, 24, [.slice none 0 0]⟩ := ⟨by kernel_rfl, by kernel_rfl, by kernel_rfl, by kernel_rfl⟩
theorem tab_56 : TE.ok Try.prog ⟨56, .struct [(0, 3), (1, 27)], 4, 32, [.int .i64 0, .int .i64 0, .int .i64 0, .int .i64 0]⟩ := ⟨by kernel_rfl, by kernel_rfl, by kernel_rfl, by kernel_rfl⟩
theorem tab_54 : TE.ok Try.prog ⟨54, .slice 56, 1, 24, [.slice none 0 0]⟩ := ⟨by kernel_rfl, by kernel_rfl, by kernel_rfl, by kernel_rfl⟩
theorem tab_62 : TE.ok Try.prog ⟨62, .map 32 3, 1, 8, [.map none]⟩ := ⟨by kernel_rfl, by kernel_rfl, by kernel_rfl, by kernel_rfl⟩
theorem tab_63 : TE.ok Try.prog ⟨63, .map 3 62, 1, 8, [.map none]⟩ := ⟨by kernel_rfl, by kernel_rfl, by kernel_rfl, by kernel_rfl⟩
theorem tab_29 : TE.ok Try.prog ⟨29, .iface, 1, 16, [.nilIface]⟩ := ⟨by kernel_rfl, by kernel_rfl, by kernel_rfl, by kernel_rfl⟩
theorem tab_66 : TE.ok Try.prog ⟨66, .int .i64, 1, 8, [.int .i64 0]⟩ := ⟨by kernel_rfl, by kernel_rfl, by kernel_rfl, by kernel_rfl⟩
theorem tab_ok : tab.ok Try.prog := by
  intro e he
  simp only [tab, List.mem_cons, List.not_mem_nil, or_false] at he
  rcases he with rfl | rfl | rfl | rfl | rfl | rfl | rfl | rfl | rfl | rfl | rfl | rfl | rfl | rfl | rfl | rfl | rfl | rfl
  · exact tab_3
  · exact tab_4
  · exact tab_32
  · exact tab_35
  · exact tab_47
  · exact tab_43
  · exact tab_65
  · exact tab_23
  · exact tab_27
  · exact tab_22
  · exact tab_59
  · exact tab_48
  · exact tab_56
  · exact tab_54
  · exact tab_62
  · exact tab_63
  · exact tab_29
  · exact tab_66

theorem ent8 : Hp.Enters Try.prog 8 := ⟨_, _, Try.func8, by kernel_rfl, rfl⟩
theorem ent10 : Hp.Enters Try.prog 10 := ⟨_, _, Try.func10, by kernel_rfl, rfl⟩
theorem ent17 : Hp.Enters Try.prog 17 := ⟨_, _, Try.func17, by kernel_rfl, rfl⟩
theorem ent18 : Hp.Enters Try.prog 18 := ⟨_, _, Try.func18, by kernel_rfl, rfl⟩
theorem ent20 : Hp.Enters Try.prog 20 := ⟨_, _, Try.func20, by kernel_rfl, rfl⟩
theorem ent9 : Hp.Enters Try.prog 9 := ⟨_, _, Try.func9, by kernel_rfl, rfl⟩
theorem ent24 : Hp.Enters Try.prog 24 := ⟨_, _, Try.func24, by kernel_rfl, rfl⟩
theorem ent25 : Hp.Enters Try.prog 25 := ⟨_, _, Try.func25, by kernel_rfl, rfl⟩
theorem ent16 : Hp.Enters Try.prog 16 := ⟨_, _, Try.func16, by kernel_rfl, rfl⟩
theorem ent21 : Hp.Enters Try.prog 21 := ⟨_, _, Try.func21, by kernel_rfl, rfl⟩

abbrev OM (A : Assn) : Value → List Assn → Prop := fun v B => v = .bool true ∧ B = [A]
abbrev Q7 (E : World) (A : Assn) (F : List Assn) : Exit → Act → World → Prop := bodyPost Try.prog Try.f7 (ends E (OM A) F)
abbrev I7 (ob : Option Addr) (n oc p : Nat) (s : Sg) : Fr := [(31, I s.i), (30, I n), (29, .slice ob n oc), (3, ptr p), (4, s.lv), (5, s.wv), (6, .bool s.st.isSome)]
abbrev A7 (A X : Assn) (p : Nat) (s : Sg) : List Assn := [Rx p s.st s.R, s.C, A, X]
abbrev R7 (E : World) (A X : Assn) (ob : Option Addr) (n oc p kk : Nat) : Act → World → Prop := Rnd E 197 (I7 ob n oc p) (A7 A X p) (Inv n) (fun s => n - s.i) kk
theorem e3 {A : Assn} (E : World) (X : Assn) {p : Nat} : J E (here Try.prog [.r, .r, .l, .r, .l] Try.f7 (Q7 E A [X])) 197 [(3, ptr p)] [A, X] := by
  refine j_here rfl ?_
  (refine j_nm rfl ?_; repeat (first | refine jo_cons ?_ | (refine jo_iso ?_; first | (refine jo_isbin ?_; first | refine jo_v (by first | exact pv_add rfl rfl (by omega) | exact pv_sub rfl rfl (by omega)) rfl ?_ | refine jo_pure tab_ok rfl rfl ?_ | refine jo_v (by first | exact pv_add64 rfl rfl | exact pv_ptr_eq tab_ok rfl rfl rfl | exact pv_ptr_ne tab_ok rfl rfl rfl | exact pv_if_eq tab_ok rfl rfl rfl (.inl rfl) | exact pv_if_eq tab_ok rfl rfl rfl (.inr ⟨_, _, rfl⟩) | exact pv_if_ne tab_ok rfl rfl rfl (.inl rfl) | exact pv_if_ne tab_ok rfl rfl rfl (.inr ⟨_, _, rfl⟩)) rfl ?_) | refine jo_pure tab_ok rfl rfl ?_ | refine jo_want rfl ?_ | refine jo_skip rfl rfl ?_ | refine jo_load tab_ok rfl rfl rfl (by first | ((repeat first | exact Rd.here rfl | refine Rd.there ?_); done) | assumption) rfl ?_) | refine jo_nil ?_ | refine jc_seq ?_ | refine jc_skip ?_ | refine jc_region ?_ | refine jc_block ?_ | refine jc_ret ?_ | refine jc_exit ?_ | refine jx_then ?_ | refine jx_then_exit ?_ | refine jx_then_ret ?_ | refine jx_block ?_ | refine jx_block_ret ?_ | refine jx_block_hit ?_ | refine jx_block_miss rfl ?_ | refine jc_true rfl ?_ | refine jc_false rfl ?_))
  refine jo_call [] (awake_tri) ent9 rfl ⟨rfl, rfl⟩ rfl ?_
  rintro v B ⟨rfl, rfl⟩
  (refine j_nm rfl ?_; repeat (first | refine jo_cons ?_ | (refine jo_iso ?_; first | (refine jo_isbin ?_; first | refine jo_v (by first | exact pv_add rfl rfl (by omega) | exact pv_sub rfl rfl (by omega)) rfl ?_ | refine jo_pure tab_ok rfl rfl ?_ | refine jo_v (by first | exact pv_add64 rfl rfl | exact pv_ptr_eq tab_ok rfl rfl rfl | exact pv_ptr_ne tab_ok rfl rfl rfl | exact pv_if_eq tab_ok rfl rfl rfl (.inl rfl) | exact pv_if_eq tab_ok rfl rfl rfl (.inr ⟨_, _, rfl⟩) | exact pv_if_ne tab_ok rfl rfl rfl (.inl rfl) | exact pv_if_ne tab_ok rfl rfl rfl (.inr ⟨_, _, rfl⟩)) rfl ?_) | refine jo_pure tab_ok rfl rfl ?_ | refine jo_want rfl ?_ | refine jo_skip rfl rfl ?_ | refine jo_load tab_ok rfl rfl rfl (by first | ((repeat first | exact Rd.here rfl | refine Rd.there ?_); done) | assumption) rfl ?_) | refine jo_nil ?_ | refine jc_seq ?_ | refine jc_skip ?_ | refine jc_region ?_ | refine jc_block ?_ | refine jc_ret ?_ | refine jc_exit ?_ | refine jx_then ?_ | refine jx_then_exit ?_ | refine jx_then_ret ?_ | refine jx_block ?_ | refine jx_block_ret ?_ | refine jx_block_hit ?_ | refine jx_block_miss rfl ?_ | refine jc_true rfl ?_ | refine jc_false rfl ?_))
  exact j_ret [0] [] rfl ⟨rfl, rfl⟩ ⟨rfl, rfl⟩
set_option maxHeartbeats 8000000 in
theorem h45 {A : Assn} (E : World) (X : Assn) {ob : Option Addr} {n oc p q kk i : Nat} {k o1 o2 o3 : Int} {s : Sg} (hs : Inv n s) (hi : s.i = i + 1) (hkk : n - (i + 1) < kk) (hn : n ≤ 150) :
    J E (here Try.prog [.r, .r, .r, .r, .r, .l, .r, .b, .body (R7 E A X ob n oc p kk), .r, .r, .l, .b, .r, .r] Try.f7 (Q7 E A [X])) 197 [(3, ptr p), (4, s.lv), (5, s.wv), (6, .bool s.st.isSome), (8, ptr q), (29, .slice ob n oc), (30, I n), (31, I i)]
      [cl q [I k, I o1, I o2, I o3] 56, Rx p s.st s.R, s.C, A, X] := by
  obtain ⟨i', st, R0, R, l, was, lv, wv, C⟩ := s
  have hi : i' = i + 1 := hi
  subst hi
  have hi2 : i + 1 ≤ n := hs.i
  have hl : l.length ≤ 1000 := by
    have := hs.len
    simp only at this
    omega
  have hh := fun (wv' : Value) (bg : Bool) => @holds_tri C p wv' lv bg R l hs.rl hs.lk hs.ok hl ((o1, o2), o3)
  refine j_here rfl ?_
  dsimp only
  cases st with
  | none =>
    (refine j_nm rfl ?_; repeat (first | refine jo_cons ?_ | (refine jo_iso ?_; first | (refine jo_isbin ?_; first | refine jo_v (by first | exact pv_add rfl rfl (by omega) | exact pv_sub rfl rfl (by omega)) rfl ?_ | refine jo_pure tab_ok rfl rfl ?_ | refine jo_v (by first | exact pv_add64 rfl rfl | exact pv_ptr_eq tab_ok rfl rfl rfl | exact pv_ptr_ne tab_ok rfl rfl rfl | exact pv_if_eq tab_ok rfl rfl rfl (.inl rfl) | exact pv_if_eq tab_ok rfl rfl rfl (.inr ⟨_, _, rfl⟩) | exact pv_if_ne tab_ok rfl rfl rfl (.inl rfl) | exact pv_if_ne tab_ok rfl rfl rfl (.inr ⟨_, _, rfl⟩)) rfl ?_) | refine jo_pure tab_ok rfl rfl ?_ | refine jo_want rfl ?_ | refine jo_skip rfl rfl ?_ | refine jo_load tab_ok rfl rfl rfl (by first | ((repeat first | exact Rd.here rfl | refine Rd.there ?_); done) | assumption) rfl ?_) | refine jo_nil ?_ | refine jc_seq ?_ | refine jc_skip ?_ | refine jc_region ?_ | refine jc_block ?_ | refine jc_ret ?_ | refine jc_exit ?_ | refine jx_then ?_ | refine jx_then_exit ?_ | refine jx_then_ret ?_ | refine jx_block ?_ | refine jx_block_ret ?_ | refine jx_block_hit ?_ | refine jx_block_miss rfl ?_ | refine jc_true rfl ?_ | refine jc_false rfl ?_))
    refine jo_load_agg tab_ok (vs := [I o1, I o2, I o3]) rfl rfl rfl rfl rd_op rfl (jo_cons ?_)
    (refine j_nm rfl ?_; repeat (first | refine jo_cons ?_ | (refine jo_iso ?_; first | (refine jo_isbin ?_; first | refine jo_v (by first | exact pv_add rfl rfl (by omega) | exact pv_sub rfl rfl (by omega)) rfl ?_ | refine jo_pure tab_ok rfl rfl ?_ | refine jo_v (by first | exact pv_add64 rfl rfl | exact pv_ptr_eq tab_ok rfl rfl rfl | exact pv_ptr_ne tab_ok rfl rfl rfl | exact pv_if_eq tab_ok rfl rfl rfl (.inl rfl) | exact pv_if_eq tab_ok rfl rfl rfl (.inr ⟨_, _, rfl⟩) | exact pv_if_ne tab_ok rfl rfl rfl (.inl rfl) | exact pv_if_ne tab_ok rfl rfl rfl (.inr ⟨_, _, rfl⟩)) rfl ?_) | refine jo_pure tab_ok rfl rfl ?_ | refine jo_want rfl ?_ | refine jo_skip rfl rfl ?_ | refine jo_load tab_ok rfl rfl rfl (by first | ((repeat first | exact Rd.here rfl | refine Rd.there ?_); done) | assumption) rfl ?_) | refine jo_nil ?_ | refine jc_seq ?_ | refine jc_skip ?_ | refine jc_region ?_ | refine jc_block ?_ | refine jc_ret ?_ | refine jc_exit ?_ | refine jx_then ?_ | refine jx_then_exit ?_ | refine jx_then_ret ?_ | refine jx_block ?_ | refine jx_block_ret ?_ | refine jx_block_hit ?_ | refine jx_block_miss rfl ?_ | refine jc_true rfl ?_ | refine jc_false rfl ?_))
    refine jo_call [1, 1] (hh (.map none) false) ent25 rfl ⟨rfl, rfl⟩ rfl ?_
    rintro v B ⟨rfl, rfl⟩
    (refine j_nm rfl ?_; repeat (first | refine jo_cons ?_ | (refine jo_iso ?_; first | (refine jo_isbin ?_; first | refine jo_v (by first | exact pv_add rfl rfl (by omega) | exact pv_sub rfl rfl (by omega)) rfl ?_ | refine jo_pure tab_ok rfl rfl ?_ | refine jo_v (by first | exact pv_add64 rfl rfl | exact pv_ptr_eq tab_ok rfl rfl rfl | exact pv_ptr_ne tab_ok rfl rfl rfl | exact pv_if_eq tab_ok rfl rfl rfl (.inl rfl) | exact pv_if_eq tab_ok rfl rfl rfl (.inr ⟨_, _, rfl⟩) | exact pv_if_ne tab_ok rfl rfl rfl (.inl rfl) | exact pv_if_ne tab_ok rfl rfl rfl (.inr ⟨_, _, rfl⟩)) rfl ?_) | refine jo_pure tab_ok rfl rfl ?_ | refine jo_want rfl ?_ | refine jo_skip rfl rfl ?_ | refine jo_load tab_ok rfl rfl rfl (by first | ((repeat first | exact Rd.here rfl | refine Rd.there ?_); done) | assumption) rfl ?_) | refine jo_nil ?_ | refine jc_seq ?_ | refine jc_skip ?_ | refine jc_region ?_ | refine jc_block ?_ | refine jc_ret ?_ | refine jc_exit ?_ | refine jx_then ?_ | refine jx_then_exit ?_ | refine jx_then_ret ?_ | refine jx_block ?_ | refine jx_block_ret ?_ | refine jx_block_hit ?_ | refine jx_block_miss rfl ?_ | refine jc_true rfl ?_ | refine jc_false rfl ?_))
    exact jx_rnd ⟨i + 1, none, R0, R, l, was, lv, wv, C⟩ [] [2] hs hkk ⟨rfl, rfl, rfl, rfl, rfl, rfl, rfl, trivial⟩ rfl
  | some W =>
    refine j_front [1] (j_rxs fun wb => ?_)
    (refine j_nm rfl ?_; repeat (first | refine jo_cons ?_ | (refine jo_iso ?_; first | (refine jo_isbin ?_; first | refine jo_v (by first | exact pv_add rfl rfl (by omega) | exact pv_sub rfl rfl (by omega)) rfl ?_ | refine jo_pure tab_ok rfl rfl ?_ | refine jo_v (by first | exact pv_add64 rfl rfl | exact pv_ptr_eq tab_ok rfl rfl rfl | exact pv_ptr_ne tab_ok rfl rfl rfl | exact pv_if_eq tab_ok rfl rfl rfl (.inl rfl) | exact pv_if_eq tab_ok rfl rfl rfl (.inr ⟨_, _, rfl⟩) | exact pv_if_ne tab_ok rfl rfl rfl (.inl rfl) | exact pv_if_ne tab_ok rfl rfl rfl (.inr ⟨_, _, rfl⟩)) rfl ?_) | refine jo_pure tab_ok rfl rfl ?_ | refine jo_want rfl ?_ | refine jo_skip rfl rfl ?_ | refine jo_load tab_ok rfl rfl rfl (by first | ((repeat first | exact Rd.here rfl | refine Rd.there ?_); done) | assumption) rfl ?_) | refine jo_nil ?_ | refine jc_seq ?_ | refine jc_skip ?_ | refine jc_region ?_ | refine jc_block ?_ | refine jc_ret ?_ | refine jc_exit ?_ | refine jx_then ?_ | refine jx_then_exit ?_ | refine jx_then_ret ?_ | refine jx_block ?_ | refine jx_block_ret ?_ | refine jx_block_hit ?_ | refine jx_block_miss rfl ?_ | refine jc_true rfl ?_ | refine jc_false rfl ?_))
    refine jo_load_agg tab_ok (vs := [I o1, I o2, I o3]) rfl rfl rfl rfl (.there (.there rd_op)) rfl (jo_cons ?_)
    (refine j_nm rfl ?_; repeat (first | refine jo_cons ?_ | (refine jo_iso ?_; first | (refine jo_isbin ?_; first | refine jo_v (by first | exact pv_add rfl rfl (by omega) | exact pv_sub rfl rfl (by omega)) rfl ?_ | refine jo_pure tab_ok rfl rfl ?_ | refine jo_v (by first | exact pv_add64 rfl rfl | exact pv_ptr_eq tab_ok rfl rfl rfl | exact pv_ptr_ne tab_ok rfl rfl rfl | exact pv_if_eq tab_ok rfl rfl rfl (.inl rfl) | exact pv_if_eq tab_ok rfl rfl rfl (.inr ⟨_, _, rfl⟩) | exact pv_if_ne tab_ok rfl rfl rfl (.inl rfl) | exact pv_if_ne tab_ok rfl rfl rfl (.inr ⟨_, _, rfl⟩)) rfl ?_) | refine jo_pure tab_ok rfl rfl ?_ | refine jo_want rfl ?_ | refine jo_skip rfl rfl ?_ | refine jo_load tab_ok rfl rfl rfl (by first | ((repeat first | exact Rd.here rfl | refine Rd.there ?_); done) | assumption) rfl ?_) | refine jo_nil ?_ | refine jc_seq ?_ | refine jc_skip ?_ | refine jc_region ?_ | refine jc_block ?_ | refine jc_ret ?_ | refine jc_exit ?_ | refine jx_then ?_ | refine jx_then_exit ?_ | refine jx_then_ret ?_ | refine jx_block ?_ | refine jx_block_ret ?_ | refine jx_block_hit ?_ | refine jx_block_miss rfl ?_ | refine jc_true rfl ?_ | refine jc_false rfl ?_))
    refine jo_call [0, 2] (hh (.map (some wb)) true) ent25 rfl ⟨rfl, rfl⟩ rfl ?_
    rintro v B ⟨rfl, rfl⟩
    refine j_close [0, 1] rfl rx_shut ?_
    (refine j_nm rfl ?_; repeat (first | refine jo_cons ?_ | (refine jo_iso ?_; first | (refine jo_isbin ?_; first | refine jo_v (by first | exact pv_add rfl rfl (by omega) | exact pv_sub rfl rfl (by omega)) rfl ?_ | refine jo_pure tab_ok rfl rfl ?_ | refine jo_v (by first | exact pv_add64 rfl rfl | exact pv_ptr_eq tab_ok rfl rfl rfl | exact pv_ptr_ne tab_ok rfl rfl rfl | exact pv_if_eq tab_ok rfl rfl rfl (.inl rfl) | exact pv_if_eq tab_ok rfl rfl rfl (.inr ⟨_, _, rfl⟩) | exact pv_if_ne tab_ok rfl rfl rfl (.inl rfl) | exact pv_if_ne tab_ok rfl rfl rfl (.inr ⟨_, _, rfl⟩)) rfl ?_) | refine jo_pure tab_ok rfl rfl ?_ | refine jo_want rfl ?_ | refine jo_skip rfl rfl ?_ | refine jo_load tab_ok rfl rfl rfl (by first | ((repeat first | exact Rd.here rfl | refine Rd.there ?_); done) | assumption) rfl ?_) | refine jo_nil ?_ | refine jc_seq ?_ | refine jc_skip ?_ | refine jc_region ?_ | refine jc_block ?_ | refine jc_ret ?_ | refine jc_exit ?_ | refine jx_then ?_ | refine jx_then_exit ?_ | refine jx_then_ret ?_ | refine jx_block ?_ | refine jx_block_ret ?_ | refine jx_block_hit ?_ | refine jx_block_miss rfl ?_ | refine jc_true rfl ?_ | refine jc_false rfl ?_))
    exact jx_rnd ⟨i + 1, some W, R0, R, l, was, lv, wv, C⟩ [] [2] hs hkk ⟨rfl, rfl, rfl, rfl, rfl, rfl, rfl, trivial⟩ rfl
end Ta
end Go.Proofs.Ytiikdofbaoidcaa
