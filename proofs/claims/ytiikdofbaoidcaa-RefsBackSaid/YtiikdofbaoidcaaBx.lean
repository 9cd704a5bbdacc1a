import Derived.Test.YtiikdofbaoidcaaBw
set_option linter.unusedVariables false
set_option linter.unusedSimpArgs false
namespace Go.Proofs.Ytiikdofbaoidcaa
namespace Bx
open Go Go.Proofs.Ytiikdofbaoidcaa.Hp Mp Mq Rs Rt Ru Rv Ap _root_.Go.Proofs.Ytiikdofbaoidcaa.So Ow Mo Mv Rk Rp Rw Rz Rx Rc Bp Bw
set_option maxRecDepth 10000
attribute [local irreducible] wpList Code.wp wpAny wpAnyK
def tab : Tab := [
  ⟨3, .int .i64, 1, 8, [.int .i64 0]⟩,
  ⟨4, .bool, 1, 1, [.bool false]⟩,
  ⟨32, .struct [(0, 3), (1, 3)], 2, 16, [.int .i64 0, .int .i64 0]⟩,
  ⟨35, .slice 32, 1, 24, [.slice none 0 0]⟩,
  ⟨47, .struct [(0, 32), (2, 3), (3, 3)], 4, 32, [.int .i64 0, .int .i64 0, .int .i64 0, .int .i64 0]⟩,
  ⟨43, .slice 47, 1, 24, [.slice none 0 0]⟩,
  ⟨65, .struct [(0, 62), (1, 63), (2, 62), (3, 4)], 4, 32, [.map none, .map none, .map none, .bool false]⟩,
  ⟨23, .pointer 65, 1, 8, [.pointer none]⟩,
  ⟨27, .struct [(0, 3), (1, 3), (2, 3)], 3, 24, [.int .i64 0, .int .i64 0, .int .i64 0]⟩,
  ⟨22, .slice 27, 1, 24, [.slice none 0 0]⟩,
  ⟨59, .struct [(0, 3), (1, 3), (2, 3), (3, 3)], 4, 32, [.int .i64 0, .int .i64 0, .int .i64 0, .int .i64 0]⟩,
  ⟨48, .slice 59, 1, 24, [.slice none 0 0]⟩,
  ⟨62, .map 32 3, 1, 8, [.map none]⟩,
  ⟨63, .map 3 62, 1, 8, [.map none]⟩,
  ⟨29, .iface, 1, 16, [.nilIface]⟩,
  ⟨66, .int .i64, 1, 8, [.int .i64 0]⟩]
theorem tab_3 : TE.ok Try.prog ⟨3, .int .i64, 1, 8, [.int .i64 0]⟩ := ⟨by kernel_rfl, by kernel_rfl, by kernel_rfl, by kernel_rfl⟩
theorem tab_4 : TE.ok Try.prog ⟨4, .bool, 1, 1, [.bool false]⟩ := ⟨by kernel_rfl, by kernel_rfl, by kernel_rfl, by kernel_rfl⟩
theorem tab_32 : TE.ok Try.prog ⟨32, .struct [(0, 3), (1, 3)], 2, 16, [.int .i64 0, .int .i64 0]⟩ := ⟨by kernel_rfl, by kernel_rfl, by kernel_rfl, by kernel_rfl⟩
theorem tab_35 : TE.ok Try.prog ⟨35, .slice 32, 1, 24, [.slice none 0 0]⟩ := ⟨by kernel_rfl, by kernel_rfl, by kernel_rfl, by kernel_rfl⟩
theorem tab_47 : TE.ok Try.prog ⟨47, .struct [(0, 32), (2, 3), (3, 3)], 4, 32, [.int .i64 0, .int .i64 0, .int .i64 0, .int .i64 0]⟩ := ⟨by kernel_rfl, by kernel_rfl, by kernel_rfl, by kernel_rfl⟩
theorem tab_43 : TE.ok Try.prog ⟨43, .slice 47, 1, 24, [.slice none 0 0]⟩ := ⟨by kernel_rfl, by kernel_rfl, by kernel_rfl, by kernel_rfl⟩
theorem tab_65 : TE.ok Try.prog ⟨65, .struct [(0, 62), (1, 63), (2, 62), (3, 4)], 4, 32, [.map none, .map none, .map none, .bool false]⟩ := ⟨by kernel_rfl, by kernel_rfl, by kernel_rfl, by kernel_rfl⟩
theorem tab_23 : TE.ok Try.prog ⟨23, .pointer 65, 1, 8, [.pointer none]⟩ := ⟨by kernel_rfl, by kernel_rfl, by kernel_rfl, by kernel_rfl⟩
theorem tab_27 : TE.ok Try.prog ⟨27, .struct [(0, 3), (1, 3), (2, 3)], 3, 24, [.int .i64 0, .int .i64 0, .int .i64 0]⟩ := ⟨by kernel_rfl, by kernel_rfl, by kernel_rfl, by kernel_rfl⟩
theorem tab_22 : TE.ok Try.prog ⟨22, .slice 27, 1, 24, [.slice none 0 0]⟩ := ⟨by kernel_rfl, by kernel_rfl, by kernel_rfl, by kernel_rfl⟩
theorem tab_59 : TE.ok Try.prog ⟨59, .struct [(0, 3), (1, 3), (2, 3), (3, 3)], 4, 32, [.int .i64 0, .int .i64 0, .int .i64 0, .int .i64 0]⟩ := ⟨by kernel_rfl, by kernel_rfl, by kernel_rfl, by kernel_rfl⟩
theorem tab_48 : TE.ok Try.prog ⟨48, .slice 59, 1, 24, [.slice none 0 0]⟩ := ⟨by kernel_rfl, by kernel_rfl, by kernel_rfl, by kernel_rfl⟩
theorem tab_62 : TE.ok Try.prog ⟨62, .map 32 3, 1, 8, [.map none]⟩ := ⟨by kernel_rfl, by kernel_rfl, by kernel_rfl, by kernel_rfl⟩
theorem tab_63 : TE.ok Try.prog ⟨63, .map 3 62, 1, 8, [.map none]⟩ := ⟨by kernel_rfl, by kernel_rfl, by kernel_rfl, by kernel_rfl⟩
theorem tab_29 : TE.ok Try.prog ⟨29, .iface, 1, 16, [.nilIface]⟩ := ⟨by kernel_rfl, by kernel_rfl, by kernel_rfl, by kernel_rfl⟩
theorem tab_66 : TE.ok Try.prog ⟨66, .int .i64, 1, 8, [.int .i64 0]⟩ := ⟨by kernel_rfl, by kernel_rfl, by kernel_rfl, by kernel_rfl⟩
theorem tab_ok : tab.ok Try.prog := by
  intro e he
  simp only [tab, List.mem_cons, List.not_mem_nil, or_false] at he
  rcases he with rfl | rfl | rfl | rfl | rfl | rfl | rfl | rfl | rfl | rfl | rfl | rfl | rfl | rfl | rfl | rfl
  · exact tab_3
  · exact tab_4
  · exact tab_32
  · exact tab_35
  · exact tab_47
  · exact tab_43
  · exact tab_65
  · exact tab_23
  · exact tab_27
  · exact tab_22
  · exact tab_59
  · exact tab_48
  · exact tab_62
  · exact tab_63
  · exact tab_29
  · exact tab_66

theorem ent8 : Hp.Enters Try.prog 8 := ⟨_, _, Try.func8, by kernel_rfl, rfl⟩
theorem ent14 : Hp.Enters Try.prog 14 := ⟨_, _, Try.func14, by kernel_rfl, rfl⟩
theorem ent11 : Hp.Enters Try.prog 11 := ⟨_, _, Try.func11, by kernel_rfl, rfl⟩
theorem ent17 : Hp.Enters Try.prog 17 := ⟨_, _, Try.func17, by kernel_rfl, rfl⟩
theorem ent18 : Hp.Enters Try.prog 18 := ⟨_, _, Try.func18, by kernel_rfl, rfl⟩
theorem ent20 : Hp.Enters Try.prog 20 := ⟨_, _, Try.func20, by kernel_rfl, rfl⟩
theorem ent9 : Hp.Enters Try.prog 9 := ⟨_, _, Try.func9, by kernel_rfl, rfl⟩
theorem ent16 : Hp.Enters Try.prog 16 := ⟨_, _, Try.func16, by kernel_rfl, rfl⟩
theorem ent19 : Hp.Enters Try.prog 19 := ⟨_, _, Try.func19, by kernel_rfl, rfl⟩
theorem ent21 : Hp.Enters Try.prog 21 := ⟨_, _, Try.func21, by kernel_rfl, rfl⟩
theorem ent15 : Hp.Enters Try.prog 15 := ⟨_, _, Try.func15, by kernel_rfl, rfl⟩

set_option maxHeartbeats 8000000 in
theorem b32 {A C : Assn} (E : World) (X : Assn) {p q7 q8 : Nat} {W R0 R l was : List Own} {S : List Two} {lv wv cv : Value} (hl : Ro C 3 lv (rcells l)) (hw : Ro C 3 wv (rcells was)) (hk : Wk W R0 R) (hS : ∀ o, o ∈ S ↔ o ∈ W.map (·.1)) (hSn : S.Nodup) (hlk0 : Lk was R0) (hR0 : Okr R0) (hlk : Lk l R) (hR : Okr R)
    (hb1 : was.length ≤ 200) (hb2 : l.length ≤ 400) (hb3 : (comL W R S).length ≤ 200) :
    J E (here Try.prog [.r, .r, .r, .r, .r, .r, .r, .r, .r, .r, .r, .r] Try.f4 (QB E A [X])) 155 [(7, ptr q7), (8, ptr q8), (12, wv), (17, cv)] [sl 47 4 cv (ccells (comL W R S)), cl q7 [ptr p] 23, cl q8 [lv] 22, Rf p (.map none) false R, C, A, X] := by
  have hcn := com_nd (W := W) (R := R) hSn
  have hcf := fun c hc => @com_from W R0 R S hk hS c hc
  have hend := @cm_end W R0 R was l S hk hS
  have hcp : ∀ x ∈ comL W R S, 0 ≤ x.2.2 := fun x hx => by rw [(hcf x hx).2.1]; exact of_nn hR _
  have hc0 := cm_start (comL W R S) hlk0 hR0
  generalize comL W R S = c at hcn hcf hend hb3 hcp hc0 ⊢
  refine j_here rfl ?_
  refine j_sl_ro fun hrc => ?_
  obtain ⟨cb, k, cc, rfl, hkl, hkm, hor⟩ := hrc
  rw [ccells_len] at hkl
  have hkl : c.length = k := by omega
  (refine j_nm rfl ?_; repeat (first | refine jo_cons ?_ | (refine jo_iso ?_; first | (refine jo_isbin ?_; first | refine jo_v (by first | exact pv_add rfl rfl (by omega) | exact pv_sub rfl rfl (by omega)) rfl ?_ | refine jo_pure tab_ok rfl rfl ?_ | refine jo_v (by first | exact pv_add64 rfl rfl | exact pv_ptr_eq tab_ok rfl rfl rfl | exact pv_ptr_ne tab_ok rfl rfl rfl | exact pv_if_eq tab_ok rfl rfl rfl (.inl rfl) | exact pv_if_eq tab_ok rfl rfl rfl (.inr ⟨_, _, rfl⟩) | exact pv_if_ne tab_ok rfl rfl rfl (.inl rfl) | exact pv_if_ne tab_ok rfl rfl rfl (.inr ⟨_, _, rfl⟩)) rfl ?_) | refine jo_pure tab_ok rfl rfl ?_ | refine jo_want rfl ?_ | refine jo_skip rfl rfl ?_ | refine jo_load tab_ok rfl rfl rfl (by first | ((repeat first | exact Rd.here rfl | refine Rd.there ?_); done) | assumption) rfl ?_) | refine jo_nil ?_ | refine jc_seq ?_ | refine jc_skip ?_ | refine jc_region ?_ | refine jc_block ?_ | refine jc_ret ?_ | refine jc_exit ?_ | refine jx_then ?_ | refine jx_then_exit ?_ | refine jx_then_ret ?_ | refine jx_block ?_ | refine jx_block_ret ?_ | refine jx_block_hit ?_ | refine jx_block_miss rfl ?_ | refine jc_true rfl ?_ | refine jc_false rfl ?_))
  refine jc_loop (ι := Nat × Value × Assn) (fun x => [(103, I x.1), (102, I k), (101, .slice cb k cc), (7, ptr q7), (8, ptr q8), (12, x.2.1)]) (fun x => [sl 47 4 (.slice cb k cc) (ccells c), cl q7 [ptr p] 23, cl q8 [lv] 22, Rf p (.map none) false R, x.2.2, A, X])
    (fun x => x.1 ≤ k ∧ Cm R0 was c x.1 ∧ Ro x.2.2 3 x.2.1 (rcells (wasF was (c.take x.1))) ∧ Ro x.2.2 3 lv (rcells l)) (fun x => k - x.1) (0, wv, C) [] [] ⟨Nat.zero_le _, hc0, hw, hl⟩ ⟨rfl, rfl, rfl, rfl, rfl, rfl, trivial⟩ rfl ?_
  rintro ⟨i, wv, C⟩ ⟨hi, hcm, hw, hl⟩
  simp only at hi hcm hw hl
  dsimp only
  have hwl := wasF_len (c.take i) was
  have htl : (c.take i).length ≤ c.length := by rw [List.length_take]; omega
  (refine j_nm rfl ?_; repeat (first | refine jo_cons ?_ | (refine jo_iso ?_; first | (refine jo_isbin ?_; first | refine jo_v (by first | exact pv_add rfl rfl (by omega) | exact pv_sub rfl rfl (by omega)) rfl ?_ | refine jo_pure tab_ok rfl rfl ?_ | refine jo_v (by first | exact pv_add64 rfl rfl | exact pv_ptr_eq tab_ok rfl rfl rfl | exact pv_ptr_ne tab_ok rfl rfl rfl | exact pv_if_eq tab_ok rfl rfl rfl (.inl rfl) | exact pv_if_eq tab_ok rfl rfl rfl (.inr ⟨_, _, rfl⟩) | exact pv_if_ne tab_ok rfl rfl rfl (.inl rfl) | exact pv_if_ne tab_ok rfl rfl rfl (.inr ⟨_, _, rfl⟩)) rfl ?_) | refine jo_pure tab_ok rfl rfl ?_ | refine jo_want rfl ?_ | refine jo_skip rfl rfl ?_ | refine jo_load tab_ok rfl rfl rfl (by first | ((repeat first | exact Rd.here rfl | refine Rd.there ?_); done) | assumption) rfl ?_) | refine jo_nil ?_ | refine jc_seq ?_ | refine jc_skip ?_ | refine jc_region ?_ | refine jc_block ?_ | refine jc_ret ?_ | refine jc_exit ?_ | refine jx_then ?_ | refine jx_then_exit ?_ | refine jx_then_ret ?_ | refine jx_block ?_ | refine jx_block_ret ?_ | refine jx_block_hit ?_ | refine jx_block_miss rfl ?_ | refine jc_true rfl ?_ | refine jc_false rfl ?_))
  refine jc_dec rfl (fun h => ?_) (fun h => ?_)
  · have hlt : i < k := by have h' : (i : Int) < k := h; omega
    have hil : i < c.length := by omega
    obtain ⟨mp, mo_, rfl, ro⟩ := hor.resolve_left (by omega)
    have hr4 := fun L => ccells_rd4 (ro L) hil
    have hcm2 := cm_step hcn hcp hcm hil
    have h1 := (hcf _ (List.getElem_mem hil)).1.trans (cm_of hcn hcm hil).symm
    have h2 := (hcf _ (List.getElem_mem hil)).2.1
    have h3 := (hcf _ (List.getElem_mem hil)).2.2
    have hwt := wasF_take (l := was) hil
    generalize c[i] = x at hr4 h1 h2 h3 hwt
    obtain ⟨⟨o1, o2⟩, a, b⟩ := x
    simp only at h1 h2 h3 hwt
    (refine j_nm rfl ?_; repeat (first | refine jo_cons ?_ | (refine jo_iso ?_; first | (refine jo_isbin ?_; first | refine jo_v (by first | exact pv_add rfl rfl (by omega) | exact pv_sub rfl rfl (by omega)) rfl ?_ | refine jo_pure tab_ok rfl rfl ?_ | refine jo_v (by first | exact pv_add64 rfl rfl | exact pv_ptr_eq tab_ok rfl rfl rfl | exact pv_ptr_ne tab_ok rfl rfl rfl | exact pv_if_eq tab_ok rfl rfl rfl (.inl rfl) | exact pv_if_eq tab_ok rfl rfl rfl (.inr ⟨_, _, rfl⟩) | exact pv_if_ne tab_ok rfl rfl rfl (.inl rfl) | exact pv_if_ne tab_ok rfl rfl rfl (.inr ⟨_, _, rfl⟩)) rfl ?_) | refine jo_pure tab_ok rfl rfl ?_ | refine jo_want rfl ?_ | refine jo_skip rfl rfl ?_ | refine jo_load tab_ok rfl rfl rfl (by first | ((repeat first | exact Rd.here rfl | refine Rd.there ?_); done) | assumption) rfl ?_) | refine jo_nil ?_ | refine jc_seq ?_ | refine jc_skip ?_ | refine jc_region ?_ | refine jc_block ?_ | refine jc_ret ?_ | refine jc_exit ?_ | refine jx_then ?_ | refine jx_then_exit ?_ | refine jx_then_ret ?_ | refine jx_block ?_ | refine jx_block_ret ?_ | refine jx_block_hit ?_ | refine jx_block_miss rfl ?_ | refine jc_true rfl ?_ | refine jc_false rfl ?_))
    refine jo_v (pv_index tab_ok i rfl rfl rfl rfl rfl rfl hlt) rfl (jo_cons ?_)
    refine jo_load_agg tab_ok (vs := [I o1, I o2, I a, I b]) rfl rfl rfl rfl (hr4 _) rfl (jo_cons ?_)
    refine jo_alloc tab_ok rfl rfl fun q => jo_cons ?_
    (refine j_nm rfl ?_; repeat (first | refine jo_cons ?_ | (refine jo_iso ?_; first | (refine jo_isbin ?_; first | refine jo_v (by first | exact pv_add rfl rfl (by omega) | exact pv_sub rfl rfl (by omega)) rfl ?_ | refine jo_pure tab_ok rfl rfl ?_ | refine jo_v (by first | exact pv_add64 rfl rfl | exact pv_ptr_eq tab_ok rfl rfl rfl | exact pv_ptr_ne tab_ok rfl rfl rfl | exact pv_if_eq tab_ok rfl rfl rfl (.inl rfl) | exact pv_if_eq tab_ok rfl rfl rfl (.inr ⟨_, _, rfl⟩) | exact pv_if_ne tab_ok rfl rfl rfl (.inl rfl) | exact pv_if_ne tab_ok rfl rfl rfl (.inr ⟨_, _, rfl⟩)) rfl ?_) | refine jo_pure tab_ok rfl rfl ?_ | refine jo_want rfl ?_ | refine jo_skip rfl rfl ?_ | refine jo_load tab_ok rfl rfl rfl (by first | ((repeat first | exact Rd.here rfl | refine Rd.there ?_); done) | assumption) rfl ?_) | refine jo_nil ?_ | refine jc_seq ?_ | refine jc_skip ?_ | refine jc_region ?_ | refine jc_block ?_ | refine jc_ret ?_ | refine jc_exit ?_ | refine jx_then ?_ | refine jx_then_exit ?_ | refine jx_then_ret ?_ | refine jx_block ?_ | refine jx_block_ret ?_ | refine jx_block_hit ?_ | refine jx_block_miss rfl ?_ | refine jc_true rfl ?_ | refine jc_false rfl ?_))
    refine jo_store_agg tab_ok (vs := [I o1, I o2, I a, I b]) 0 rfl rfl rfl rfl (by simp [Hp.one]) ⟨rfl, rfl⟩ rfl ?_
    (refine j_nm rfl ?_; repeat (first | refine jo_cons ?_ | (refine jo_iso ?_; first | (refine jo_isbin ?_; first | refine jo_v (by first | exact pv_add rfl rfl (by omega) | exact pv_sub rfl rfl (by omega)) rfl ?_ | refine jo_pure tab_ok rfl rfl ?_ | refine jo_v (by first | exact pv_add64 rfl rfl | exact pv_ptr_eq tab_ok rfl rfl rfl | exact pv_ptr_ne tab_ok rfl rfl rfl | exact pv_if_eq tab_ok rfl rfl rfl (.inl rfl) | exact pv_if_eq tab_ok rfl rfl rfl (.inr ⟨_, _, rfl⟩) | exact pv_if_ne tab_ok rfl rfl rfl (.inl rfl) | exact pv_if_ne tab_ok rfl rfl rfl (.inr ⟨_, _, rfl⟩)) rfl ?_) | refine jo_pure tab_ok rfl rfl ?_ | refine jo_want rfl ?_ | refine jo_skip rfl rfl ?_ | refine jo_load tab_ok rfl rfl rfl (by first | ((repeat first | exact Rd.here rfl | refine Rd.there ?_); done) | assumption) rfl ?_) | refine jo_nil ?_ | refine jc_seq ?_ | refine jc_skip ?_ | refine jc_region ?_ | refine jc_block ?_ | refine jc_ret ?_ | refine jc_exit ?_ | refine jx_then ?_ | refine jx_then_exit ?_ | refine jx_then_ret ?_ | refine jx_block ?_ | refine jx_block_ret ?_ | refine jx_block_hit ?_ | refine jx_block_miss rfl ?_ | refine jc_true rfl ?_ | refine jc_false rfl ?_))
    refine jc_drawh 99 [(q, 0, I o1), (q, 1, I o2), (q, 2, I a), (q, 3, I b), (q7, 0, ptr p)] mo (.cons (by first | ((repeat first | exact Rd.here rfl | refine Rd.there ?_); done) | assumption) (.cons (by first | ((repeat first | exact Rd.here rfl | refine Rd.there ?_); done) | assumption) (.cons (by first | ((repeat first | exact Rd.here rfl | refine Rd.there ?_); done) | assumption) (.cons (by first | ((repeat first | exact Rd.here rfl | refine Rd.there ?_); done) | assumption) (.cons (by first | ((repeat first | exact Rd.here rfl | refine Rd.there ?_); done) | assumption) .nil))))) fun hrd => ?_
    refine jh_pure tab_ok 0 rfl (by kernel_rfl) rfl rfl hrd ?_
    refine jh_s 1 rfl (by kernel_rfl) (ps_load tab_ok 2 rfl rfl rfl rfl) rfl hrd ?_
    refine jh_pure tab_ok 2 rfl (by kernel_rfl) rfl rfl hrd ?_
    refine jh_pure tab_ok 3 rfl (by kernel_rfl) rfl rfl hrd ?_
    refine jh_pure tab_ok 4 rfl (by kernel_rfl) rfl rfl hrd ?_
    refine jh_s 5 rfl (by kernel_rfl) (ps_load tab_ok 0 rfl rfl rfl rfl) rfl hrd ?_
    refine jh_one 6 rfl (by kernel_rfl) (jo_pure tab_ok rfl rfl (jh_back hrd fun hrd => ?_))
    refine jh_one 7 rfl (by kernel_rfl) (jo_pure tab_ok rfl rfl (jh_back hrd fun hrd => ?_))
    refine jh_s 8 rfl (by kernel_rfl) (ps_load tab_ok 1 rfl rfl rfl rfl) rfl hrd ?_
    refine jh_s 9 rfl (by kernel_rfl) ((pv_build tab_ok (szs := [1, 1, 1]) (cs := [I o1, I o2, I 0]) rfl rfl rfl rfl (by first | (simp [Instr.fill]; done) | simp [Instr.fill, Value.cells])).ps) rfl hrd ?_
    refine jh_one 10 rfl (by kernel_rfl) ?_
    refine jo_call [5] (Rz.of_tri hw ((o1, o2), 0)) ent19 rfl ⟨rfl, rfl⟩ rfl ?_
    rintro v B ⟨rfl, rfl⟩
    refine j_nm rfl ?_
    refine jh_back (.cons (by first | ((repeat first | exact Rd.here rfl | refine Rd.there ?_); done) | assumption) (.cons (by first | ((repeat first | exact Rd.here rfl | refine Rd.there ?_); done) | assumption) (.cons (by first | ((repeat first | exact Rd.here rfl | refine Rd.there ?_); done) | assumption) (.cons (by first | ((repeat first | exact Rd.here rfl | refine Rd.there ?_); done) | assumption) (.cons (by first | ((repeat first | exact Rd.here rfl | refine Rd.there ?_); done) | assumption) .nil))))) fun hrd => ?_
    refine jh_s 11 rfl (by kernel_rfl) ((pv_neql_f rfl rfl h1).ps) rfl hrd ?_
    refine jh_one 12 rfl (by kernel_rfl) (jo_pure tab_ok rfl rfl (jh_back hrd fun hrd => ?_))
    refine jh_pureg tab_ok 13 rfl (by kernel_rfl) rfl rfl rfl hrd ?_
    refine jh_sg 14 rfl (by kernel_rfl) rfl (ps_load tab_ok 3 rfl rfl rfl rfl) rfl hrd ?_
    refine jh_sg 15 rfl (by kernel_rfl) rfl (ps_load tab_ok 4 rfl rfl rfl rfl) rfl hrd ?_
    refine jh_pureg tab_ok 16 rfl (by kernel_rfl) rfl rfl rfl hrd ?_
    refine jh_sg 17 rfl (by kernel_rfl) rfl (ps_load2 tab_ok 0 1 rfl rfl rfl rfl rfl rfl) rfl hrd ?_
    refine jh_one 18 rfl (by kernel_rfl) ?_
    refine jo_want rfl ?_
    refine jo_call [5] (Rv.of_tri o1 o2) ent14 rfl ⟨rfl, rfl⟩ rfl ?_
    rintro v B ⟨rfl, rfl⟩
    refine j_nm rfl ?_
    refine jh_back (.cons (by first | ((repeat first | exact Rd.here rfl | refine Rd.there ?_); done) | assumption) (.cons (by first | ((repeat first | exact Rd.here rfl | refine Rd.there ?_); done) | assumption) (.cons (by first | ((repeat first | exact Rd.here rfl | refine Rd.there ?_); done) | assumption) (.cons (by first | ((repeat first | exact Rd.here rfl | refine Rd.there ?_); done) | assumption) (.cons (by first | ((repeat first | exact Rd.here rfl | refine Rd.there ?_); done) | assumption) .nil))))) fun hrd => ?_
    refine jh_sg 19 rfl (by kernel_rfl) rfl ((pv_neql_f rfl rfl h2).ps) rfl hrd ?_
    refine jh_one 20 rfl (by kernel_rfl) (jo_pure tab_ok rfl rfl (jh_back hrd fun hrd => ?_))
    refine jh_one 21 rfl (by kernel_rfl) (jo_pure tab_ok rfl rfl (jh_back hrd fun hrd => ?_))
    refine jh_pureg tab_ok 22 rfl (by kernel_rfl) rfl rfl rfl hrd ?_
    refine jh_sg 23 rfl (by kernel_rfl) rfl (ps_load tab_ok 2 rfl rfl rfl rfl) rfl hrd ?_
    refine jh_pureg tab_ok 24 rfl (by kernel_rfl) rfl rfl rfl hrd ?_
    refine jh_sg 25 rfl (by kernel_rfl) rfl (ps_load tab_ok 3 rfl rfl rfl rfl) rfl hrd ?_
    refine jh_sg 26 rfl (by kernel_rfl) rfl ((pv_eql_f rfl rfl h3).ps) rfl hrd ?_
    refine jh_one 27 rfl (by kernel_rfl) (jo_pure tab_ok rfl rfl (jh_back hrd fun hrd => ?_))
    refine jh_done (by kernel_rfl) ?_
    (refine j_nm rfl ?_; repeat (first | refine jo_cons ?_ | (refine jo_iso ?_; first | (refine jo_isbin ?_; first | refine jo_v (by first | exact pv_add rfl rfl (by omega) | exact pv_sub rfl rfl (by omega)) rfl ?_ | refine jo_pure tab_ok rfl rfl ?_ | refine jo_v (by first | exact pv_add64 rfl rfl | exact pv_ptr_eq tab_ok rfl rfl rfl | exact pv_ptr_ne tab_ok rfl rfl rfl | exact pv_if_eq tab_ok rfl rfl rfl (.inl rfl) | exact pv_if_eq tab_ok rfl rfl rfl (.inr ⟨_, _, rfl⟩) | exact pv_if_ne tab_ok rfl rfl rfl (.inl rfl) | exact pv_if_ne tab_ok rfl rfl rfl (.inr ⟨_, _, rfl⟩)) rfl ?_) | refine jo_pure tab_ok rfl rfl ?_ | refine jo_want rfl ?_ | refine jo_skip rfl rfl ?_ | refine jo_load tab_ok rfl rfl rfl (by first | ((repeat first | exact Rd.here rfl | refine Rd.there ?_); done) | assumption) rfl ?_) | refine jo_nil ?_ | refine jc_seq ?_ | refine jc_skip ?_ | refine jc_region ?_ | refine jc_block ?_ | refine jc_ret ?_ | refine jc_exit ?_ | refine jx_then ?_ | refine jx_then_exit ?_ | refine jx_then_ret ?_ | refine jx_block ?_ | refine jx_block_ret ?_ | refine jx_block_hit ?_ | refine jx_block_miss rfl ?_ | refine jc_true rfl ?_ | refine jc_false rfl ?_))
    refine jo_v (pv_build tab_ok (szs := [1, 1, 1]) (cs := [I o1, I o2, I b]) rfl rfl rfl rfl (by first | (simp [Instr.fill]; done) | simp [Instr.fill, Value.cells])) rfl (jo_cons ?_)
    (refine j_nm rfl ?_; repeat (first | refine jo_cons ?_ | (refine jo_iso ?_; first | (refine jo_isbin ?_; first | refine jo_v (by first | exact pv_add rfl rfl (by omega) | exact pv_sub rfl rfl (by omega)) rfl ?_ | refine jo_pure tab_ok rfl rfl ?_ | refine jo_v (by first | exact pv_add64 rfl rfl | exact pv_ptr_eq tab_ok rfl rfl rfl | exact pv_ptr_ne tab_ok rfl rfl rfl | exact pv_if_eq tab_ok rfl rfl rfl (.inl rfl) | exact pv_if_eq tab_ok rfl rfl rfl (.inr ⟨_, _, rfl⟩) | exact pv_if_ne tab_ok rfl rfl rfl (.inl rfl) | exact pv_if_ne tab_ok rfl rfl rfl (.inr ⟨_, _, rfl⟩)) rfl ?_) | refine jo_pure tab_ok rfl rfl ?_ | refine jo_want rfl ?_ | refine jo_skip rfl rfl ?_ | refine jo_load tab_ok rfl rfl rfl (by first | ((repeat first | exact Rd.here rfl | refine Rd.there ?_); done) | assumption) rfl ?_) | refine jo_nil ?_ | refine jc_seq ?_ | refine jc_skip ?_ | refine jc_region ?_ | refine jc_block ?_ | refine jc_ret ?_ | refine jc_exit ?_ | refine jx_then ?_ | refine jx_then_exit ?_ | refine jx_then_ret ?_ | refine jx_block ?_ | refine jx_block_ret ?_ | refine jx_block_hit ?_ | refine jx_block_miss rfl ?_ | refine jc_true rfl ?_ | refine jc_false rfl ?_))
    refine jo_call [1] (Rp.put_tri hw (by omega) ((o1, o2), b)) ent16 rfl ⟨rfl, rfl⟩ rfl ?_
    rintro v B rfl
    rw [← hwt]
    refine j_sl_ro fun hnew => ?_
    refine j_close [0, 0] rfl (fun m h => (h : star [_, C] m)) ?_
    (refine j_nm rfl ?_; repeat (first | refine jo_cons ?_ | (refine jo_iso ?_; first | (refine jo_isbin ?_; first | refine jo_v (by first | exact pv_add rfl rfl (by omega) | exact pv_sub rfl rfl (by omega)) rfl ?_ | refine jo_pure tab_ok rfl rfl ?_ | refine jo_v (by first | exact pv_add64 rfl rfl | exact pv_ptr_eq tab_ok rfl rfl rfl | exact pv_ptr_ne tab_ok rfl rfl rfl | exact pv_if_eq tab_ok rfl rfl rfl (.inl rfl) | exact pv_if_eq tab_ok rfl rfl rfl (.inr ⟨_, _, rfl⟩) | exact pv_if_ne tab_ok rfl rfl rfl (.inl rfl) | exact pv_if_ne tab_ok rfl rfl rfl (.inr ⟨_, _, rfl⟩)) rfl ?_) | refine jo_pure tab_ok rfl rfl ?_ | refine jo_want rfl ?_ | refine jo_skip rfl rfl ?_ | refine jo_load tab_ok rfl rfl rfl (by first | ((repeat first | exact Rd.here rfl | refine Rd.there ?_); done) | assumption) rfl ?_) | refine jo_nil ?_ | refine jc_seq ?_ | refine jc_skip ?_ | refine jc_region ?_ | refine jc_block ?_ | refine jc_ret ?_ | refine jc_exit ?_ | refine jx_then ?_ | refine jx_then_exit ?_ | refine jx_then_ret ?_ | refine jx_block ?_ | refine jx_block_ret ?_ | refine jx_block_hit ?_ | refine jx_block_miss rfl ?_ | refine jc_true rfl ?_ | refine jc_false rfl ?_))
    exact jx_round (i + 1, v, star [sl 27 3 v (rcells (wasF was (c.take (i + 1)))), C]) [2, 2, 2, 1, 0] [2] ⟨hlt, hcm2, hnew.star1, hl.star⟩ (by simp only; omega) ⟨rfl, rfl, rfl, rfl, rfl, rfl, trivial⟩ rfl
  · have hik : i = c.length := by have h' : ¬ (i : Int) < k := h; omega
    subst hik
    have hof := hend hcm hlk hR
    rw [List.take_length] at hw hwl
    (refine j_nm rfl ?_; repeat (first | refine jo_cons ?_ | (refine jo_iso ?_; first | (refine jo_isbin ?_; first | refine jo_v (by first | exact pv_add rfl rfl (by omega) | exact pv_sub rfl rfl (by omega)) rfl ?_ | refine jo_pure tab_ok rfl rfl ?_ | refine jo_v (by first | exact pv_add64 rfl rfl | exact pv_ptr_eq tab_ok rfl rfl rfl | exact pv_ptr_ne tab_ok rfl rfl rfl | exact pv_if_eq tab_ok rfl rfl rfl (.inl rfl) | exact pv_if_eq tab_ok rfl rfl rfl (.inr ⟨_, _, rfl⟩) | exact pv_if_ne tab_ok rfl rfl rfl (.inl rfl) | exact pv_if_ne tab_ok rfl rfl rfl (.inr ⟨_, _, rfl⟩)) rfl ?_) | refine jo_pure tab_ok rfl rfl ?_ | refine jo_want rfl ?_ | refine jo_skip rfl rfl ?_ | refine jo_load tab_ok rfl rfl rfl (by first | ((repeat first | exact Rd.here rfl | refine Rd.there ?_); done) | assumption) rfl ?_) | refine jo_nil ?_ | refine jc_skip ?_ | refine jc_region ?_ | refine jc_block ?_ | refine jc_ret ?_ | refine jc_exit ?_ | refine jx_then ?_ | refine jx_then_exit ?_ | refine jx_then_ret ?_ | refine jx_block ?_ | refine jx_block_ret ?_ | refine jx_block_hit ?_ | refine jx_block_miss rfl ?_ | refine jc_true rfl ?_ | refine jc_false rfl ?_))
    exact j_go (b39 E X hl hw hof (by omega)) [] [0, 0, 1] ⟨rfl, rfl, trivial⟩ rfl
end Bx
end Go.Proofs.Ytiikdofbaoidcaa
