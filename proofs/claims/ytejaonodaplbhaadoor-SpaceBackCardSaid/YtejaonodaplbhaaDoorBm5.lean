import Derived.Test.YtejaonodaplbhaaDoorBm4
namespace Go.Proofs.YtejaonodaplbhaaDoor
open Go Go.Proofs.YtejaonodaplbhaaDoor.Hp
set_option maxRecDepth 10000
set_option linter.unusedVariables false
set_option linter.unusedSimpArgs false
attribute [local irreducible] wpList Code.wp wpAny

theorem words_one (ws : List (BitVec 64)) : ∀ u ∈ ws.map W, one u = true := by
  intro u hu
  obtain ⟨x, _, rfl⟩ := List.mem_map.1 hu
  rfl

set_option maxHeartbeats 1000000 in
theorem clone_tri (p : Nat) (l : List Bool) : Tri Tryd.prog 87 [ptr p] [Bm p l] fun v B => ∃ q, v = ptr q ∧ B = [Bm q l, Bm p l] := by
  refine tri_intro Tryd.func87 rfl Tryd.ntmps87 rfl fun E F => ?_
  refine j_bm fun ws v hw => ?_
  have hm := hw.most
  have ht := hw.tight
  refine j_front [1] (j_sl_ro fun hro => ?_)
  repeat (first | refine jo_cons ?_ | (refine jo_iso ?_; first | (refine jo_isbin ?_; first | refine jo_v (by first | exact pv_add rfl rfl (by omega) | exact pv_sub rfl rfl (by omega)) rfl ?_ | refine jo_pure tab_ok rfl rfl ?_ | refine jo_v (by first | exact pv_if_eq tab_ok rfl rfl rfl (.inl rfl) | exact pv_if_eq tab_ok rfl rfl rfl (.inr ⟨_, _, rfl⟩) | exact pv_if_ne tab_ok rfl rfl rfl (.inl rfl) | exact pv_if_ne tab_ok rfl rfl rfl (.inr ⟨_, _, rfl⟩)) rfl ?_) | refine jo_pure tab_ok rfl rfl ?_ | refine jo_want rfl ?_ | refine jo_skip rfl rfl ?_ | refine jo_load tab_ok rfl rfl rfl (by first | ((repeat first | exact Rd.here rfl | refine Rd.there ?_); done) | assumption) rfl ?_) | refine jo_nil ?_ | refine jc_seq ?_ | refine jc_skip ?_ | refine jc_region ?_ | refine jc_block ?_ | refine jc_ret ?_ | refine jc_exit ?_ | refine jx_then ?_ | refine jx_then_exit ?_ | refine jx_then_ret ?_ | refine jx_block ?_ | refine jx_block_ret ?_ | refine jx_block_hit ?_ | refine jx_block_miss rfl ?_ | refine jc_true rfl ?_ | refine jc_false rfl ?_)
  refine jc_draw mo ?_
  refine ja_pure tab_ok 0 rfl (by kernel_rfl) rfl rfl ?_
  refine ja_pure tab_ok 1 rfl (by kernel_rfl) rfl rfl ?_
  refine ja_pure tab_ok 2 rfl (by kernel_rfl) rfl rfl ?_
  refine ja_pure tab_ok 4 rfl (by kernel_rfl) rfl rfl ?_
  refine ja_pure tab_ok 5 rfl (by kernel_rfl) rfl rfl ?_
  refine ja_pure tab_ok 6 rfl (by kernel_rfl) rfl rfl ?_
  refine ja_two 3 7 rfl rfl (by kernel_rfl) ?dr0a ?dr0b
  case' dr0a =>
    refine jo_load tab_ok rfl rfl rfl (by first | ((repeat first | exact Rd.here rfl | refine Rd.there ?_); done) | assumption) rfl ?_
    refine ja_one 7 rfl (by kernel_rfl) ?_
    refine jo_load tab_ok rfl rfl rfl (by first | ((repeat first | exact Rd.here rfl | refine Rd.there ?_); done) | assumption) rfl ?_
    refine ja_one 8 rfl (by kernel_rfl) ?_
    refine jo_call [0] (cloneW_tri hro (words_one ws) (by simp; omega)) ent90 rfl ⟨rfl, rfl⟩ rfl ?_
    rintro v' B rfl
    refine j_sl_len ?_
    rintro base len cap rfl _
    refine ja_v 9 rfl (by kernel_rfl) (pv_build tab_ok (szs := [1, 1]) (cs := [I l.length, .slice base len cap]) rfl rfl rfl rfl (by first | (simp [Instr.fill]; done) | simp [Instr.fill, Value.cells])) rfl ?_
    refine ja_one 10 rfl (by kernel_rfl) ?_
    refine jo_box rfl rfl rfl fun q => ?_
    refine ja_pure tab_ok 11 rfl (by kernel_rfl) rfl rfl ?_
    refine ja_done (by kernel_rfl) ?_
  case' dr0b =>
    refine jo_load tab_ok rfl rfl rfl (by first | ((repeat first | exact Rd.here rfl | refine Rd.there ?_); done) | assumption) rfl ?_
    refine ja_two 3 8 rfl rfl (by kernel_rfl) ?dr1a ?dr1b
    case' dr1a =>
      refine jo_load tab_ok rfl rfl rfl (by first | ((repeat first | exact Rd.here rfl | refine Rd.there ?_); done) | assumption) rfl ?_
      refine ja_one 8 rfl (by kernel_rfl) ?_
      refine jo_call [0] (cloneW_tri hro (words_one ws) (by simp; omega)) ent90 rfl ⟨rfl, rfl⟩ rfl ?_
      rintro v' B rfl
      refine j_sl_len ?_
      rintro base len cap rfl _
      refine ja_v 9 rfl (by kernel_rfl) (pv_build tab_ok (szs := [1, 1]) (cs := [I l.length, .slice base len cap]) rfl rfl rfl rfl (by first | (simp [Instr.fill]; done) | simp [Instr.fill, Value.cells])) rfl ?_
      refine ja_one 10 rfl (by kernel_rfl) ?_
      refine jo_box rfl rfl rfl fun q => ?_
      refine ja_pure tab_ok 11 rfl (by kernel_rfl) rfl rfl ?_
      refine ja_done (by kernel_rfl) ?_
    case' dr1b =>
      refine jo_call [0] (cloneW_tri hro (words_one ws) (by simp; omega)) ent90 rfl ⟨rfl, rfl⟩ rfl ?_
      rintro v' B rfl
      refine j_sl_len ?_
      rintro base len cap rfl _
      refine ja_one 3 rfl (by kernel_rfl) ?_
      refine jo_load tab_ok rfl rfl rfl (by first | ((repeat first | exact Rd.here rfl | refine Rd.there ?_); done) | assumption) rfl ?_
      refine ja_v 9 rfl (by kernel_rfl) (pv_build tab_ok (szs := [1, 1]) (cs := [I l.length, .slice base len cap]) rfl rfl rfl rfl (by first | (simp [Instr.fill]; done) | simp [Instr.fill, Value.cells])) rfl ?_
      refine ja_one 10 rfl (by kernel_rfl) ?_
      refine jo_box rfl rfl rfl fun q => ?_
      refine ja_pure tab_ok 11 rfl (by kernel_rfl) rfl rfl ?_
      refine ja_done (by kernel_rfl) ?_
  all_goals
    repeat (first | refine jo_cons ?_ | (refine jo_iso ?_; first | (refine jo_isbin ?_; first | refine jo_v (by first | exact pv_add rfl rfl (by omega) | exact pv_sub rfl rfl (by omega)) rfl ?_ | refine jo_pure tab_ok rfl rfl ?_ | refine jo_v (by first | exact pv_if_eq tab_ok rfl rfl rfl (.inl rfl) | exact pv_if_eq tab_ok rfl rfl rfl (.inr ⟨_, _, rfl⟩) | exact pv_if_ne tab_ok rfl rfl rfl (.inl rfl) | exact pv_if_ne tab_ok rfl rfl rfl (.inr ⟨_, _, rfl⟩)) rfl ?_) | refine jo_pure tab_ok rfl rfl ?_ | refine jo_want rfl ?_ | refine jo_skip rfl rfl ?_ | refine jo_load tab_ok rfl rfl rfl (by first | ((repeat first | exact Rd.here rfl | refine Rd.there ?_); done) | assumption) rfl ?_) | refine jo_nil ?_ | refine jc_seq ?_ | refine jc_skip ?_ | refine jc_region ?_ | refine jc_block ?_ | refine jc_ret ?_ | refine jc_exit ?_ | refine jx_then ?_ | refine jx_then_exit ?_ | refine jx_then_ret ?_ | refine jx_block ?_ | refine jx_block_ret ?_ | refine jx_block_hit ?_ | refine jx_block_miss rfl ?_ | refine jc_true rfl ?_ | refine jc_false rfl ?_)
    refine j_close [0, 0] rfl (bm_shut rfl hw) ?_
    refine j_close [2, 1] rfl (bm_shut rfl hw) ?_
    exact j_ret [1, 0] [] rfl ⟨_, rfl, rfl⟩ ⟨rfl, rfl⟩

theorem wf_nil : WF [] [] := ⟨by simp, by simp, by simp, fun i => by simp [bit]⟩
theorem new_tri (n : Int) (hn : n ≤ 9223372036854775807) : Tri Tryd.prog 44 [I n] [] fun v B =>
    if okGrow [] n then ∃ p, v = .tuple #[ptr p, .nilIface] ∧ B = [Bm p (List.replicate n.toNat false)] else v = .tuple #[.pointer none, err 20] ∧ B = [] := by
  refine tri_intro Tryd.func44 rfl Tryd.ntmps44 rfl fun E F => ?_
  repeat (first | refine jo_cons ?_ | (refine jo_iso ?_; first | (refine jo_isbin ?_; first | refine jo_v (by first | exact pv_add rfl rfl (by omega) | exact pv_sub rfl rfl (by omega)) rfl ?_ | refine jo_pure tab_ok rfl rfl ?_ | refine jo_v (by first | exact pv_if_eq tab_ok rfl rfl rfl (.inl rfl) | exact pv_if_eq tab_ok rfl rfl rfl (.inr ⟨_, _, rfl⟩) | exact pv_if_ne tab_ok rfl rfl rfl (.inl rfl) | exact pv_if_ne tab_ok rfl rfl rfl (.inr ⟨_, _, rfl⟩)) rfl ?_) | refine jo_pure tab_ok rfl rfl ?_ | refine jo_want rfl ?_ | refine jo_skip rfl rfl ?_ | refine jo_load tab_ok rfl rfl rfl (by first | ((repeat first | exact Rd.here rfl | refine Rd.there ?_); done) | assumption) rfl ?_) | refine jo_nil ?_ | refine jc_seq ?_ | refine jc_skip ?_ | refine jc_region ?_ | refine jc_block ?_ | refine jc_ret ?_ | refine jc_exit ?_ | refine jx_then ?_ | refine jx_then_exit ?_ | refine jx_then_ret ?_ | refine jx_block ?_ | refine jx_block_ret ?_ | refine jx_block_hit ?_ | refine jx_block_miss rfl ?_ | refine jc_true rfl ?_ | refine jc_false rfl ?_)
  refine jo_v (pv_build tab_ok (szs := [1, 1]) (vs := []) (cs := [I 0, .slice none 0 0]) rfl rfl rfl rfl (by first | (simp [Instr.fill]; done) | simp [Instr.fill, Value.cells])) rfl ?_
  refine jo_cons ?_
  refine jo_box rfl rfl rfl fun p => ?_
  repeat (first | refine jo_cons ?_ | (refine jo_iso ?_; first | (refine jo_isbin ?_; first | refine jo_v (by first | exact pv_add rfl rfl (by omega) | exact pv_sub rfl rfl (by omega)) rfl ?_ | refine jo_pure tab_ok rfl rfl ?_ | refine jo_v (by first | exact pv_if_eq tab_ok rfl rfl rfl (.inl rfl) | exact pv_if_eq tab_ok rfl rfl rfl (.inr ⟨_, _, rfl⟩) | exact pv_if_ne tab_ok rfl rfl rfl (.inl rfl) | exact pv_if_ne tab_ok rfl rfl rfl (.inr ⟨_, _, rfl⟩)) rfl ?_) | refine jo_pure tab_ok rfl rfl ?_ | refine jo_want rfl ?_ | refine jo_skip rfl rfl ?_ | refine jo_load tab_ok rfl rfl rfl (by first | ((repeat first | exact Rd.here rfl | refine Rd.there ?_); done) | assumption) rfl ?_) | refine jo_nil ?_ | refine jc_seq ?_ | refine jc_skip ?_ | refine jc_region ?_ | refine jc_block ?_ | refine jc_ret ?_ | refine jc_exit ?_ | refine jx_then ?_ | refine jx_then_exit ?_ | refine jx_then_ret ?_ | refine jx_block ?_ | refine jx_block_ret ?_ | refine jx_block_hit ?_ | refine jx_block_miss rfl ?_ | refine jc_true rfl ?_ | refine jc_false rfl ?_)
  refine j_close [] rfl (fun m _ => sl_nil (t := 101) (size := 1) m) ?_
  refine j_close [1, 0] rfl (bm_shut (l := []) (ws := []) rfl wf_nil) ?_
  refine jo_call [0] (grow_tri p [] (by simp) n hn) ent75 rfl ⟨rfl, rfl⟩ rfl ?_
  rintro v B ⟨rfl, rfl⟩
  repeat (first | refine jo_cons ?_ | (refine jo_iso ?_; first | (refine jo_isbin ?_; first | refine jo_v (by first | exact pv_add rfl rfl (by omega) | exact pv_sub rfl rfl (by omega)) rfl ?_ | refine jo_pure tab_ok rfl rfl ?_ | refine jo_v (by first | exact pv_if_eq tab_ok rfl rfl rfl (.inl rfl) | exact pv_if_eq tab_ok rfl rfl rfl (.inr ⟨_, _, rfl⟩) | exact pv_if_ne tab_ok rfl rfl rfl (.inl rfl) | exact pv_if_ne tab_ok rfl rfl rfl (.inr ⟨_, _, rfl⟩)) rfl ?_) | refine jo_pure tab_ok rfl rfl ?_ | refine jo_want rfl ?_ | refine jo_skip rfl rfl ?_ | refine jo_load tab_ok rfl rfl rfl (by first | ((repeat first | exact Rd.here rfl | refine Rd.there ?_); done) | assumption) rfl ?_) | refine jo_nil ?_ | refine jc_seq ?_ | refine jc_skip ?_ | refine jc_region ?_ | refine jc_block ?_ | refine jc_ret ?_ | refine jc_exit ?_ | refine jx_then ?_ | refine jx_then_exit ?_ | refine jx_then_ret ?_ | refine jx_block ?_ | refine jx_block_ret ?_ | refine jx_block_hit ?_ | refine jx_block_miss rfl ?_ | refine jc_true rfl ?_ | refine jc_false rfl ?_)
  cases hg : okGrow [] n with
  | false =>
    simp only [Bool.false_eq_true, if_false]
    repeat (first | refine jo_cons ?_ | (refine jo_iso ?_; first | (refine jo_isbin ?_; first | refine jo_v (by first | exact pv_add rfl rfl (by omega) | exact pv_sub rfl rfl (by omega)) rfl ?_ | refine jo_pure tab_ok rfl rfl ?_ | refine jo_v (by first | exact pv_if_eq tab_ok rfl rfl rfl (.inl rfl) | exact pv_if_eq tab_ok rfl rfl rfl (.inr ⟨_, _, rfl⟩) | exact pv_if_ne tab_ok rfl rfl rfl (.inl rfl) | exact pv_if_ne tab_ok rfl rfl rfl (.inr ⟨_, _, rfl⟩)) rfl ?_) | refine jo_pure tab_ok rfl rfl ?_ | refine jo_want rfl ?_ | refine jo_skip rfl rfl ?_ | refine jo_load tab_ok rfl rfl rfl (by first | ((repeat first | exact Rd.here rfl | refine Rd.there ?_); done) | assumption) rfl ?_) | refine jo_nil ?_ | refine jc_seq ?_ | refine jc_skip ?_ | refine jc_region ?_ | refine jc_block ?_ | refine jc_ret ?_ | refine jc_exit ?_ | refine jx_then ?_ | refine jx_then_exit ?_ | refine jx_then_ret ?_ | refine jx_block ?_ | refine jx_block_ret ?_ | refine jx_block_hit ?_ | refine jx_block_miss rfl ?_ | refine jc_true rfl ?_ | refine jc_false rfl ?_)
    exact j_ret (B := []) [] [0] rfl ⟨rfl, rfl⟩ ⟨rfl, rfl⟩
  | true =>
    simp only [if_true]
    repeat (first | refine jo_cons ?_ | (refine jo_iso ?_; first | (refine jo_isbin ?_; first | refine jo_v (by first | exact pv_add rfl rfl (by omega) | exact pv_sub rfl rfl (by omega)) rfl ?_ | refine jo_pure tab_ok rfl rfl ?_ | refine jo_v (by first | exact pv_if_eq tab_ok rfl rfl rfl (.inl rfl) | exact pv_if_eq tab_ok rfl rfl rfl (.inr ⟨_, _, rfl⟩) | exact pv_if_ne tab_ok rfl rfl rfl (.inl rfl) | exact pv_if_ne tab_ok rfl rfl rfl (.inr ⟨_, _, rfl⟩)) rfl ?_) | refine jo_pure tab_ok rfl rfl ?_ | refine jo_want rfl ?_ | refine jo_skip rfl rfl ?_ | refine jo_load tab_ok rfl rfl rfl (by first | ((repeat first | exact Rd.here rfl | refine Rd.there ?_); done) | assumption) rfl ?_) | refine jo_nil ?_ | refine jc_seq ?_ | refine jc_skip ?_ | refine jc_region ?_ | refine jc_block ?_ | refine jc_ret ?_ | refine jc_exit ?_ | refine jx_then ?_ | refine jx_then_exit ?_ | refine jx_then_ret ?_ | refine jx_block ?_ | refine jx_block_ret ?_ | refine jx_block_hit ?_ | refine jx_block_miss rfl ?_ | refine jc_true rfl ?_ | refine jc_false rfl ?_)
    exact j_ret (B := [Bm p (List.replicate n.toNat false)]) [0] [] rfl ⟨p, rfl, rfl⟩ ⟨rfl, rfl⟩
end Go.Proofs.YtejaonodaplbhaaDoor
