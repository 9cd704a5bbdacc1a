import Derived.Test.YtiikdofbaoidcaaRp
import Derived.Test.YtiikdofbaoidcaaRw
set_option linter.unusedVariables false
set_option linter.unusedSimpArgs false
namespace Go.Proofs.Ytiikdofbaoidcaa
namespace Rz
open Go Go.Proofs.Ytiikdofbaoidcaa.Hp Mp Mq Rs Rt Ru Rv Rk Rl Rp Rw
set_option maxRecDepth 10000
attribute [local irreducible] wpList Code.wp wpAny wpAnyK
def tab : Tab := [
  ⟨3, .int .i64, 1, 8, [.int .i64 0]⟩,
  ⟨4, .bool, 1, 1, [.bool false]⟩,
  ⟨27, .struct [(0, 3), (1, 3), (2, 3)], 3, 24, [.int .i64 0, .int .i64 0, .int .i64 0]⟩,
  ⟨22, .slice 27, 1, 24, [.slice none 0 0]⟩,
  ⟨59, .struct [(0, 3), (1, 3), (2, 3), (3, 3)], 4, 32, [.int .i64 0, .int .i64 0, .int .i64 0, .int .i64 0]⟩,
  ⟨48, .slice 59, 1, 24, [.slice none 0 0]⟩,
  ⟨29, .iface, 1, 16, [.nilIface]⟩,
  ⟨66, .int .i64, 1, 8, [.int .i64 0]⟩]
theorem tab_3 : TE.ok Try.prog ⟨3, .int .i64, 1, 8, [.int .i64 0]⟩ := ⟨by kernel_rfl, by kernel_rfl, by kernel_rfl, by kernel_rfl⟩
theorem tab_4 : TE.ok Try.prog ⟨4, .bool, 1, 1, [.bool false]⟩ := ⟨by kernel_rfl, by kernel_rfl, by kernel_rfl, by kernel_rfl⟩
theorem tab_27 : TE.ok Try.prog ⟨27, .struct [(0, 3), (1, 3), (2, 3)], 3, 24, [.int .i64 0, .int .i64 0, .int .i64 0]⟩ := ⟨by kernel_rfl, by kernel_rfl, by kernel_rfl, by kernel_rfl⟩
theorem tab_22 : TE.ok Try.prog ⟨22, .slice 27, 1, 24, [.slice none 0 0]⟩ := ⟨by kernel_rfl, by kernel_rfl, by kernel_rfl, by kernel_rfl⟩
theorem tab_59 : TE.ok Try.prog ⟨59, .struct [(0, 3), (1, 3), (2, 3), (3, 3)], 4, 32, [.int .i64 0, .int .i64 0, .int .i64 0, .int .i64 0]⟩ := ⟨by kernel_rfl, by kernel_rfl, by kernel_rfl, by kernel_rfl⟩
theorem tab_48 : TE.ok Try.prog ⟨48, .slice 59, 1, 24, [.slice none 0 0]⟩ := ⟨by kernel_rfl, by kernel_rfl, by kernel_rfl, by kernel_rfl⟩
theorem tab_29 : TE.ok Try.prog ⟨29, .iface, 1, 16, [.nilIface]⟩ := ⟨by kernel_rfl, by kernel_rfl, by kernel_rfl, by kernel_rfl⟩
theorem tab_66 : TE.ok Try.prog ⟨66, .int .i64, 1, 8, [.int .i64 0]⟩ := ⟨by kernel_rfl, by kernel_rfl, by kernel_rfl, by kernel_rfl⟩
theorem tab_ok : tab.ok Try.prog := by
  intro e he
  simp only [tab, List.mem_cons, List.not_mem_nil, or_false] at he
  rcases he with rfl | rfl | rfl | rfl | rfl | rfl | rfl | rfl
  · exact tab_3
  · exact tab_4
  · exact tab_27
  · exact tab_22
  · exact tab_59
  · exact tab_48
  · exact tab_29
  · exact tab_66

theorem ent31 : Enters Try.prog 31 := ⟨_, _, Try.func31, by kernel_rfl, rfl⟩
theorem ent19 : Enters Try.prog 19 := ⟨_, _, Try.func19, by kernel_rfl, rfl⟩
theorem ent16 : Enters Try.prog 16 := ⟨_, _, Try.func16, by kernel_rfl, rfl⟩

set_option maxHeartbeats 4000000 in
theorem of_tri {A : Assn} {v : Value} {xs : List Own} (hro : Ro A 3 v (rcells xs)) (o : Own) : Tri Try.prog 19 [v, rv o] [A] fun u B => u = I (ofL xs o.1) ∧ B = [A] := by
  obtain ⟨b', k, c', rfl, hl, hm, hor⟩ := hro
  rw [rcells_len] at hl
  have hk : xs.length = k := by omega
  simp only [maxLen] at hm
  obtain ⟨⟨o1, o2⟩, o3⟩ := o
  refine tri_introX Try.func19 rfl Try.ntmps19 rfl fun E X => ?_
  (refine j_nm rfl ?_; repeat (first | refine jo_cons ?_ | (refine jo_iso ?_; first | (refine jo_isbin ?_; first | refine jo_v (by first | exact pv_add rfl rfl (by omega) | exact pv_sub rfl rfl (by omega)) rfl ?_ | refine jo_pure tab_ok rfl rfl ?_ | refine jo_v (by first | exact pv_add64 rfl rfl | exact pv_ptr_eq tab_ok rfl rfl rfl | exact pv_ptr_ne tab_ok rfl rfl rfl | exact pv_if_eq tab_ok rfl rfl rfl (.inl rfl) | exact pv_if_eq tab_ok rfl rfl rfl (.inr ⟨_, _, rfl⟩) | exact pv_if_ne tab_ok rfl rfl rfl (.inl rfl) | exact pv_if_ne tab_ok rfl rfl rfl (.inr ⟨_, _, rfl⟩)) rfl ?_) | refine jo_pure tab_ok rfl rfl ?_ | refine jo_want rfl ?_ | refine jo_skip rfl rfl ?_ | refine jo_load tab_ok rfl rfl rfl (by first | ((repeat first | exact Rd.here rfl | refine Rd.there ?_); done) | assumption) rfl ?_) | refine jo_nil ?_ | refine jc_seq ?_ | refine jc_skip ?_ | refine jc_region ?_ | refine jc_block ?_ | refine jc_ret ?_ | refine jc_exit ?_ | refine jx_then ?_ | refine jx_then_exit ?_ | refine jx_then_ret ?_ | refine jx_block ?_ | refine jx_block_ret ?_ | refine jx_block_hit ?_ | refine jx_block_miss rfl ?_ | refine jc_true rfl ?_ | refine jc_false rfl ?_))
  refine jo_box rfl rfl rfl fun q => ?_
  (refine j_nm rfl ?_; repeat (first | refine jo_cons ?_ | (refine jo_iso ?_; first | (refine jo_isbin ?_; first | refine jo_v (by first | exact pv_add rfl rfl (by omega) | exact pv_sub rfl rfl (by omega)) rfl ?_ | refine jo_pure tab_ok rfl rfl ?_ | refine jo_v (by first | exact pv_add64 rfl rfl | exact pv_ptr_eq tab_ok rfl rfl rfl | exact pv_ptr_ne tab_ok rfl rfl rfl | exact pv_if_eq tab_ok rfl rfl rfl (.inl rfl) | exact pv_if_eq tab_ok rfl rfl rfl (.inr ⟨_, _, rfl⟩) | exact pv_if_ne tab_ok rfl rfl rfl (.inl rfl) | exact pv_if_ne tab_ok rfl rfl rfl (.inr ⟨_, _, rfl⟩)) rfl ?_) | refine jo_pure tab_ok rfl rfl ?_ | refine jo_want rfl ?_ | refine jo_skip rfl rfl ?_ | refine jo_load tab_ok rfl rfl rfl (by first | ((repeat first | exact Rd.here rfl | refine Rd.there ?_); done) | assumption) rfl ?_) | refine jo_nil ?_ | refine jc_seq ?_ | refine jc_skip ?_ | refine jc_region ?_ | refine jc_block ?_ | refine jc_ret ?_ | refine jc_exit ?_ | refine jx_then ?_ | refine jx_then_exit ?_ | refine jx_then_ret ?_ | refine jx_block ?_ | refine jx_block_ret ?_ | refine jx_block_hit ?_ | refine jx_block_miss rfl ?_ | refine jc_true rfl ?_ | refine jc_false rfl ?_))
  refine jc_loop (ι := Nat) (fun i => [(5, I i), (0, .slice b' k c'), (3, ptr q)]) (fun _ => [cl q [I o1, I o2, I o3] 27, A, X]) (fun i => i ≤ k ∧ ofL xs (o1, o2) = ofL (xs.drop i) (o1, o2)) (fun i => k - i) 0 [] [] ⟨Nat.zero_le _, rfl⟩ ⟨rfl, rfl, rfl, trivial⟩ rfl ?_
  rintro i ⟨hi, hof⟩
  (refine j_nm rfl ?_; repeat (first | refine jo_cons ?_ | (refine jo_iso ?_; first | (refine jo_isbin ?_; first | refine jo_v (by first | exact pv_add rfl rfl (by omega) | exact pv_sub rfl rfl (by omega)) rfl ?_ | refine jo_pure tab_ok rfl rfl ?_ | refine jo_v (by first | exact pv_add64 rfl rfl | exact pv_ptr_eq tab_ok rfl rfl rfl | exact pv_ptr_ne tab_ok rfl rfl rfl | exact pv_if_eq tab_ok rfl rfl rfl (.inl rfl) | exact pv_if_eq tab_ok rfl rfl rfl (.inr ⟨_, _, rfl⟩) | exact pv_if_ne tab_ok rfl rfl rfl (.inl rfl) | exact pv_if_ne tab_ok rfl rfl rfl (.inr ⟨_, _, rfl⟩)) rfl ?_) | refine jo_pure tab_ok rfl rfl ?_ | refine jo_want rfl ?_ | refine jo_skip rfl rfl ?_ | refine jo_load tab_ok rfl rfl rfl (by first | ((repeat first | exact Rd.here rfl | refine Rd.there ?_); done) | assumption) rfl ?_) | refine jo_nil ?_ | refine jc_seq ?_ | refine jc_skip ?_ | refine jc_region ?_ | refine jc_block ?_ | refine jc_ret ?_ | refine jc_exit ?_ | refine jx_then ?_ | refine jx_then_exit ?_ | refine jx_then_ret ?_ | refine jx_block ?_ | refine jx_block_ret ?_ | refine jx_block_hit ?_ | refine jx_block_miss rfl ?_ | refine jc_true rfl ?_ | refine jc_false rfl ?_))
  refine jc_dec rfl (fun h => ?_) (fun h => ?_)
  · have hlt : i < xs.length := by have h' : (i : Int) < k := h; omega
    obtain ⟨mp, mo_, rfl, ro⟩ := hor.resolve_left (by omega)
    have hr3 := fun L => rcells_rd3 (ro L) hlt
    rw [List.drop_eq_getElem_cons hlt] at hof
    generalize xs[i] = y at hr3 hof
    obtain ⟨⟨y1, y2⟩, y3⟩ := y
    rw [of_cons] at hof
    (refine j_nm rfl ?_; repeat (first | refine jo_cons ?_ | (refine jo_iso ?_; first | (refine jo_isbin ?_; first | refine jo_v (by first | exact pv_add rfl rfl (by omega) | exact pv_sub rfl rfl (by omega)) rfl ?_ | refine jo_pure tab_ok rfl rfl ?_ | refine jo_v (by first | exact pv_add64 rfl rfl | exact pv_ptr_eq tab_ok rfl rfl rfl | exact pv_ptr_ne tab_ok rfl rfl rfl | exact pv_if_eq tab_ok rfl rfl rfl (.inl rfl) | exact pv_if_eq tab_ok rfl rfl rfl (.inr ⟨_, _, rfl⟩) | exact pv_if_ne tab_ok rfl rfl rfl (.inl rfl) | exact pv_if_ne tab_ok rfl rfl rfl (.inr ⟨_, _, rfl⟩)) rfl ?_) | refine jo_pure tab_ok rfl rfl ?_ | refine jo_want rfl ?_ | refine jo_skip rfl rfl ?_ | refine jo_load tab_ok rfl rfl rfl (by first | ((repeat first | exact Rd.here rfl | refine Rd.there ?_); done) | assumption) rfl ?_) | refine jo_nil ?_ | refine jc_seq ?_ | refine jc_skip ?_ | refine jc_region ?_ | refine jc_block ?_ | refine jc_ret ?_ | refine jc_exit ?_ | refine jx_then ?_ | refine jx_then_exit ?_ | refine jx_then_ret ?_ | refine jx_block ?_ | refine jx_block_ret ?_ | refine jx_block_hit ?_ | refine jx_block_miss rfl ?_ | refine jc_true rfl ?_ | refine jc_false rfl ?_))
    refine jc_drawh 99 [(mp, mo_ + i * 3, I y1), (mp, mo_ + i * 3 + 1, I y2), (mp, mo_ + i * 3 + 2, I y3), (q, 0, I o1), (q, 1, I o2), (q, 2, I o3)] mo (.cons (.there ((hr3 _).one (k := 0) rfl)) (.cons (.there ((hr3 _).one (k := 1) rfl)) (.cons (.there ((hr3 _).one (k := 2) rfl)) (.cons (by first | ((repeat first | exact Rd.here rfl | refine Rd.there ?_); done) | assumption) (.cons (by first | ((repeat first | exact Rd.here rfl | refine Rd.there ?_); done) | assumption) (.cons (by first | ((repeat first | exact Rd.here rfl | refine Rd.there ?_); done) | assumption) .nil)))))) fun hrd => ?_
    refine jh_pure tab_ok 0 rfl (by kernel_rfl) rfl rfl hrd ?_
    refine jh_pure tab_ok 1 rfl (by kernel_rfl) rfl rfl hrd ?_
    refine jh_s 2 rfl (by kernel_rfl) ((pv_index tab_ok i rfl rfl rfl rfl rfl rfl (by omega)).ps) rfl hrd ?_
    refine jh_s 3 rfl (by kernel_rfl) (ps_load3 tab_ok 0 1 2 rfl rfl rfl rfl rfl rfl rfl) rfl hrd ?_
    refine jh_s 4 rfl (by kernel_rfl) (ps_load3 tab_ok 3 4 5 rfl rfl rfl rfl rfl rfl rfl) rfl hrd ?_
    refine jh_one 5 rfl (by kernel_rfl) ?_
    refine jo_call [] (one_tri ((y1, y2), y3) ((o1, o2), o3)) ent31 rfl ⟨rfl, rfl⟩ rfl ?_
    rintro v B ⟨rfl, rfl⟩
    refine j_nm rfl ?_
    refine jh_back hrd fun hrd => ?_
    refine jh_done (by kernel_rfl) ?_
    have h1 : oneB ((y1, y2), y3) ((o1, o2), o3) = decide ((y1, y2) = (o1, o2)) := one_eq
    rw [h1]
    by_cases he : (o1, o2) = (y1, y2)
    · rw [if_pos he] at hof
      rw [decide_eq_true he.symm]
      (refine j_nm rfl ?_; repeat (first | refine jo_cons ?_ | (refine jo_iso ?_; first | (refine jo_isbin ?_; first | refine jo_v (by first | exact pv_add rfl rfl (by omega) | exact pv_sub rfl rfl (by omega)) rfl ?_ | refine jo_pure tab_ok rfl rfl ?_ | refine jo_v (by first | exact pv_add64 rfl rfl | exact pv_ptr_eq tab_ok rfl rfl rfl | exact pv_ptr_ne tab_ok rfl rfl rfl | exact pv_if_eq tab_ok rfl rfl rfl (.inl rfl) | exact pv_if_eq tab_ok rfl rfl rfl (.inr ⟨_, _, rfl⟩) | exact pv_if_ne tab_ok rfl rfl rfl (.inl rfl) | exact pv_if_ne tab_ok rfl rfl rfl (.inr ⟨_, _, rfl⟩)) rfl ?_) | refine jo_pure tab_ok rfl rfl ?_ | refine jo_want rfl ?_ | refine jo_skip rfl rfl ?_ | refine jo_load tab_ok rfl rfl rfl (by first | ((repeat first | exact Rd.here rfl | refine Rd.there ?_); done) | assumption) rfl ?_) | refine jo_nil ?_ | refine jc_seq ?_ | refine jc_skip ?_ | refine jc_region ?_ | refine jc_block ?_ | refine jc_ret ?_ | refine jc_exit ?_ | refine jx_then ?_ | refine jx_then_exit ?_ | refine jx_then_ret ?_ | refine jx_block ?_ | refine jx_block_ret ?_ | refine jx_block_hit ?_ | refine jx_block_miss rfl ?_ | refine jc_true rfl ?_ | refine jc_false rfl ?_))
      refine jo_v (pv_index tab_ok i rfl rfl rfl rfl rfl rfl (by omega)) rfl (jo_cons ?_)
      (refine j_nm rfl ?_; repeat (first | refine jo_cons ?_ | (refine jo_iso ?_; first | (refine jo_isbin ?_; first | refine jo_v (by first | exact pv_add rfl rfl (by omega) | exact pv_sub rfl rfl (by omega)) rfl ?_ | refine jo_pure tab_ok rfl rfl ?_ | refine jo_v (by first | exact pv_add64 rfl rfl | exact pv_ptr_eq tab_ok rfl rfl rfl | exact pv_ptr_ne tab_ok rfl rfl rfl | exact pv_if_eq tab_ok rfl rfl rfl (.inl rfl) | exact pv_if_eq tab_ok rfl rfl rfl (.inr ⟨_, _, rfl⟩) | exact pv_if_ne tab_ok rfl rfl rfl (.inl rfl) | exact pv_if_ne tab_ok rfl rfl rfl (.inr ⟨_, _, rfl⟩)) rfl ?_) | refine jo_pure tab_ok rfl rfl ?_ | refine jo_want rfl ?_ | refine jo_skip rfl rfl ?_ | refine jo_load tab_ok rfl rfl rfl (by first | ((repeat first | exact Rd.here rfl | refine Rd.there ?_); done) | assumption) rfl ?_) | refine jo_nil ?_ | refine jc_seq ?_ | refine jc_skip ?_ | refine jc_region ?_ | refine jc_block ?_ | refine jc_ret ?_ | refine jc_exit ?_ | refine jx_then ?_ | refine jx_then_exit ?_ | refine jx_then_ret ?_ | refine jx_block ?_ | refine jx_block_ret ?_ | refine jx_block_hit ?_ | refine jx_block_miss rfl ?_ | refine jc_true rfl ?_ | refine jc_false rfl ?_))
      refine jo_load tab_ok rfl rfl rfl (.there ((hr3 _).one (k := 2) rfl)) rfl ?_
      (refine j_nm rfl ?_; repeat (first | refine jo_cons ?_ | (refine jo_iso ?_; first | (refine jo_isbin ?_; first | refine jo_v (by first | exact pv_add rfl rfl (by omega) | exact pv_sub rfl rfl (by omega)) rfl ?_ | refine jo_pure tab_ok rfl rfl ?_ | refine jo_v (by first | exact pv_add64 rfl rfl | exact pv_ptr_eq tab_ok rfl rfl rfl | exact pv_ptr_ne tab_ok rfl rfl rfl | exact pv_if_eq tab_ok rfl rfl rfl (.inl rfl) | exact pv_if_eq tab_ok rfl rfl rfl (.inr ⟨_, _, rfl⟩) | exact pv_if_ne tab_ok rfl rfl rfl (.inl rfl) | exact pv_if_ne tab_ok rfl rfl rfl (.inr ⟨_, _, rfl⟩)) rfl ?_) | refine jo_pure tab_ok rfl rfl ?_ | refine jo_want rfl ?_ | refine jo_skip rfl rfl ?_ | refine jo_load tab_ok rfl rfl rfl (by first | ((repeat first | exact Rd.here rfl | refine Rd.there ?_); done) | assumption) rfl ?_) | refine jo_nil ?_ | refine jc_seq ?_ | refine jc_skip ?_ | refine jc_region ?_ | refine jc_block ?_ | refine jc_ret ?_ | refine jc_exit ?_ | refine jx_then ?_ | refine jx_then_exit ?_ | refine jx_then_ret ?_ | refine jx_block ?_ | refine jx_block_ret ?_ | refine jx_block_hit ?_ | refine jx_block_miss rfl ?_ | refine jc_true rfl ?_ | refine jc_false rfl ?_))
      exact j_ret [0] [0] rfl ⟨by show _ = I _; rw [hof], rfl⟩ ⟨rfl, rfl⟩
    · rw [if_neg he] at hof
      rw [decide_eq_false (fun e => he e.symm)]
      (refine j_nm rfl ?_; repeat (first | refine jo_cons ?_ | (refine jo_iso ?_; first | (refine jo_isbin ?_; first | refine jo_v (by first | exact pv_add rfl rfl (by omega) | exact pv_sub rfl rfl (by omega)) rfl ?_ | refine jo_pure tab_ok rfl rfl ?_ | refine jo_v (by first | exact pv_add64 rfl rfl | exact pv_ptr_eq tab_ok rfl rfl rfl | exact pv_ptr_ne tab_ok rfl rfl rfl | exact pv_if_eq tab_ok rfl rfl rfl (.inl rfl) | exact pv_if_eq tab_ok rfl rfl rfl (.inr ⟨_, _, rfl⟩) | exact pv_if_ne tab_ok rfl rfl rfl (.inl rfl) | exact pv_if_ne tab_ok rfl rfl rfl (.inr ⟨_, _, rfl⟩)) rfl ?_) | refine jo_pure tab_ok rfl rfl ?_ | refine jo_want rfl ?_ | refine jo_skip rfl rfl ?_ | refine jo_load tab_ok rfl rfl rfl (by first | ((repeat first | exact Rd.here rfl | refine Rd.there ?_); done) | assumption) rfl ?_) | refine jo_nil ?_ | refine jc_seq ?_ | refine jc_skip ?_ | refine jc_region ?_ | refine jc_block ?_ | refine jc_ret ?_ | refine jc_exit ?_ | refine jx_then ?_ | refine jx_then_exit ?_ | refine jx_then_ret ?_ | refine jx_block ?_ | refine jx_block_ret ?_ | refine jx_block_hit ?_ | refine jx_block_miss rfl ?_ | refine jc_true rfl ?_ | refine jc_false rfl ?_))
      exact jx_round (i + 1) [] [] ⟨by show i + 1 ≤ k; omega, hof⟩ (by show k - (i + 1) < k - i; omega) ⟨rfl, rfl, rfl, trivial⟩ rfl
  · have hik : i = k := by have h' : ¬ (i : Int) < k := h; omega
    have e0 : ofL xs (o1, o2) = 0 := by rw [hof, List.drop_of_length_le (by omega)]; rfl
    (refine j_nm rfl ?_; repeat (first | refine jo_cons ?_ | (refine jo_iso ?_; first | (refine jo_isbin ?_; first | refine jo_v (by first | exact pv_add rfl rfl (by omega) | exact pv_sub rfl rfl (by omega)) rfl ?_ | refine jo_pure tab_ok rfl rfl ?_ | refine jo_v (by first | exact pv_add64 rfl rfl | exact pv_ptr_eq tab_ok rfl rfl rfl | exact pv_ptr_ne tab_ok rfl rfl rfl | exact pv_if_eq tab_ok rfl rfl rfl (.inl rfl) | exact pv_if_eq tab_ok rfl rfl rfl (.inr ⟨_, _, rfl⟩) | exact pv_if_ne tab_ok rfl rfl rfl (.inl rfl) | exact pv_if_ne tab_ok rfl rfl rfl (.inr ⟨_, _, rfl⟩)) rfl ?_) | refine jo_pure tab_ok rfl rfl ?_ | refine jo_want rfl ?_ | refine jo_skip rfl rfl ?_ | refine jo_load tab_ok rfl rfl rfl (by first | ((repeat first | exact Rd.here rfl | refine Rd.there ?_); done) | assumption) rfl ?_) | refine jo_nil ?_ | refine jc_seq ?_ | refine jc_skip ?_ | refine jc_region ?_ | refine jc_block ?_ | refine jc_ret ?_ | refine jc_exit ?_ | refine jx_then ?_ | refine jx_then_exit ?_ | refine jx_then_ret ?_ | refine jx_block ?_ | refine jx_block_ret ?_ | refine jx_block_hit ?_ | refine jx_block_miss rfl ?_ | refine jc_true rfl ?_ | refine jc_false rfl ?_))
    exact j_ret [0] [0] rfl ⟨by show _ = I _; rw [e0], rfl⟩ ⟨rfl, rfl⟩
abbrev Chg := Two × Int × Int
def ccells (xs : List Chg) : List Value := xs.flatMap fun c => [I c.1.1, I c.1.2, I c.2.1, I c.2.2]
theorem ccells_len : ∀ xs : List Chg, (ccells xs).length = xs.length * 4
  | [] => rfl
  | x :: xs => by
    have := ccells_len xs
    unfold ccells at this ⊢
    rw [List.flatMap_cons, List.length_append, this]
    simp only [List.length_cons, List.length_nil]
    omega
theorem ccells_snoc (xs : List Chg) (y1 y2 a b : Int) : ccells xs ++ [I y1, I y2, I a, I b] = ccells (xs ++ [((y1, y2), a, b)]) := by
  unfold ccells
  rw [List.flatMap_append]
  rfl
theorem ccells_at : ∀ (xs : List Chg) (k : Nat) (hk : k < xs.length), (ccells xs)[k * 4]? = some (I xs[k].1.1) ∧ (ccells xs)[k * 4 + 1]? = some (I xs[k].1.2) ∧ (ccells xs)[k * 4 + 2]? = some (I xs[k].2.1) ∧ (ccells xs)[k * 4 + 3]? = some (I xs[k].2.2)
  | [], _, hk => by simp at hk
  | x :: xs, 0, _ => ⟨rfl, rfl, rfl, rfl⟩
  | x :: xs, k + 1, hk => by
    have hk' : k < xs.length := by simpa using hk
    have h1 := ccells_at xs k hk'
    have e1 : (k + 1) * 4 = k * 4 + 4 := by omega
    have e2 : ccells (x :: xs) = I x.1.1 :: I x.1.2 :: I x.2.1 :: I x.2.2 :: ccells xs := rfl
    rw [e1, e2]
    exact h1
theorem ccells_rd4 {L : List Assn} {b o : Nat} {xs : List Chg} (h : Rd L b o (ccells xs)) {k : Nat} (hk : k < xs.length) : Rd L b (o + k * 4) [I xs[k].1.1, I xs[k].1.2, I xs[k].2.1, I xs[k].2.2] := by
  obtain ⟨h1, h2, h3, h4⟩ := ccells_at xs k hk
  refine h.sub (k * 4) fun j u hj => ?_
  rcases j with _ | _ | _ | _ | j
  · simp at hj; subst hj; exact h1
  · simp at hj; subst hj; exact h2
  · simp at hj; subst hj; exact h3
  · simp at hj; subst hj; exact h4
  · simp at hj
def allR (was now : List Own) : List Own := now.foldl putR (was.foldl putR [])
def chgL (was now l : List Own) : List Chg := (l.filter fun x => !decide (ofL was x.1 = ofL now x.1)).map fun x => (x.1, ofL was x.1, ofL now x.1)
def chgR (was now : List Own) : List Chg := chgL was now (allR was now)
theorem fold_len : ∀ (xs l : List Own), (xs.foldl putR l).length ≤ l.length + xs.length
  | [], l => by simp
  | x :: xs, l => by
    have h1 := fold_len xs (putR l x)
    have h2 := putR_len l x
    rw [List.foldl_cons, List.length_cons]
    omega
theorem fold_take {xs l : List Own} {i : Nat} (hi : i < xs.length) : (xs.take (i + 1)).foldl putR l = putR ((xs.take i).foldl putR l) xs[i] := by
  rw [List.take_succ_eq_append_getElem hi, List.foldl_append]
  rfl
theorem chgL_snoc (was now l : List Own) (y : Own) : chgL was now (l ++ [y]) = chgL was now l ++ if ofL was y.1 = ofL now y.1 then [] else [(y.1, ofL was y.1, ofL now y.1)] := by
  unfold chgL
  rw [List.filter_append, List.map_append]
  by_cases h : ofL was y.1 = ofL now y.1 <;> simp [h]
theorem chgL_len (was now l : List Own) : (chgL was now l).length ≤ l.length := by
  unfold chgL
  rw [List.length_map]
  exact List.length_filter_le ..
set_option maxHeartbeats 8000000 in
theorem changes_tri {A : Assn} {v1 v2 : Value} {was now : List Own} (hw : Ro A 3 v1 (rcells was)) (hn : Ro A 3 v2 (rcells now)) (hb : was.length + now.length ≤ 1000) :
    Tri Try.prog 21 [v1, v2] [A] fun u B => B = [sl 59 4 u (ccells (chgR was now)), A] := by
  have hw0 := hw
  have hn0 := hn
  obtain ⟨b1, k1, c1, rfl, hl1, hm1, hor1⟩ := hw
  obtain ⟨b2, k2, c2, rfl, hl2, hm2, hor2⟩ := hn
  rw [rcells_len] at hl1 hl2
  have hk1 : was.length = k1 := by omega
  have hk2 : now.length = k2 := by omega
  refine tri_introX Try.func21 rfl Try.ntmps21 rfl fun E X => ?_
  (refine j_nm rfl ?_; repeat (first | refine jo_cons ?_ | (refine jo_iso ?_; first | (refine jo_isbin ?_; first | refine jo_v (by first | exact pv_add rfl rfl (by omega) | exact pv_sub rfl rfl (by omega)) rfl ?_ | refine jo_pure tab_ok rfl rfl ?_ | refine jo_v (by first | exact pv_add64 rfl rfl | exact pv_ptr_eq tab_ok rfl rfl rfl | exact pv_ptr_ne tab_ok rfl rfl rfl | exact pv_if_eq tab_ok rfl rfl rfl (.inl rfl) | exact pv_if_eq tab_ok rfl rfl rfl (.inr ⟨_, _, rfl⟩) | exact pv_if_ne tab_ok rfl rfl rfl (.inl rfl) | exact pv_if_ne tab_ok rfl rfl rfl (.inr ⟨_, _, rfl⟩)) rfl ?_) | refine jo_pure tab_ok rfl rfl ?_ | refine jo_want rfl ?_ | refine jo_skip rfl rfl ?_ | refine jo_load tab_ok rfl rfl rfl (by first | ((repeat first | exact Rd.here rfl | refine Rd.there ?_); done) | assumption) rfl ?_) | refine jo_nil ?_ | refine jc_seq ?_ | refine jc_skip ?_ | refine jc_region ?_ | refine jc_block ?_ | refine jc_ret ?_ | refine jc_exit ?_ | refine jx_then ?_ | refine jx_then_exit ?_ | refine jx_then_ret ?_ | refine jx_block ?_ | refine jx_block_ret ?_ | refine jx_block_hit ?_ | refine jx_block_miss rfl ?_ | refine jc_true rfl ?_ | refine jc_false rfl ?_))
  refine j_close [] rfl (fun m _ => (sl_nil (t := 27) (size := 3) m : sl 27 3 (.slice none 0 0) (rcells []) m)) ?_
  refine j_nm rfl ?_
  refine jc_loop (ι := Nat × Value) (fun x => [(6, I x.1), (0, .slice b1 k1 c1), (1, .slice b2 k2 c2), (5, x.2)]) (fun x => [sl 27 3 x.2 (rcells ((was.take x.1).foldl putR [])), A, X]) (fun x => x.1 ≤ k1) (fun x => k1 - x.1) (0, .slice none 0 0) [0] [] (Nat.zero_le _) ⟨rfl, rfl, rfl, rfl, trivial⟩ rfl ?_
  rintro ⟨i, av⟩ hi
  simp only at hi
  dsimp only
  have hfl := fold_len (was.take i) []
  have htl : (was.take i).length ≤ was.length := by rw [List.length_take]; omega
  simp only [List.length_nil, Nat.zero_add] at hfl
  (refine j_nm rfl ?_; repeat (first | refine jo_cons ?_ | (refine jo_iso ?_; first | (refine jo_isbin ?_; first | refine jo_v (by first | exact pv_add rfl rfl (by omega) | exact pv_sub rfl rfl (by omega)) rfl ?_ | refine jo_pure tab_ok rfl rfl ?_ | refine jo_v (by first | exact pv_add64 rfl rfl | exact pv_ptr_eq tab_ok rfl rfl rfl | exact pv_ptr_ne tab_ok rfl rfl rfl | exact pv_if_eq tab_ok rfl rfl rfl (.inl rfl) | exact pv_if_eq tab_ok rfl rfl rfl (.inr ⟨_, _, rfl⟩) | exact pv_if_ne tab_ok rfl rfl rfl (.inl rfl) | exact pv_if_ne tab_ok rfl rfl rfl (.inr ⟨_, _, rfl⟩)) rfl ?_) | refine jo_pure tab_ok rfl rfl ?_ | refine jo_want rfl ?_ | refine jo_skip rfl rfl ?_ | refine jo_load tab_ok rfl rfl rfl (by first | ((repeat first | exact Rd.here rfl | refine Rd.there ?_); done) | assumption) rfl ?_) | refine jo_nil ?_ | refine jc_seq ?_ | refine jc_skip ?_ | refine jc_region ?_ | refine jc_block ?_ | refine jc_ret ?_ | refine jc_exit ?_ | refine jx_then ?_ | refine jx_then_exit ?_ | refine jx_then_ret ?_ | refine jx_block ?_ | refine jx_block_ret ?_ | refine jx_block_hit ?_ | refine jx_block_miss rfl ?_ | refine jc_true rfl ?_ | refine jc_false rfl ?_))
  refine jc_dec rfl (fun h => ?_) (fun h => ?_)
  · have hlt : i < was.length := by have h' : (i : Int) < k1 := h; omega
    obtain ⟨mp, mo_, rfl, ro⟩ := hor1.resolve_left (by omega)
    have hr3 := fun L => rcells_rd3 (ro L) hlt
    have hft := @fold_take was [] i hlt
    generalize was[i] = y at hr3 hft
    obtain ⟨⟨y1, y2⟩, y3⟩ := y
    refine j_sl_ro fun hra => ?_
    (refine j_nm rfl ?_; repeat (first | refine jo_cons ?_ | (refine jo_iso ?_; first | (refine jo_isbin ?_; first | refine jo_v (by first | exact pv_add rfl rfl (by omega) | exact pv_sub rfl rfl (by omega)) rfl ?_ | refine jo_pure tab_ok rfl rfl ?_ | refine jo_v (by first | exact pv_add64 rfl rfl | exact pv_ptr_eq tab_ok rfl rfl rfl | exact pv_ptr_ne tab_ok rfl rfl rfl | exact pv_if_eq tab_ok rfl rfl rfl (.inl rfl) | exact pv_if_eq tab_ok rfl rfl rfl (.inr ⟨_, _, rfl⟩) | exact pv_if_ne tab_ok rfl rfl rfl (.inl rfl) | exact pv_if_ne tab_ok rfl rfl rfl (.inr ⟨_, _, rfl⟩)) rfl ?_) | refine jo_pure tab_ok rfl rfl ?_ | refine jo_want rfl ?_ | refine jo_skip rfl rfl ?_ | refine jo_load tab_ok rfl rfl rfl (by first | ((repeat first | exact Rd.here rfl | refine Rd.there ?_); done) | assumption) rfl ?_) | refine jo_nil ?_ | refine jc_seq ?_ | refine jc_skip ?_ | refine jc_region ?_ | refine jc_block ?_ | refine jc_ret ?_ | refine jc_exit ?_ | refine jx_then ?_ | refine jx_then_exit ?_ | refine jx_then_ret ?_ | refine jx_block ?_ | refine jx_block_ret ?_ | refine jx_block_hit ?_ | refine jx_block_miss rfl ?_ | refine jc_true rfl ?_ | refine jc_false rfl ?_))
    refine jo_v (pv_index tab_ok i rfl rfl rfl rfl rfl rfl (by omega)) rfl (jo_cons ?_)
    refine jo_load_agg tab_ok (vs := [I y1, I y2, I y3]) rfl rfl rfl rfl (.there (hr3 _)) rfl (jo_cons ?_)
    (refine j_nm rfl ?_; repeat (first | refine jo_cons ?_ | (refine jo_iso ?_; first | (refine jo_isbin ?_; first | refine jo_v (by first | exact pv_add rfl rfl (by omega) | exact pv_sub rfl rfl (by omega)) rfl ?_ | refine jo_pure tab_ok rfl rfl ?_ | refine jo_v (by first | exact pv_add64 rfl rfl | exact pv_ptr_eq tab_ok rfl rfl rfl | exact pv_ptr_ne tab_ok rfl rfl rfl | exact pv_if_eq tab_ok rfl rfl rfl (.inl rfl) | exact pv_if_eq tab_ok rfl rfl rfl (.inr ⟨_, _, rfl⟩) | exact pv_if_ne tab_ok rfl rfl rfl (.inl rfl) | exact pv_if_ne tab_ok rfl rfl rfl (.inr ⟨_, _, rfl⟩)) rfl ?_) | refine jo_pure tab_ok rfl rfl ?_ | refine jo_want rfl ?_ | refine jo_skip rfl rfl ?_ | refine jo_load tab_ok rfl rfl rfl (by first | ((repeat first | exact Rd.here rfl | refine Rd.there ?_); done) | assumption) rfl ?_) | refine jo_nil ?_ | refine jc_seq ?_ | refine jc_skip ?_ | refine jc_region ?_ | refine jc_block ?_ | refine jc_ret ?_ | refine jc_exit ?_ | refine jx_then ?_ | refine jx_then_exit ?_ | refine jx_then_ret ?_ | refine jx_block ?_ | refine jx_block_ret ?_ | refine jx_block_hit ?_ | refine jx_block_miss rfl ?_ | refine jc_true rfl ?_ | refine jc_false rfl ?_))
    refine jo_call [0] (put_tri hra (by omega) ((y1, y2), y3)) ent16 rfl ⟨rfl, rfl⟩ rfl ?_
    rintro v B rfl
    rw [← hft]
    (refine j_nm rfl ?_; repeat (first | refine jo_cons ?_ | (refine jo_iso ?_; first | (refine jo_isbin ?_; first | refine jo_v (by first | exact pv_add rfl rfl (by omega) | exact pv_sub rfl rfl (by omega)) rfl ?_ | refine jo_pure tab_ok rfl rfl ?_ | refine jo_v (by first | exact pv_add64 rfl rfl | exact pv_ptr_eq tab_ok rfl rfl rfl | exact pv_ptr_ne tab_ok rfl rfl rfl | exact pv_if_eq tab_ok rfl rfl rfl (.inl rfl) | exact pv_if_eq tab_ok rfl rfl rfl (.inr ⟨_, _, rfl⟩) | exact pv_if_ne tab_ok rfl rfl rfl (.inl rfl) | exact pv_if_ne tab_ok rfl rfl rfl (.inr ⟨_, _, rfl⟩)) rfl ?_) | refine jo_pure tab_ok rfl rfl ?_ | refine jo_want rfl ?_ | refine jo_skip rfl rfl ?_ | refine jo_load tab_ok rfl rfl rfl (by first | ((repeat first | exact Rd.here rfl | refine Rd.there ?_); done) | assumption) rfl ?_) | refine jo_nil ?_ | refine jc_seq ?_ | refine jc_skip ?_ | refine jc_region ?_ | refine jc_block ?_ | refine jc_ret ?_ | refine jc_exit ?_ | refine jx_then ?_ | refine jx_then_exit ?_ | refine jx_then_ret ?_ | refine jx_block ?_ | refine jx_block_ret ?_ | refine jx_block_hit ?_ | refine jx_block_miss rfl ?_ | refine jc_true rfl ?_ | refine jc_false rfl ?_))
    exact jx_round (i + 1, v) [] [1] (by show i + 1 ≤ k1; omega) (by show k1 - (i + 1) < k1 - i; omega) ⟨rfl, rfl, rfl, rfl, trivial⟩ rfl
  have hik : i = k1 := by have h' : ¬ (i : Int) < k1 := h; omega
  rw [List.take_of_length_le (by omega)] at hfl ⊢
  generalize hG : was.foldl putR [] = G at hfl ⊢
  (refine j_nm rfl ?_; repeat (first | refine jo_cons ?_ | (refine jo_iso ?_; first | (refine jo_isbin ?_; first | refine jo_v (by first | exact pv_add rfl rfl (by omega) | exact pv_sub rfl rfl (by omega)) rfl ?_ | refine jo_pure tab_ok rfl rfl ?_ | refine jo_v (by first | exact pv_add64 rfl rfl | exact pv_ptr_eq tab_ok rfl rfl rfl | exact pv_ptr_ne tab_ok rfl rfl rfl | exact pv_if_eq tab_ok rfl rfl rfl (.inl rfl) | exact pv_if_eq tab_ok rfl rfl rfl (.inr ⟨_, _, rfl⟩) | exact pv_if_ne tab_ok rfl rfl rfl (.inl rfl) | exact pv_if_ne tab_ok rfl rfl rfl (.inr ⟨_, _, rfl⟩)) rfl ?_) | refine jo_pure tab_ok rfl rfl ?_ | refine jo_want rfl ?_ | refine jo_skip rfl rfl ?_ | refine jo_load tab_ok rfl rfl rfl (by first | ((repeat first | exact Rd.here rfl | refine Rd.there ?_); done) | assumption) rfl ?_) | refine jo_nil ?_ | refine jc_seq ?_ | refine jc_skip ?_ | refine jc_region ?_ | refine jc_block ?_ | refine jc_ret ?_ | refine jc_exit ?_ | refine jx_then ?_ | refine jx_then_exit ?_ | refine jx_then_ret ?_ | refine jx_block ?_ | refine jx_block_ret ?_ | refine jx_block_hit ?_ | refine jx_block_miss rfl ?_ | refine jc_true rfl ?_ | refine jc_false rfl ?_))
  refine jc_loop (ι := Nat × Value) (fun x => [(7, I x.1), (0, .slice b1 k1 c1), (1, .slice b2 k2 c2), (5, x.2)]) (fun x => [sl 27 3 x.2 (rcells ((now.take x.1).foldl putR G)), A, X]) (fun x => x.1 ≤ k2) (fun x => k2 - x.1) (0, av) [0] [] (Nat.zero_le _) ⟨rfl, rfl, rfl, rfl, trivial⟩ rfl ?_
  clear hi hik h htl i av
  rintro ⟨i, av⟩ hi
  simp only at hi
  dsimp only
  have hfl2 := fold_len (now.take i) G
  have htl2 : (now.take i).length ≤ now.length := by rw [List.length_take]; omega
  have hwl : G.length ≤ was.length := hfl
  (refine j_nm rfl ?_; repeat (first | refine jo_cons ?_ | (refine jo_iso ?_; first | (refine jo_isbin ?_; first | refine jo_v (by first | exact pv_add rfl rfl (by omega) | exact pv_sub rfl rfl (by omega)) rfl ?_ | refine jo_pure tab_ok rfl rfl ?_ | refine jo_v (by first | exact pv_add64 rfl rfl | exact pv_ptr_eq tab_ok rfl rfl rfl | exact pv_ptr_ne tab_ok rfl rfl rfl | exact pv_if_eq tab_ok rfl rfl rfl (.inl rfl) | exact pv_if_eq tab_ok rfl rfl rfl (.inr ⟨_, _, rfl⟩) | exact pv_if_ne tab_ok rfl rfl rfl (.inl rfl) | exact pv_if_ne tab_ok rfl rfl rfl (.inr ⟨_, _, rfl⟩)) rfl ?_) | refine jo_pure tab_ok rfl rfl ?_ | refine jo_want rfl ?_ | refine jo_skip rfl rfl ?_ | refine jo_load tab_ok rfl rfl rfl (by first | ((repeat first | exact Rd.here rfl | refine Rd.there ?_); done) | assumption) rfl ?_) | refine jo_nil ?_ | refine jc_seq ?_ | refine jc_skip ?_ | refine jc_region ?_ | refine jc_block ?_ | refine jc_ret ?_ | refine jc_exit ?_ | refine jx_then ?_ | refine jx_then_exit ?_ | refine jx_then_ret ?_ | refine jx_block ?_ | refine jx_block_ret ?_ | refine jx_block_hit ?_ | refine jx_block_miss rfl ?_ | refine jc_true rfl ?_ | refine jc_false rfl ?_))
  refine jc_dec rfl (fun h => ?_) (fun h => ?_)
  · have hlt : i < now.length := by have h' : (i : Int) < k2 := h; omega
    obtain ⟨mp, mo_, rfl, ro⟩ := hor2.resolve_left (by omega)
    have hr3 := fun L => rcells_rd3 (ro L) hlt
    have hft := @fold_take now G i hlt
    generalize now[i] = y at hr3 hft
    obtain ⟨⟨y1, y2⟩, y3⟩ := y
    refine j_sl_ro fun hra => ?_
    (refine j_nm rfl ?_; repeat (first | refine jo_cons ?_ | (refine jo_iso ?_; first | (refine jo_isbin ?_; first | refine jo_v (by first | exact pv_add rfl rfl (by omega) | exact pv_sub rfl rfl (by omega)) rfl ?_ | refine jo_pure tab_ok rfl rfl ?_ | refine jo_v (by first | exact pv_add64 rfl rfl | exact pv_ptr_eq tab_ok rfl rfl rfl | exact pv_ptr_ne tab_ok rfl rfl rfl | exact pv_if_eq tab_ok rfl rfl rfl (.inl rfl) | exact pv_if_eq tab_ok rfl rfl rfl (.inr ⟨_, _, rfl⟩) | exact pv_if_ne tab_ok rfl rfl rfl (.inl rfl) | exact pv_if_ne tab_ok rfl rfl rfl (.inr ⟨_, _, rfl⟩)) rfl ?_) | refine jo_pure tab_ok rfl rfl ?_ | refine jo_want rfl ?_ | refine jo_skip rfl rfl ?_ | refine jo_load tab_ok rfl rfl rfl (by first | ((repeat first | exact Rd.here rfl | refine Rd.there ?_); done) | assumption) rfl ?_) | refine jo_nil ?_ | refine jc_seq ?_ | refine jc_skip ?_ | refine jc_region ?_ | refine jc_block ?_ | refine jc_ret ?_ | refine jc_exit ?_ | refine jx_then ?_ | refine jx_then_exit ?_ | refine jx_then_ret ?_ | refine jx_block ?_ | refine jx_block_ret ?_ | refine jx_block_hit ?_ | refine jx_block_miss rfl ?_ | refine jc_true rfl ?_ | refine jc_false rfl ?_))
    refine jo_v (pv_index tab_ok i rfl rfl rfl rfl rfl rfl (by omega)) rfl (jo_cons ?_)
    refine jo_load_agg tab_ok (vs := [I y1, I y2, I y3]) rfl rfl rfl rfl (.there (hr3 _)) rfl (jo_cons ?_)
    (refine j_nm rfl ?_; repeat (first | refine jo_cons ?_ | (refine jo_iso ?_; first | (refine jo_isbin ?_; first | refine jo_v (by first | exact pv_add rfl rfl (by omega) | exact pv_sub rfl rfl (by omega)) rfl ?_ | refine jo_pure tab_ok rfl rfl ?_ | refine jo_v (by first | exact pv_add64 rfl rfl | exact pv_ptr_eq tab_ok rfl rfl rfl | exact pv_ptr_ne tab_ok rfl rfl rfl | exact pv_if_eq tab_ok rfl rfl rfl (.inl rfl) | exact pv_if_eq tab_ok rfl rfl rfl (.inr ⟨_, _, rfl⟩) | exact pv_if_ne tab_ok rfl rfl rfl (.inl rfl) | exact pv_if_ne tab_ok rfl rfl rfl (.inr ⟨_, _, rfl⟩)) rfl ?_) | refine jo_pure tab_ok rfl rfl ?_ | refine jo_want rfl ?_ | refine jo_skip rfl rfl ?_ | refine jo_load tab_ok rfl rfl rfl (by first | ((repeat first | exact Rd.here rfl | refine Rd.there ?_); done) | assumption) rfl ?_) | refine jo_nil ?_ | refine jc_seq ?_ | refine jc_skip ?_ | refine jc_region ?_ | refine jc_block ?_ | refine jc_ret ?_ | refine jc_exit ?_ | refine jx_then ?_ | refine jx_then_exit ?_ | refine jx_then_ret ?_ | refine jx_block ?_ | refine jx_block_ret ?_ | refine jx_block_hit ?_ | refine jx_block_miss rfl ?_ | refine jc_true rfl ?_ | refine jc_false rfl ?_))
    refine jo_call [0] (put_tri hra (by omega) ((y1, y2), y3)) ent16 rfl ⟨rfl, rfl⟩ rfl ?_
    rintro v B rfl
    rw [← hft]
    (refine j_nm rfl ?_; repeat (first | refine jo_cons ?_ | (refine jo_iso ?_; first | (refine jo_isbin ?_; first | refine jo_v (by first | exact pv_add rfl rfl (by omega) | exact pv_sub rfl rfl (by omega)) rfl ?_ | refine jo_pure tab_ok rfl rfl ?_ | refine jo_v (by first | exact pv_add64 rfl rfl | exact pv_ptr_eq tab_ok rfl rfl rfl | exact pv_ptr_ne tab_ok rfl rfl rfl | exact pv_if_eq tab_ok rfl rfl rfl (.inl rfl) | exact pv_if_eq tab_ok rfl rfl rfl (.inr ⟨_, _, rfl⟩) | exact pv_if_ne tab_ok rfl rfl rfl (.inl rfl) | exact pv_if_ne tab_ok rfl rfl rfl (.inr ⟨_, _, rfl⟩)) rfl ?_) | refine jo_pure tab_ok rfl rfl ?_ | refine jo_want rfl ?_ | refine jo_skip rfl rfl ?_ | refine jo_load tab_ok rfl rfl rfl (by first | ((repeat first | exact Rd.here rfl | refine Rd.there ?_); done) | assumption) rfl ?_) | refine jo_nil ?_ | refine jc_seq ?_ | refine jc_skip ?_ | refine jc_region ?_ | refine jc_block ?_ | refine jc_ret ?_ | refine jc_exit ?_ | refine jx_then ?_ | refine jx_then_exit ?_ | refine jx_then_ret ?_ | refine jx_block ?_ | refine jx_block_ret ?_ | refine jx_block_hit ?_ | refine jx_block_miss rfl ?_ | refine jc_true rfl ?_ | refine jc_false rfl ?_))
    exact jx_round (i + 1, v) [] [1] (by show i + 1 ≤ k2; omega) (by show k2 - (i + 1) < k2 - i; omega) ⟨rfl, rfl, rfl, rfl, trivial⟩ rfl
  have hik : i = k2 := by have h' : ¬ (i : Int) < k2 := h; omega
  rw [List.take_of_length_le (by omega)] at hfl2 ⊢
  have hall : now.foldl putR G = allR was now := by rw [← hG]; rfl
  rw [hall] at hfl2 ⊢
  have hal : (allR was now).length ≤ 1000 := by omega
  refine j_sl_ro fun hra => ?_
  obtain ⟨b3, k3, c3, rfl, hl3, hm3, hor3⟩ := hra
  rw [rcells_len] at hl3
  have hk3 : (allR was now).length = k3 := by omega
  (refine j_nm rfl ?_; repeat (first | refine jo_cons ?_ | (refine jo_iso ?_; first | (refine jo_isbin ?_; first | refine jo_v (by first | exact pv_add rfl rfl (by omega) | exact pv_sub rfl rfl (by omega)) rfl ?_ | refine jo_pure tab_ok rfl rfl ?_ | refine jo_v (by first | exact pv_add64 rfl rfl | exact pv_ptr_eq tab_ok rfl rfl rfl | exact pv_ptr_ne tab_ok rfl rfl rfl | exact pv_if_eq tab_ok rfl rfl rfl (.inl rfl) | exact pv_if_eq tab_ok rfl rfl rfl (.inr ⟨_, _, rfl⟩) | exact pv_if_ne tab_ok rfl rfl rfl (.inl rfl) | exact pv_if_ne tab_ok rfl rfl rfl (.inr ⟨_, _, rfl⟩)) rfl ?_) | refine jo_pure tab_ok rfl rfl ?_ | refine jo_want rfl ?_ | refine jo_skip rfl rfl ?_ | refine jo_load tab_ok rfl rfl rfl (by first | ((repeat first | exact Rd.here rfl | refine Rd.there ?_); done) | assumption) rfl ?_) | refine jo_nil ?_ | refine jc_seq ?_ | refine jc_skip ?_ | refine jc_region ?_ | refine jc_block ?_ | refine jc_ret ?_ | refine jc_exit ?_ | refine jx_then ?_ | refine jx_then_exit ?_ | refine jx_then_ret ?_ | refine jx_block ?_ | refine jx_block_ret ?_ | refine jx_block_hit ?_ | refine jx_block_miss rfl ?_ | refine jc_true rfl ?_ | refine jc_false rfl ?_))
  refine j_close [] rfl (fun m _ => (sl_nil (t := 59) (size := 4) m : sl 59 4 (.slice none 0 0) (ccells []) m)) ?_
  refine j_nm rfl ?_
  refine jc_loop (ι := Nat × Value) (fun x => [(9, I x.1), (0, .slice b1 k1 c1), (1, .slice b2 k2 c2), (5, .slice b3 k3 c3), (8, x.2)]) (fun x => [sl 59 4 x.2 (ccells (chgL was now ((allR was now).take x.1))), sl 27 3 (.slice b3 k3 c3) (rcells (allR was now)), A, X]) (fun x => x.1 ≤ k3) (fun x => k3 - x.1) (0, .slice none 0 0) [0, 0] [] (Nat.zero_le _) ⟨rfl, rfl, rfl, rfl, rfl, trivial⟩ rfl ?_
  rintro ⟨i, ov⟩ hi
  simp only at hi
  dsimp only
  have hcl := chgL_len was now ((allR was now).take i)
  have htl : ((allR was now).take i).length ≤ (allR was now).length := by rw [List.length_take]; omega
  (refine j_nm rfl ?_; repeat (first | refine jo_cons ?_ | (refine jo_iso ?_; first | (refine jo_isbin ?_; first | refine jo_v (by first | exact pv_add rfl rfl (by omega) | exact pv_sub rfl rfl (by omega)) rfl ?_ | refine jo_pure tab_ok rfl rfl ?_ | refine jo_v (by first | exact pv_add64 rfl rfl | exact pv_ptr_eq tab_ok rfl rfl rfl | exact pv_ptr_ne tab_ok rfl rfl rfl | exact pv_if_eq tab_ok rfl rfl rfl (.inl rfl) | exact pv_if_eq tab_ok rfl rfl rfl (.inr ⟨_, _, rfl⟩) | exact pv_if_ne tab_ok rfl rfl rfl (.inl rfl) | exact pv_if_ne tab_ok rfl rfl rfl (.inr ⟨_, _, rfl⟩)) rfl ?_) | refine jo_pure tab_ok rfl rfl ?_ | refine jo_want rfl ?_ | refine jo_skip rfl rfl ?_ | refine jo_load tab_ok rfl rfl rfl (by first | ((repeat first | exact Rd.here rfl | refine Rd.there ?_); done) | assumption) rfl ?_) | refine jo_nil ?_ | refine jc_seq ?_ | refine jc_skip ?_ | refine jc_region ?_ | refine jc_block ?_ | refine jc_ret ?_ | refine jc_exit ?_ | refine jx_then ?_ | refine jx_then_exit ?_ | refine jx_then_ret ?_ | refine jx_block ?_ | refine jx_block_ret ?_ | refine jx_block_hit ?_ | refine jx_block_miss rfl ?_ | refine jc_true rfl ?_ | refine jc_false rfl ?_))
  refine jc_dec rfl (fun h => ?_) (fun h => ?_)
  · have hlt : i < (allR was now).length := by have h' : (i : Int) < k3 := h; omega
    obtain ⟨mp, mo_, rfl, ro⟩ := hor3.resolve_left (by omega)
    have hr3 := fun L => rcells_rd3 (ro L) hlt
    have hsn : chgL was now ((allR was now).take (i + 1)) = chgL was now ((allR was now).take i) ++ if ofL was (allR was now)[i].1 = ofL now (allR was now)[i].1 then [] else [((allR was now)[i].1, ofL was (allR was now)[i].1, ofL now (allR was now)[i].1)] := by rw [List.take_succ_eq_append_getElem hlt]; exact chgL_snoc ..
    generalize (allR was now)[i] = y at hr3 hsn
    obtain ⟨⟨y1, y2⟩, y3⟩ := y
    simp only at hsn
    (refine j_nm rfl ?_; repeat (first | refine jo_cons ?_ | (refine jo_iso ?_; first | (refine jo_isbin ?_; first | refine jo_v (by first | exact pv_add rfl rfl (by omega) | exact pv_sub rfl rfl (by omega)) rfl ?_ | refine jo_pure tab_ok rfl rfl ?_ | refine jo_v (by first | exact pv_add64 rfl rfl | exact pv_ptr_eq tab_ok rfl rfl rfl | exact pv_ptr_ne tab_ok rfl rfl rfl | exact pv_if_eq tab_ok rfl rfl rfl (.inl rfl) | exact pv_if_eq tab_ok rfl rfl rfl (.inr ⟨_, _, rfl⟩) | exact pv_if_ne tab_ok rfl rfl rfl (.inl rfl) | exact pv_if_ne tab_ok rfl rfl rfl (.inr ⟨_, _, rfl⟩)) rfl ?_) | refine jo_pure tab_ok rfl rfl ?_ | refine jo_want rfl ?_ | refine jo_skip rfl rfl ?_ | refine jo_load tab_ok rfl rfl rfl (by first | ((repeat first | exact Rd.here rfl | refine Rd.there ?_); done) | assumption) rfl ?_) | refine jo_nil ?_ | refine jc_seq ?_ | refine jc_skip ?_ | refine jc_region ?_ | refine jc_block ?_ | refine jc_ret ?_ | refine jc_exit ?_ | refine jx_then ?_ | refine jx_then_exit ?_ | refine jx_then_ret ?_ | refine jx_block ?_ | refine jx_block_ret ?_ | refine jx_block_hit ?_ | refine jx_block_miss rfl ?_ | refine jc_true rfl ?_ | refine jc_false rfl ?_))
    refine jc_drawh 99 [(mp, mo_ + i * 3, I y1), (mp, mo_ + i * 3 + 1, I y2), (mp, mo_ + i * 3 + 2, I y3)] mo (.cons (.there ((hr3 _).one (k := 0) rfl)) (.cons (.there ((hr3 _).one (k := 1) rfl)) (.cons (.there ((hr3 _).one (k := 2) rfl)) .nil))) fun hrd => ?_
    refine jh_pure tab_ok 0 rfl (by kernel_rfl) rfl rfl hrd ?_
    refine jh_pure tab_ok 1 rfl (by kernel_rfl) rfl rfl hrd ?_
    refine jh_pure tab_ok 2 rfl (by kernel_rfl) rfl rfl hrd ?_
    refine jh_s 3 rfl (by kernel_rfl) ((pv_index tab_ok i rfl rfl rfl rfl rfl rfl (by omega)).ps) rfl hrd ?_
    refine jh_s 4 rfl (by kernel_rfl) (ps_load3 tab_ok 0 1 2 rfl rfl rfl rfl rfl rfl rfl) rfl hrd ?_
    refine jh_pure tab_ok 6 rfl (by kernel_rfl) rfl rfl hrd ?_
    refine jh_pure tab_ok 7 rfl (by kernel_rfl) rfl rfl hrd ?_
    refine jh_pure tab_ok 8 rfl (by kernel_rfl) rfl rfl hrd ?_
    refine jh_s 9 rfl (by kernel_rfl) ((pv_index tab_ok i rfl rfl rfl rfl rfl rfl (by omega)).ps) rfl hrd ?_
    refine jh_s 10 rfl (by kernel_rfl) (ps_load3 tab_ok 0 1 2 rfl rfl rfl rfl rfl rfl rfl) rfl hrd ?_
    refine jh_one 5 rfl (by kernel_rfl) ?_
    refine jo_call [2] (of_tri hw0 ((y1, y2), y3)) ent19 rfl ⟨rfl, rfl⟩ rfl ?_
    rintro v B ⟨rfl, rfl⟩
    refine j_nm rfl ?_
    refine jh_back (.cons (.there (.there ((hr3 _).one (k := 0) rfl))) (.cons (.there (.there ((hr3 _).one (k := 1) rfl))) (.cons (.there (.there ((hr3 _).one (k := 2) rfl))) .nil))) fun hrd => ?_
    refine jh_one 11 rfl (by kernel_rfl) ?_
    refine jo_call [0] (of_tri hn0 ((y1, y2), y3)) ent19 rfl ⟨rfl, rfl⟩ rfl ?_
    rintro v B ⟨rfl, rfl⟩
    refine j_nm rfl ?_
    refine jh_back (.cons (.there (.there ((hr3 _).one (k := 0) rfl))) (.cons (.there (.there ((hr3 _).one (k := 1) rfl))) (.cons (.there (.there ((hr3 _).one (k := 2) rfl))) .nil))) fun hrd => ?_
    refine jh_one 12 rfl (by kernel_rfl) (jo_pure tab_ok rfl rfl (jh_back hrd fun hrd => ?_))
    refine jh_one 13 rfl (by kernel_rfl) (jo_pure tab_ok rfl rfl (jh_back hrd fun hrd => ?_))
    refine jh_done (by kernel_rfl) ?_
    (refine j_nm rfl ?_; repeat (first | refine jo_cons ?_ | (refine jo_iso ?_; first | (refine jo_isbin ?_; first | refine jo_v (by first | exact pv_add rfl rfl (by omega) | exact pv_sub rfl rfl (by omega)) rfl ?_ | refine jo_pure tab_ok rfl rfl ?_ | refine jo_v (by first | exact pv_add64 rfl rfl | exact pv_ptr_eq tab_ok rfl rfl rfl | exact pv_ptr_ne tab_ok rfl rfl rfl | exact pv_if_eq tab_ok rfl rfl rfl (.inl rfl) | exact pv_if_eq tab_ok rfl rfl rfl (.inr ⟨_, _, rfl⟩) | exact pv_if_ne tab_ok rfl rfl rfl (.inl rfl) | exact pv_if_ne tab_ok rfl rfl rfl (.inr ⟨_, _, rfl⟩)) rfl ?_) | refine jo_pure tab_ok rfl rfl ?_ | refine jo_want rfl ?_ | refine jo_skip rfl rfl ?_ | refine jo_load tab_ok rfl rfl rfl (by first | ((repeat first | exact Rd.here rfl | refine Rd.there ?_); done) | assumption) rfl ?_) | refine jo_nil ?_ | refine jc_seq ?_ | refine jc_skip ?_ | refine jc_region ?_ | refine jc_block ?_ | refine jc_ret ?_ | refine jc_exit ?_ | refine jx_then ?_ | refine jx_then_exit ?_ | refine jx_then_ret ?_ | refine jx_block ?_ | refine jx_block_ret ?_ | refine jx_block_hit ?_ | refine jx_block_miss rfl ?_ | refine jc_true rfl ?_ | refine jc_false rfl ?_))
    refine jc_bne rfl (fun he => ?_) (fun he => ?_)
    · have he : ¬ ofL was (y1, y2) = ofL now (y1, y2) := he
      rw [if_neg he] at hsn
      (refine j_nm rfl ?_; repeat (first | refine jo_cons ?_ | (refine jo_iso ?_; first | (refine jo_isbin ?_; first | refine jo_v (by first | exact pv_add rfl rfl (by omega) | exact pv_sub rfl rfl (by omega)) rfl ?_ | refine jo_pure tab_ok rfl rfl ?_ | refine jo_v (by first | exact pv_add64 rfl rfl | exact pv_ptr_eq tab_ok rfl rfl rfl | exact pv_ptr_ne tab_ok rfl rfl rfl | exact pv_if_eq tab_ok rfl rfl rfl (.inl rfl) | exact pv_if_eq tab_ok rfl rfl rfl (.inr ⟨_, _, rfl⟩) | exact pv_if_ne tab_ok rfl rfl rfl (.inl rfl) | exact pv_if_ne tab_ok rfl rfl rfl (.inr ⟨_, _, rfl⟩)) rfl ?_) | refine jo_pure tab_ok rfl rfl ?_ | refine jo_want rfl ?_ | refine jo_skip rfl rfl ?_ | refine jo_load tab_ok rfl rfl rfl (by first | ((repeat first | exact Rd.here rfl | refine Rd.there ?_); done) | assumption) rfl ?_) | refine jo_nil ?_ | refine jc_seq ?_ | refine jc_skip ?_ | refine jc_region ?_ | refine jc_block ?_ | refine jc_ret ?_ | refine jc_exit ?_ | refine jx_then ?_ | refine jx_then_exit ?_ | refine jx_then_ret ?_ | refine jx_block ?_ | refine jx_block_ret ?_ | refine jx_block_hit ?_ | refine jx_block_miss rfl ?_ | refine jc_true rfl ?_ | refine jc_false rfl ?_))
      refine jc_drawh 99 [(mp, mo_ + i * 3, I y1), (mp, mo_ + i * 3 + 1, I y2)] mo (.cons (.there (.there ((hr3 _).one (k := 0) rfl))) (.cons (.there (.there ((hr3 _).one (k := 1) rfl))) .nil)) fun hrd => ?_
      refine jh_pure tab_ok 0 rfl (by kernel_rfl) rfl rfl hrd ?_
      refine jh_pure tab_ok 1 rfl (by kernel_rfl) rfl rfl hrd ?_
      refine jh_pure tab_ok 2 rfl (by kernel_rfl) rfl rfl hrd ?_
      refine jh_s 3 rfl (by kernel_rfl) ((pv_index tab_ok i rfl rfl rfl rfl rfl rfl (by omega)).ps) rfl hrd ?_
      refine jh_pure tab_ok 4 rfl (by kernel_rfl) rfl rfl hrd ?_
      refine jh_s 5 rfl (by kernel_rfl) (ps_load tab_ok 0 rfl rfl rfl rfl) rfl hrd ?_
      refine jh_pure tab_ok 6 rfl (by kernel_rfl) rfl rfl hrd ?_
      refine jh_pure tab_ok 7 rfl (by kernel_rfl) rfl rfl hrd ?_
      refine jh_s 8 rfl (by kernel_rfl) ((pv_index tab_ok i rfl rfl rfl rfl rfl rfl (by omega)).ps) rfl hrd ?_
      refine jh_pure tab_ok 9 rfl (by kernel_rfl) rfl rfl hrd ?_
      refine jh_s 10 rfl (by kernel_rfl) (ps_load tab_ok 1 rfl rfl rfl rfl) rfl hrd ?_
      refine jh_pure tab_ok 11 rfl (by kernel_rfl) rfl rfl hrd ?_
      refine jh_one 12 rfl (by kernel_rfl) (jo_pure tab_ok rfl rfl (jh_back hrd fun hrd => ?_))
      refine jh_s 13 rfl (by kernel_rfl) ((pv_build tab_ok (szs := [1, 1, 1, 1]) (cs := [I y1, I y2, I (ofL was (y1, y2)), I (ofL now (y1, y2))]) rfl rfl rfl rfl (by first | (simp [Instr.fill]; done) | simp [Instr.fill, Value.cells])).ps) rfl hrd ?_
      refine jh_one 14 rfl (by kernel_rfl) ?_
      refine jo_buildSlice tab_ok (cs := [I y1, I y2, I (ofL was (y1, y2)), I (ofL now (y1, y2))]) rfl rfl rfl rfl rfl rfl (by first | (simp [Instr.fill]; done) | simp [Instr.fill, Value.cells]) rfl fun bA => ?_
      refine j_nm rfl ?_
      refine jh_back (.cons (.there (.there (.there ((hr3 _).one (k := 0) rfl)))) (.cons (.there (.there (.there ((hr3 _).one (k := 1) rfl)))) .nil)) fun hrd => ?_
      refine jh_one 15 rfl (by kernel_rfl) ?_
      refine jo_append tab_ok 2 [I y1, I y2, I (ofL was (y1, y2)), I (ofL now (y1, y2))] rfl rfl rfl rfl rfl rfl ⟨rfl, rfl⟩ rfl (.inr ⟨bA, 0, rfl, Rd.all⟩) (by simp [Hp.one]) (by intro len' hl'; rw [ccells_len] at hl'; have hl'' : (chgL was now ((allR was now).take i)).length * 4 = len' * 4 := hl'; exact ⟨by show (len' + 1) * 32 ≤ _; omega, by simp only [maxLen]; omega⟩) rfl fun v' => ?_
      rw [ccells_snoc]
      refine j_nm rfl ?_
      refine jh_back (.cons (.there (.there (.there ((hr3 _).one (k := 0) rfl)))) (.cons (.there (.there (.there ((hr3 _).one (k := 1) rfl)))) .nil)) fun hrd => ?_
      refine jh_one 16 rfl (by kernel_rfl) (jo_pure tab_ok rfl rfl (jh_back hrd fun hrd => ?_))
      refine jh_done (by kernel_rfl) ?_
      rw [← hsn]
      (refine j_nm rfl ?_; repeat (first | refine jo_cons ?_ | (refine jo_iso ?_; first | (refine jo_isbin ?_; first | refine jo_v (by first | exact pv_add rfl rfl (by omega) | exact pv_sub rfl rfl (by omega)) rfl ?_ | refine jo_pure tab_ok rfl rfl ?_ | refine jo_v (by first | exact pv_add64 rfl rfl | exact pv_ptr_eq tab_ok rfl rfl rfl | exact pv_ptr_ne tab_ok rfl rfl rfl | exact pv_if_eq tab_ok rfl rfl rfl (.inl rfl) | exact pv_if_eq tab_ok rfl rfl rfl (.inr ⟨_, _, rfl⟩) | exact pv_if_ne tab_ok rfl rfl rfl (.inl rfl) | exact pv_if_ne tab_ok rfl rfl rfl (.inr ⟨_, _, rfl⟩)) rfl ?_) | refine jo_pure tab_ok rfl rfl ?_ | refine jo_want rfl ?_ | refine jo_skip rfl rfl ?_ | refine jo_load tab_ok rfl rfl rfl (by first | ((repeat first | exact Rd.here rfl | refine Rd.there ?_); done) | assumption) rfl ?_) | refine jo_nil ?_ | refine jc_seq ?_ | refine jc_skip ?_ | refine jc_region ?_ | refine jc_block ?_ | refine jc_ret ?_ | refine jc_exit ?_ | refine jx_then ?_ | refine jx_then_exit ?_ | refine jx_then_ret ?_ | refine jx_block ?_ | refine jx_block_ret ?_ | refine jx_block_hit ?_ | refine jx_block_miss rfl ?_ | refine jc_true rfl ?_ | refine jc_false rfl ?_))
      exact jx_round (i + 1, v') [0, 1] [1] (by show i + 1 ≤ k3; omega) (by show k3 - (i + 1) < k3 - i; omega) ⟨rfl, rfl, rfl, rfl, rfl, trivial⟩ rfl
    · have he : ofL was (y1, y2) = ofL now (y1, y2) := he
      rw [if_pos he, List.append_nil] at hsn
      rw [← hsn]
      (refine j_nm rfl ?_; repeat (first | refine jo_cons ?_ | (refine jo_iso ?_; first | (refine jo_isbin ?_; first | refine jo_v (by first | exact pv_add rfl rfl (by omega) | exact pv_sub rfl rfl (by omega)) rfl ?_ | refine jo_pure tab_ok rfl rfl ?_ | refine jo_v (by first | exact pv_add64 rfl rfl | exact pv_ptr_eq tab_ok rfl rfl rfl | exact pv_ptr_ne tab_ok rfl rfl rfl | exact pv_if_eq tab_ok rfl rfl rfl (.inl rfl) | exact pv_if_eq tab_ok rfl rfl rfl (.inr ⟨_, _, rfl⟩) | exact pv_if_ne tab_ok rfl rfl rfl (.inl rfl) | exact pv_if_ne tab_ok rfl rfl rfl (.inr ⟨_, _, rfl⟩)) rfl ?_) | refine jo_pure tab_ok rfl rfl ?_ | refine jo_want rfl ?_ | refine jo_skip rfl rfl ?_ | refine jo_load tab_ok rfl rfl rfl (by first | ((repeat first | exact Rd.here rfl | refine Rd.there ?_); done) | assumption) rfl ?_) | refine jo_nil ?_ | refine jc_seq ?_ | refine jc_skip ?_ | refine jc_region ?_ | refine jc_block ?_ | refine jc_ret ?_ | refine jc_exit ?_ | refine jx_then ?_ | refine jx_then_exit ?_ | refine jx_then_ret ?_ | refine jx_block ?_ | refine jx_block_ret ?_ | refine jx_block_hit ?_ | refine jx_block_miss rfl ?_ | refine jc_true rfl ?_ | refine jc_false rfl ?_))
      exact jx_round (i + 1, ov) [1, 1] [] (by show i + 1 ≤ k3; omega) (by show k3 - (i + 1) < k3 - i; omega) ⟨rfl, rfl, rfl, rfl, rfl, trivial⟩ rfl
  · have hik : i = k3 := by have h' : ¬ (i : Int) < k3 := h; omega
    rw [List.take_of_length_le (by omega)]
    (refine j_nm rfl ?_; repeat (first | refine jo_cons ?_ | (refine jo_iso ?_; first | (refine jo_isbin ?_; first | refine jo_v (by first | exact pv_add rfl rfl (by omega) | exact pv_sub rfl rfl (by omega)) rfl ?_ | refine jo_pure tab_ok rfl rfl ?_ | refine jo_v (by first | exact pv_add64 rfl rfl | exact pv_ptr_eq tab_ok rfl rfl rfl | exact pv_ptr_ne tab_ok rfl rfl rfl | exact pv_if_eq tab_ok rfl rfl rfl (.inl rfl) | exact pv_if_eq tab_ok rfl rfl rfl (.inr ⟨_, _, rfl⟩) | exact pv_if_ne tab_ok rfl rfl rfl (.inl rfl) | exact pv_if_ne tab_ok rfl rfl rfl (.inr ⟨_, _, rfl⟩)) rfl ?_) | refine jo_pure tab_ok rfl rfl ?_ | refine jo_want rfl ?_ | refine jo_skip rfl rfl ?_ | refine jo_load tab_ok rfl rfl rfl (by first | ((repeat first | exact Rd.here rfl | refine Rd.there ?_); done) | assumption) rfl ?_) | refine jo_nil ?_ | refine jc_seq ?_ | refine jc_skip ?_ | refine jc_region ?_ | refine jc_block ?_ | refine jc_ret ?_ | refine jc_exit ?_ | refine jx_then ?_ | refine jx_then_exit ?_ | refine jx_then_ret ?_ | refine jx_block ?_ | refine jx_block_ret ?_ | refine jx_block_hit ?_ | refine jx_block_miss rfl ?_ | refine jc_true rfl ?_ | refine jc_false rfl ?_))
    exact j_ret [0, 0] [1] rfl rfl ⟨rfl, rfl⟩
end Rz
end Go.Proofs.Ytiikdofbaoidcaa
