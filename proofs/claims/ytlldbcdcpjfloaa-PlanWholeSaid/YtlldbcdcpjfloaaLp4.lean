import Derived.Test.YtlldbcdcpjfloaaPl5
import Derived.Test.YtlldbcdcpjfloaaPq
namespace Go.Proofs.Ytlldbcdcpjfloaa
open Go Go.Proofs.Ytlldbcdcpjfloaa.Hp Pp Pq
set_option maxRecDepth 10000
set_option linter.unusedVariables false
set_option linter.unusedSimpArgs false
attribute [local irreducible] wpList Code.wp wpAny wpAnyK
abbrev OW (A : Assn) : Value → List Assn → Prop := fun v B => v = .bool true ∧ B = [A]
abbrev QW (E : World) (A : Assn) (F : List Assn) : Exit → Act → World → Prop := bodyPost Try.prog Try.f3 (ends E (OW A) F)
theorem tmod_bound (a : Int) {b : Int} (hb : 0 < b) : -b < a.tmod b ∧ a.tmod b < b := by
  rcases Int.le_total 0 a with h | h
  · rw [Int.tmod_eq_emod_of_nonneg h]
    have h1 := Int.emod_nonneg a (show b ≠ 0 by omega)
    have h2 := Int.emod_lt_of_pos a hb
    omega
  · have h3 := Int.emod_nonneg (-a) (show b ≠ 0 by omega)
    have h4 := Int.emod_lt_of_pos (-a) hb
    have h5 : (-a).tmod b = (-a) % b := Int.tmod_eq_emod_of_nonneg (by omega)
    rw [Int.neg_tmod] at h5
    omega
theorem pv_remz {P : Program} {l : Fr} {x y : Operand} {a b : Int} {t t' : TypeId} (hx : ev l x = some (I a)) (hy : ev l y = some (I b)) (hb : 0 < b) : PV P l (.binOp .rem t x y t') (I (a.tmod b)) := by
  refine pv_bin hx hy (fun w => ?_)
  have hb' : ¬ b = 0 := by omega
  simp [eqGuard, binOp, Op.intDiv, hb']
theorem pv_neql_f {P : Program} {l : Fr} {t u : TypeId} {x y : Operand} {a b : Int} (hx : ev l x = some (I a)) (hy : ev l y = some (I b)) (h : a = b) : PV P l (.binOp .neq t x y u) (.bool false) :=
  pv_bin hx hy fun w => binV_sound (show binV .neq (I a) (I b) = some (.bool false) by subst h; simp [binV]) t x y w
theorem pv_lss_t {P : Program} {l : Fr} {t u : TypeId} {x y : Operand} {a b : Int} (hx : ev l x = some (I a)) (hy : ev l y = some (I b)) (h : a < b) : PV P l (.binOp .lss t x y u) (.bool true) :=
  pv_bin hx hy fun w => binV_sound (show binV .lss (I a) (I b) = some (.bool true) by simp [binV, h]) t x y w
theorem pv_lss_f {P : Program} {l : Fr} {t u : TypeId} {x y : Operand} {a b : Int} (hx : ev l x = some (I a)) (hy : ev l y = some (I b)) (h : ¬ a < b) : PV P l (.binOp .lss t x y u) (.bool false) :=
  pv_bin hx hy fun w => binV_sound (show binV .lss (I a) (I b) = some (.bool false) by simp [binV, h]) t x y w
theorem j_regs_len {E : World} {X : Act → World → Prop} {n : Nat} {f : Fr} {L : List Assn} {v : Value} {rs : List Reg}
    (h : ∀ b k c, v = .slice b k c → k = rs.length → J E X n f (RegsA v rs :: L)) : J E X n f (RegsA v rs :: L) := by
  unfold J at h ⊢
  intro a w hf hs
  obtain ⟨f', g, hsp, ⟨zs, hz, f2, g2, hs2, ⟨base, len, cap, hv, hlen, _⟩, _⟩, hL⟩ := hs.heap
  exact h base len cap hv (by rw [rcells_len] at hlen; omega) a w hf hs
/-! ## the last loop: the two lists of regions are alike -/
set_option maxHeartbeats 4000000 in
theorem h29 {A : Assn} (E : World) (X : Assn) {sv tv : Value} {rs : List Reg} :
    J E (here Try.prog [.r, .r, .r, .r, .r, .r, .r, .r, .r, .r] Try.f3 (QW E A [X])) 176 [(5, sv), (14, tv)] [RegsA sv rs, RegsA tv rs, A, X] := by
  refine j_here rfl ?_
  refine j_regs fun zs hz => ?_
  have hcl := rcells_len zs
  refine j_sl_ro fun hrz => ?_
  obtain ⟨zb, zn, zc, rfl, hzn, hzm, hzo⟩ := hrz
  simp only [maxLen] at hzm
  refine j_front [2] (j_regs fun ys hy => ?_)
  have hdl := rcells_len ys
  refine j_sl_ro fun hry => ?_
  obtain ⟨yb, yn, yc, rfl, hyn, hym, hyo⟩ := hry
  simp only [maxLen] at hym
  (refine j_nm rfl ?_; repeat (first | refine jo_cons ?_ | (refine jo_iso ?_; first | (refine jo_isbin ?_; first | refine jo_v (by first | exact pv_add rfl rfl (by omega) | exact pv_sub rfl rfl (by omega)) rfl ?_ | refine jo_pure tab_ok rfl rfl ?_ | refine jo_v (by first | exact pv_add64 rfl rfl | exact pv_ptr_eq tab_ok rfl rfl rfl | exact pv_ptr_ne tab_ok rfl rfl rfl | exact pv_if_eq tab_ok rfl rfl rfl (.inl rfl) | exact pv_if_eq tab_ok rfl rfl rfl (.inr ⟨_, _, rfl⟩) | exact pv_if_ne tab_ok rfl rfl rfl (.inl rfl) | exact pv_if_ne tab_ok rfl rfl rfl (.inr ⟨_, _, rfl⟩)) rfl ?_) | refine jo_pure tab_ok rfl rfl ?_ | refine jo_want rfl ?_ | refine jo_skip rfl rfl ?_ | refine jo_load tab_ok rfl rfl rfl (by first | ((repeat first | exact Rd.here rfl | refine Rd.there ?_); done) | assumption) rfl ?_) | refine jo_nil ?_ | refine jc_seq ?_ | refine jc_skip ?_ | refine jc_region ?_ | refine jc_block ?_ | refine jc_ret ?_ | refine jc_exit ?_ | refine jx_then ?_ | refine jx_then_exit ?_ | refine jx_then_ret ?_ | refine jx_block ?_ | refine jx_block_ret ?_ | refine jx_block_hit ?_ | refine jx_block_miss rfl ?_ | refine jc_true rfl ?_ | refine jc_false rfl ?_))
  refine jc_loop (ι := Nat) (fun i => [(146, I i), (145, I zn), (14, .slice yb yn yc), (5, .slice zb zn zc)])
    (fun _ => sl 31 2 (.slice yb yn yc) (rcells ys) :: many Rg ys rs :: sl 31 2 (.slice zb zn zc) (rcells zs) :: many Rg zs rs :: A :: [X]) (fun i => i ≤ zn) (fun i => zn - i) 0 [] [] (Nat.zero_le _) ⟨rfl, rfl, rfl, rfl, trivial⟩ rfl ?_
  intro i hi
  (refine j_nm rfl ?_; repeat (first | refine jo_cons ?_ | (refine jo_iso ?_; first | (refine jo_isbin ?_; first | refine jo_v (by first | exact pv_add rfl rfl (by omega) | exact pv_sub rfl rfl (by omega)) rfl ?_ | refine jo_pure tab_ok rfl rfl ?_ | refine jo_v (by first | exact pv_add64 rfl rfl | exact pv_ptr_eq tab_ok rfl rfl rfl | exact pv_ptr_ne tab_ok rfl rfl rfl | exact pv_if_eq tab_ok rfl rfl rfl (.inl rfl) | exact pv_if_eq tab_ok rfl rfl rfl (.inr ⟨_, _, rfl⟩) | exact pv_if_ne tab_ok rfl rfl rfl (.inl rfl) | exact pv_if_ne tab_ok rfl rfl rfl (.inr ⟨_, _, rfl⟩)) rfl ?_) | refine jo_pure tab_ok rfl rfl ?_ | refine jo_want rfl ?_ | refine jo_skip rfl rfl ?_ | refine jo_load tab_ok rfl rfl rfl (by first | ((repeat first | exact Rd.here rfl | refine Rd.there ?_); done) | assumption) rfl ?_) | refine jo_nil ?_ | refine jc_seq ?_ | refine jc_skip ?_ | refine jc_region ?_ | refine jc_block ?_ | refine jc_ret ?_ | refine jc_exit ?_ | refine jx_then ?_ | refine jx_then_exit ?_ | refine jx_then_ret ?_ | refine jx_block ?_ | refine jx_block_ret ?_ | refine jx_block_hit ?_ | refine jx_block_miss rfl ?_ | refine jc_true rfl ?_ | refine jc_false rfl ?_))
  refine jc_dec rfl (fun h => ?_) (fun h => ?_)
  · have hi' : i < zn := by omega
    have hir : i < rs.length := by omega
    have hri : rs[i]? = some rs[i] := List.getElem?_eq_getElem hir
    generalize rs[i] = r at hri
    obtain ⟨⟨z1, z2⟩, hzk⟩ : ∃ z, zs[i]? = some z := ⟨zs[i]'(by omega), List.getElem?_eq_getElem _⟩
    obtain ⟨⟨y1, y2⟩, hyk⟩ : ∃ y, ys[i]? = some y := ⟨ys[i]'(by omega), List.getElem?_eq_getElem _⟩
    obtain ⟨c1, c2⟩ := rcells_at zs i _ hzk
    obtain ⟨d1, d2⟩ := rcells_at ys i _ hyk
    obtain ⟨zp, zo, rfl, rz⟩ := hzo.resolve_left (by omega)
    obtain ⟨yp, yo, rfl, ry⟩ := hyo.resolve_left (by omega)
    refine j_nm rfl ?_
    refine j_front [1] (j_many i hyk hri ?_)
    refine j_rg fun hyd => ?_
    have hyd : y1 = r.1 := hyd
    refine j_sl_ro fun hrA => ?_
    have hrA' := hrA
    obtain ⟨ab, an, ac, e, _, _, _⟩ := hrA
    simp only at e
    subst e
    refine j_nm rfl ?_
    refine j_front [4] (j_many i hzk hri ?_)
    refine j_rg fun hzd => ?_
    have hzd : z1 = r.1 := hzd
    refine j_sl_ro fun hrB => ?_
    have hrB' := hrB
    obtain ⟨bb, bn, bc, e, _, _, _⟩ := hrB
    simp only at e
    subst e
    (refine j_nm rfl ?_; repeat (first | refine jo_cons ?_ | (refine jo_iso ?_; first | (refine jo_isbin ?_; first | refine jo_v (by first | exact pv_add rfl rfl (by omega) | exact pv_sub rfl rfl (by omega)) rfl ?_ | refine jo_pure tab_ok rfl rfl ?_ | refine jo_v (by first | exact pv_add64 rfl rfl | exact pv_ptr_eq tab_ok rfl rfl rfl | exact pv_ptr_ne tab_ok rfl rfl rfl | exact pv_if_eq tab_ok rfl rfl rfl (.inl rfl) | exact pv_if_eq tab_ok rfl rfl rfl (.inr ⟨_, _, rfl⟩) | exact pv_if_ne tab_ok rfl rfl rfl (.inl rfl) | exact pv_if_ne tab_ok rfl rfl rfl (.inr ⟨_, _, rfl⟩)) rfl ?_) | refine jo_pure tab_ok rfl rfl ?_ | refine jo_want rfl ?_ | refine jo_skip rfl rfl ?_ | refine jo_load tab_ok rfl rfl rfl (by first | ((repeat first | exact Rd.here rfl | refine Rd.there ?_); done) | assumption) rfl ?_) | refine jo_nil ?_ | refine jc_seq ?_ | refine jc_skip ?_ | refine jc_region ?_ | refine jc_block ?_ | refine jc_ret ?_ | refine jc_exit ?_ | refine jx_then ?_ | refine jx_then_exit ?_ | refine jx_then_ret ?_ | refine jx_block ?_ | refine jx_block_ret ?_ | refine jx_block_hit ?_ | refine jx_block_miss rfl ?_ | refine jc_true rfl ?_ | refine jc_false rfl ?_))
    refine jc_drawh 99 [(zp, zo + i * 2, I z1), (yp, yo + i * 2, I y1), (zp, zo + i * 2 + 1, .slice bb bn bc), (yp, yo + i * 2 + 1, .slice ab an ac)] mo
      (.cons (Rd.there (Rd.there (Rd.there (Rd.there (Rd.there ((rz _).one c1)))))) (.cons (Rd.there (Rd.there (Rd.there (Rd.there ((ry _).one d1))))) (.cons (Rd.there (Rd.there (Rd.there (Rd.there (Rd.there ((rz _).one c2)))))) (.cons (Rd.there (Rd.there (Rd.there (Rd.there ((ry _).one d2))))) .nil)))) fun hrd => ?_
    refine jh_pure tab_ok 0 rfl (by kernel_rfl) rfl rfl hrd ?_
    refine jh_pure tab_ok 1 rfl (by kernel_rfl) rfl rfl hrd ?_
    refine jh_s 2 rfl (by kernel_rfl) ((pv_index tab_ok i rfl rfl rfl rfl rfl rfl (by omega)).ps) rfl hrd ?_
    refine jh_pure tab_ok 3 rfl (by kernel_rfl) rfl rfl hrd ?_
    refine jh_s 4 rfl (by kernel_rfl) (ps_load tab_ok 0 rfl rfl rfl rfl) rfl hrd ?_
    refine jh_pure tab_ok 5 rfl (by kernel_rfl) rfl rfl hrd ?_
    refine jh_one 6 rfl (by kernel_rfl) (jo_pure tab_ok rfl rfl (jh_back hrd fun hrd => ?_))
    refine jh_s 7 rfl (by kernel_rfl) ((pv_index tab_ok i rfl rfl rfl rfl rfl rfl (by omega)).ps) rfl hrd ?_
    refine jh_one 8 rfl (by kernel_rfl) (jo_pure tab_ok rfl rfl (jh_back hrd fun hrd => ?_))
    refine jh_s 9 rfl (by kernel_rfl) (ps_load tab_ok 1 rfl rfl rfl rfl) rfl hrd ?_
    refine jh_s 10 rfl (by kernel_rfl) ((pv_neql_f rfl rfl (hzd.trans hyd.symm)).ps) rfl hrd ?_
    refine jh_one 11 rfl (by kernel_rfl) (jo_pure tab_ok rfl rfl (jh_back hrd fun hrd => ?_))
    refine jh_pureg tab_ok 12 rfl (by kernel_rfl) rfl rfl rfl hrd ?_
    refine jh_pureg tab_ok 13 rfl (by kernel_rfl) rfl rfl rfl hrd ?_
    refine jh_sg 14 rfl (by kernel_rfl) rfl ((pv_index tab_ok i rfl rfl rfl rfl rfl rfl (by omega)).ps) rfl hrd ?_
    refine jh_pureg tab_ok 15 rfl (by kernel_rfl) rfl rfl rfl hrd ?_
    refine jh_sg 16 rfl (by kernel_rfl) rfl (ps_load tab_ok 2 rfl rfl rfl rfl) rfl hrd ?_
    refine jh_pureg tab_ok 17 rfl (by kernel_rfl) rfl rfl rfl hrd ?_
    refine jh_pureg tab_ok 18 rfl (by kernel_rfl) rfl rfl rfl hrd ?_
    refine jh_sg 19 rfl (by kernel_rfl) rfl ((pv_index tab_ok i rfl rfl rfl rfl rfl rfl (by omega)).ps) rfl hrd ?_
    refine jh_pureg tab_ok 20 rfl (by kernel_rfl) rfl rfl rfl hrd ?_
    refine jh_sg 21 rfl (by kernel_rfl) rfl (ps_load tab_ok 3 rfl rfl rfl rfl) rfl hrd ?_
    refine jh_one 22 rfl (by kernel_rfl) ?_
    refine jo_want rfl ?_
    refine jo_call [0, 1] (ints_tri (xs := r.2) (ys := r.2) hrB' hrA') ent11 rfl ⟨rfl, rfl⟩ rfl ?_
    rintro v B ⟨rfl, rfl⟩
    rw [decide_eq_true rfl]
    refine j_nm rfl ?_
    refine jh_back (.cons (Rd.there (Rd.there (Rd.there (Rd.there (Rd.there ((rz _).one c1)))))) (.cons (Rd.there (Rd.there (Rd.there (Rd.there ((ry _).one d1))))) (.cons (Rd.there (Rd.there (Rd.there (Rd.there (Rd.there ((rz _).one c2)))))) (.cons (Rd.there (Rd.there (Rd.there (Rd.there ((ry _).one d2))))) .nil)))) fun hrd => ?_
    refine jh_pureg tab_ok 23 rfl (by kernel_rfl) rfl rfl rfl hrd ?_
    refine jh_one 24 rfl (by kernel_rfl) (jo_pure tab_ok rfl rfl (jh_back hrd fun hrd => ?_))
    refine jh_done (by kernel_rfl) ?_
    (refine j_nm rfl ?_; repeat (first | refine jo_cons ?_ | (refine jo_iso ?_; first | (refine jo_isbin ?_; first | refine jo_v (by first | exact pv_add rfl rfl (by omega) | exact pv_sub rfl rfl (by omega)) rfl ?_ | refine jo_pure tab_ok rfl rfl ?_ | refine jo_v (by first | exact pv_add64 rfl rfl | exact pv_ptr_eq tab_ok rfl rfl rfl | exact pv_ptr_ne tab_ok rfl rfl rfl | exact pv_if_eq tab_ok rfl rfl rfl (.inl rfl) | exact pv_if_eq tab_ok rfl rfl rfl (.inr ⟨_, _, rfl⟩) | exact pv_if_ne tab_ok rfl rfl rfl (.inl rfl) | exact pv_if_ne tab_ok rfl rfl rfl (.inr ⟨_, _, rfl⟩)) rfl ?_) | refine jo_pure tab_ok rfl rfl ?_ | refine jo_want rfl ?_ | refine jo_skip rfl rfl ?_ | refine jo_load tab_ok rfl rfl rfl (by first | ((repeat first | exact Rd.here rfl | refine Rd.there ?_); done) | assumption) rfl ?_) | refine jo_nil ?_ | refine jc_seq ?_ | refine jc_skip ?_ | refine jc_region ?_ | refine jc_block ?_ | refine jc_ret ?_ | refine jc_exit ?_ | refine jx_then ?_ | refine jx_then_exit ?_ | refine jx_then_ret ?_ | refine jx_block ?_ | refine jx_block_ret ?_ | refine jx_block_hit ?_ | refine jx_block_miss rfl ?_ | refine jc_true rfl ?_ | refine jc_false rfl ?_))
    refine j_close [1] rfl (rg_shut (z := (y1, .slice ab an ac)) (d := r.1) (ad := r.2) hyd) ?_
    refine j_close [1] rfl (rg_shut (z := (z1, .slice bb bn bc)) (d := r.1) (ad := r.2) hzd) ?_
    refine j_close [0, 1] rfl (fun m h => many_back hzk hri h) ?_
    refine j_close [1, 1] rfl (fun m h => many_back hyk hri h) ?_
    refine j_nm rfl ?_
    exact jx_round (i + 1) [2, 0, 1, 0] [] hi' (by omega) ⟨rfl, rfl, rfl, rfl, trivial⟩ rfl
  · (refine j_nm rfl ?_; repeat (first | refine jo_cons ?_ | (refine jo_iso ?_; first | (refine jo_isbin ?_; first | refine jo_v (by first | exact pv_add rfl rfl (by omega) | exact pv_sub rfl rfl (by omega)) rfl ?_ | refine jo_pure tab_ok rfl rfl ?_ | refine jo_v (by first | exact pv_add64 rfl rfl | exact pv_ptr_eq tab_ok rfl rfl rfl | exact pv_ptr_ne tab_ok rfl rfl rfl | exact pv_if_eq tab_ok rfl rfl rfl (.inl rfl) | exact pv_if_eq tab_ok rfl rfl rfl (.inr ⟨_, _, rfl⟩) | exact pv_if_ne tab_ok rfl rfl rfl (.inl rfl) | exact pv_if_ne tab_ok rfl rfl rfl (.inr ⟨_, _, rfl⟩)) rfl ?_) | refine jo_pure tab_ok rfl rfl ?_ | refine jo_want rfl ?_ | refine jo_skip rfl rfl ?_ | refine jo_load tab_ok rfl rfl rfl (by first | ((repeat first | exact Rd.here rfl | refine Rd.there ?_); done) | assumption) rfl ?_) | refine jo_nil ?_ | refine jc_seq ?_ | refine jc_skip ?_ | refine jc_region ?_ | refine jc_block ?_ | refine jc_ret ?_ | refine jc_exit ?_ | refine jx_then ?_ | refine jx_then_exit ?_ | refine jx_then_ret ?_ | refine jx_block ?_ | refine jx_block_ret ?_ | refine jx_block_hit ?_ | refine jx_block_miss rfl ?_ | refine jc_true rfl ?_ | refine jc_false rfl ?_))
    refine jo_call [] (awake_tri) ent9 rfl ⟨rfl, rfl⟩ rfl ?_
    rintro v B ⟨rfl, rfl⟩
    (refine j_nm rfl ?_; repeat (first | refine jo_cons ?_ | (refine jo_iso ?_; first | (refine jo_isbin ?_; first | refine jo_v (by first | exact pv_add rfl rfl (by omega) | exact pv_sub rfl rfl (by omega)) rfl ?_ | refine jo_pure tab_ok rfl rfl ?_ | refine jo_v (by first | exact pv_add64 rfl rfl | exact pv_ptr_eq tab_ok rfl rfl rfl | exact pv_ptr_ne tab_ok rfl rfl rfl | exact pv_if_eq tab_ok rfl rfl rfl (.inl rfl) | exact pv_if_eq tab_ok rfl rfl rfl (.inr ⟨_, _, rfl⟩) | exact pv_if_ne tab_ok rfl rfl rfl (.inl rfl) | exact pv_if_ne tab_ok rfl rfl rfl (.inr ⟨_, _, rfl⟩)) rfl ?_) | refine jo_pure tab_ok rfl rfl ?_ | refine jo_want rfl ?_ | refine jo_skip rfl rfl ?_ | refine jo_load tab_ok rfl rfl rfl (by first | ((repeat first | exact Rd.here rfl | refine Rd.there ?_); done) | assumption) rfl ?_) | refine jo_nil ?_ | refine jc_seq ?_ | refine jc_skip ?_ | refine jc_region ?_ | refine jc_block ?_ | refine jc_ret ?_ | refine jc_exit ?_ | refine jx_then ?_ | refine jx_then_exit ?_ | refine jx_then_ret ?_ | refine jx_block ?_ | refine jx_block_ret ?_ | refine jx_block_hit ?_ | refine jx_block_miss rfl ?_ | refine jc_true rfl ?_ | refine jc_false rfl ?_))
    exact j_ret [0] [0, 0, 0, 0] rfl ⟨rfl, rfl⟩ ⟨rfl, rfl⟩
set_option maxHeartbeats 4000000 in
theorem h25 {A : Assn} {xs : List Int} {b0 : Option Addr} {n0 c0 : Nat} (E : World) (X : Assn) (hro : Ro A 1 (.slice b0 n0 c0) (xs.map I)) (hc : n0 ≤ c0) (hok : okL xs) (hx : xs.length ≤ 100) (h0 : 0 < n0) (tn : Int) {sv : Value} :
    J E (here Try.prog [.r, .r, .r, .r, .r, .r, .r] Try.f3 (QW E A [X])) 176 [(0, .slice b0 n0 c0), (1, I tn), (5, sv)] [RegsA sv (regs (srt xs)), A, X] := by
  have hro' := hro
  obtain ⟨_, _, _, e0, hl0, hm0, ho0⟩ := hro
  cases e0
  simp only [List.length_map, Nat.mul_one, maxLen] at hl0 hm0
  have htb := tmod_bound tn (show (0 : Int) < n0 by omega)
  refine j_here rfl ?_
  refine j_regs_len ?_
  rintro zb zn zc rfl hzn
  (refine j_nm rfl ?_; repeat (first | refine jo_cons ?_ | (refine jo_iso ?_; first | (refine jo_isbin ?_; first | refine jo_v (by first | exact pv_add rfl rfl (by omega) | exact pv_sub rfl rfl (by omega)) rfl ?_ | refine jo_pure tab_ok rfl rfl ?_ | refine jo_v (by first | exact pv_add64 rfl rfl | exact pv_ptr_eq tab_ok rfl rfl rfl | exact pv_ptr_ne tab_ok rfl rfl rfl | exact pv_if_eq tab_ok rfl rfl rfl (.inl rfl) | exact pv_if_eq tab_ok rfl rfl rfl (.inr ⟨_, _, rfl⟩) | exact pv_if_ne tab_ok rfl rfl rfl (.inl rfl) | exact pv_if_ne tab_ok rfl rfl rfl (.inr ⟨_, _, rfl⟩)) rfl ?_) | refine jo_pure tab_ok rfl rfl ?_ | refine jo_want rfl ?_ | refine jo_skip rfl rfl ?_ | refine jo_load tab_ok rfl rfl rfl (by first | ((repeat first | exact Rd.here rfl | refine Rd.there ?_); done) | assumption) rfl ?_) | refine jo_nil ?_ | refine jc_seq ?_ | refine jc_skip ?_ | refine jc_region ?_ | refine jc_block ?_ | refine jc_ret ?_ | refine jc_exit ?_ | refine jx_then ?_ | refine jx_then_exit ?_ | refine jx_then_ret ?_ | refine jx_block ?_ | refine jx_block_ret ?_ | refine jx_block_hit ?_ | refine jx_block_miss rfl ?_ | refine jc_true rfl ?_ | refine jc_false rfl ?_))
  refine jo_v (pv_remz rfl rfl (by omega)) rfl ?_
  (refine j_nm rfl ?_; repeat (first | refine jo_cons ?_ | (refine jo_iso ?_; first | (refine jo_isbin ?_; first | refine jo_v (by first | exact pv_add rfl rfl (by omega) | exact pv_sub rfl rfl (by omega)) rfl ?_ | refine jo_pure tab_ok rfl rfl ?_ | refine jo_v (by first | exact pv_add64 rfl rfl | exact pv_ptr_eq tab_ok rfl rfl rfl | exact pv_ptr_ne tab_ok rfl rfl rfl | exact pv_if_eq tab_ok rfl rfl rfl (.inl rfl) | exact pv_if_eq tab_ok rfl rfl rfl (.inr ⟨_, _, rfl⟩) | exact pv_if_ne tab_ok rfl rfl rfl (.inl rfl) | exact pv_if_ne tab_ok rfl rfl rfl (.inr ⟨_, _, rfl⟩)) rfl ?_) | refine jo_pure tab_ok rfl rfl ?_ | refine jo_want rfl ?_ | refine jo_skip rfl rfl ?_ | refine jo_load tab_ok rfl rfl rfl (by first | ((repeat first | exact Rd.here rfl | refine Rd.there ?_); done) | assumption) rfl ?_) | refine jo_nil ?_ | refine jc_seq ?_ | refine jc_skip ?_ | refine jc_region ?_ | refine jc_block ?_ | refine jc_ret ?_ | refine jc_exit ?_ | refine jx_then ?_ | refine jx_then_exit ?_ | refine jx_then_ret ?_ | refine jx_block ?_ | refine jx_block_ret ?_ | refine jx_block_hit ?_ | refine jx_block_miss rfl ?_ | refine jc_true rfl ?_ | refine jc_false rfl ?_))
  refine jo_v (pv_rem rfl rfl (by omega) (by omega)) rfl ?_
  obtain ⟨k, hk⟩ : ∃ k : Nat, (tn.tmod n0 + n0) % n0 = (k : Int) := ⟨((tn.tmod n0 + n0) % n0).toNat, by have := Int.emod_nonneg (tn.tmod n0 + n0) (show (n0 : Int) ≠ 0 by omega); omega⟩
  have hkn : k < n0 := by have := Int.emod_lt_of_pos (tn.tmod n0 + n0) (show (0 : Int) < n0 by omega); omega
  rw [hk]
  have hr1 := hro'.from (k := k) (by omega) hc
  have hr2 := hro'.to (k := k) (by omega)
  obtain ⟨_, _, _, e1, g1, _, g3⟩ := hr1
  cases e1
  obtain ⟨_, _, _, e2, k1, _, k3⟩ := hr2
  cases e2
  have hone : ∀ u ∈ xs.map I, Hp.one u = true := mem_one fun _ => rfl
  (refine j_nm rfl ?_; repeat (first | refine jo_cons ?_ | (refine jo_iso ?_; first | (refine jo_isbin ?_; first | refine jo_v (by first | exact pv_add rfl rfl (by omega) | exact pv_sub rfl rfl (by omega)) rfl ?_ | refine jo_pure tab_ok rfl rfl ?_ | refine jo_v (by first | exact pv_add64 rfl rfl | exact pv_ptr_eq tab_ok rfl rfl rfl | exact pv_ptr_ne tab_ok rfl rfl rfl | exact pv_if_eq tab_ok rfl rfl rfl (.inl rfl) | exact pv_if_eq tab_ok rfl rfl rfl (.inr ⟨_, _, rfl⟩) | exact pv_if_ne tab_ok rfl rfl rfl (.inl rfl) | exact pv_if_ne tab_ok rfl rfl rfl (.inr ⟨_, _, rfl⟩)) rfl ?_) | refine jo_pure tab_ok rfl rfl ?_ | refine jo_want rfl ?_ | refine jo_skip rfl rfl ?_ | refine jo_load tab_ok rfl rfl rfl (by first | ((repeat first | exact Rd.here rfl | refine Rd.there ?_); done) | assumption) rfl ?_) | refine jo_nil ?_ | refine jc_skip ?_ | refine jc_region ?_ | refine jc_block ?_ | refine jc_ret ?_ | refine jc_exit ?_ | refine jx_then ?_ | refine jx_then_exit ?_ | refine jx_then_ret ?_ | refine jx_block ?_ | refine jx_block_ret ?_ | refine jx_block_hit ?_ | refine jx_block_miss rfl ?_ | refine jc_true rfl ?_ | refine jc_false rfl ?_))
  refine jc_seq ?_
  refine jc_drawh 99 [] mo .nil fun hrd => ?_
  refine jh_pure tab_ok 1 rfl (by kernel_rfl) rfl rfl hrd ?_
  refine jh_pure tab_ok 2 rfl (by kernel_rfl) rfl rfl hrd ?_
  refine jh_s 3 rfl (by kernel_rfl) ((pv_slice_from tab_ok k rfl rfl rfl rfl rfl (by omega) (by omega)).ps) rfl hrd ?_
  refine jh_pure tab_ok 5 rfl (by kernel_rfl) rfl rfl hrd ?_
  refine jh_pure tab_ok 6 rfl (by kernel_rfl) rfl rfl hrd ?_
  refine jh_s 7 rfl (by kernel_rfl) ((pv_slice_to tab_ok k rfl rfl rfl rfl rfl rfl (by omega)).ps) rfl hrd ?_
  refine jh_one 0 rfl (by kernel_rfl) ?_
  refine jo_buildSlice tab_ok (cs := []) rfl rfl rfl rfl rfl rfl (by first | (simp [Instr.fill]; done) | simp [Instr.fill, Value.cells]) rfl fun bA => ?_
  refine j_close [0] rfl (sl_shut (size := 1) (xs := []) (sp := []) rfl (Nat.le_refl 0) (by simp [maxLen]) rfl) ?_
  refine j_nm rfl ?_
  refine jh_back .nil fun hrd => ?_
  refine jh_one 4 rfl (by kernel_rfl) ?_
  refine jo_append tab_ok 0 ((xs.map I).drop (k * 1)) rfl rfl rfl rfl rfl rfl ⟨rfl, rfl⟩ g1 (g3.imp id fun ⟨b, o, h1, h2⟩ => ⟨b, o, h1, Rd.there (Rd.there (h2 _))⟩) (fun u hu => hone u (List.mem_of_mem_drop hu)) (by intro len' hl'; simp only [List.length_nil] at hl'; exact ⟨by show (len' + (n0 - k)) * 8 ≤ _; omega, by simp only [maxLen]; omega⟩) rfl fun v2 => ?_
  refine j_nm rfl ?_
  refine jh_back .nil fun hrd => ?_
  refine jh_one 8 rfl (by kernel_rfl) ?_
  refine jo_append tab_ok 0 ((xs.map I).take (k * 1)) rfl rfl rfl rfl rfl rfl ⟨rfl, rfl⟩ k1 (k3.imp id fun ⟨b, o, h1, h2⟩ => ⟨b, o, h1, Rd.there (Rd.there (h2 _))⟩) (fun u hu => hone u (List.mem_of_mem_take hu)) (by intro len' hl'; simp only [List.nil_append, List.length_drop, List.length_map] at hl'; exact ⟨by show (len' + k) * 8 ≤ _; omega, by simp only [maxLen]; omega⟩) rfl fun v3 => ?_
  have e3 : ([] ++ (xs.map I).drop (k * 1)) ++ (xs.map I).take (k * 1) = (xs.drop k ++ xs.take k).map I := by simp only [List.nil_append, Nat.mul_one, List.map_append, List.map_take, List.map_drop]
  rw [e3]
  refine j_nm rfl ?_
  refine jh_back .nil fun hrd => ?_
  refine jh_one 9 rfl (by kernel_rfl) ?_
  refine j_sl_ro fun hrn => ?_
  have hperm : (xs.drop k ++ xs.take k).Perm xs := by
    have := List.perm_append_comm (l₁ := xs.drop k) (l₂ := xs.take k)
    rwa [List.take_append_drop] at this
  refine jo_call [0] (regions_tri (xs := xs.drop k ++ xs.take k) hrn (by have := hperm.length_eq; omega)) ent10 rfl ⟨rfl, rfl⟩ rfl ?_
  rintro v B (⟨hb, _⟩ | ⟨_, tv, rfl, rfl⟩)
  case inl => exact absurd ((okL_perm hperm).2 hok) hb
  rw [srt_of_perm hperm]
  refine j_regs_len ?_
  rintro yb yn yc rfl hyn
  refine j_nm rfl ?_
  refine jh_back .nil fun hrd => ?_
  refine jh_one 10 rfl (by kernel_rfl) (jo_pure tab_ok rfl rfl (jh_back hrd fun hrd => ?_))
  refine jh_pure tab_ok 11 rfl (by kernel_rfl) rfl rfl hrd ?_
  refine jh_pure tab_ok 12 rfl (by kernel_rfl) rfl rfl hrd ?_
  refine jh_one 13 rfl (by kernel_rfl) (jo_pure tab_ok rfl rfl (jh_back hrd fun hrd => ?_))
  refine jh_one 14 rfl (by kernel_rfl) (jo_pure tab_ok rfl rfl (jh_back hrd fun hrd => ?_))
  refine jh_done (by kernel_rfl) ?_
  have hzy : zn = yn := by omega
  subst hzy
  (refine j_nm rfl ?_; repeat (first | refine jo_cons ?_ | (refine jo_iso ?_; first | (refine jo_isbin ?_; first | refine jo_v (by first | exact pv_add rfl rfl (by omega) | exact pv_sub rfl rfl (by omega)) rfl ?_ | refine jo_pure tab_ok rfl rfl ?_ | refine jo_v (by first | exact pv_add64 rfl rfl | exact pv_ptr_eq tab_ok rfl rfl rfl | exact pv_ptr_ne tab_ok rfl rfl rfl | exact pv_if_eq tab_ok rfl rfl rfl (.inl rfl) | exact pv_if_eq tab_ok rfl rfl rfl (.inr ⟨_, _, rfl⟩) | exact pv_if_ne tab_ok rfl rfl rfl (.inl rfl) | exact pv_if_ne tab_ok rfl rfl rfl (.inr ⟨_, _, rfl⟩)) rfl ?_) | refine jo_pure tab_ok rfl rfl ?_ | refine jo_want rfl ?_ | refine jo_skip rfl rfl ?_ | refine jo_load tab_ok rfl rfl rfl (by first | ((repeat first | exact Rd.here rfl | refine Rd.there ?_); done) | assumption) rfl ?_) | refine jo_nil ?_ | refine jc_seq ?_ | refine jc_skip ?_ | refine jc_region ?_ | refine jc_block ?_ | refine jc_ret ?_ | refine jc_exit ?_ | refine jx_then ?_ | refine jx_then_exit ?_ | refine jx_then_ret ?_ | refine jx_block ?_ | refine jx_block_ret ?_ | refine jx_block_hit ?_ | refine jx_block_miss rfl ?_ | refine jc_true rfl ?_ | refine jc_false rfl ?_))
  refine jc_bne rfl (fun h => absurd rfl h) (fun _ => ?_)
  (refine j_nm rfl ?_; repeat (first | refine jo_cons ?_ | (refine jo_iso ?_; first | (refine jo_isbin ?_; first | refine jo_v (by first | exact pv_add rfl rfl (by omega) | exact pv_sub rfl rfl (by omega)) rfl ?_ | refine jo_pure tab_ok rfl rfl ?_ | refine jo_v (by first | exact pv_add64 rfl rfl | exact pv_ptr_eq tab_ok rfl rfl rfl | exact pv_ptr_ne tab_ok rfl rfl rfl | exact pv_if_eq tab_ok rfl rfl rfl (.inl rfl) | exact pv_if_eq tab_ok rfl rfl rfl (.inr ⟨_, _, rfl⟩) | exact pv_if_ne tab_ok rfl rfl rfl (.inl rfl) | exact pv_if_ne tab_ok rfl rfl rfl (.inr ⟨_, _, rfl⟩)) rfl ?_) | refine jo_pure tab_ok rfl rfl ?_ | refine jo_want rfl ?_ | refine jo_skip rfl rfl ?_ | refine jo_load tab_ok rfl rfl rfl (by first | ((repeat first | exact Rd.here rfl | refine Rd.there ?_); done) | assumption) rfl ?_) | refine jo_nil ?_ | refine jc_skip ?_ | refine jc_region ?_ | refine jc_block ?_ | refine jc_ret ?_ | refine jc_exit ?_ | refine jx_then ?_ | refine jx_then_exit ?_ | refine jx_then_ret ?_ | refine jx_block ?_ | refine jx_block_ret ?_ | refine jx_block_hit ?_ | refine jx_block_miss rfl ?_ | refine jc_true rfl ?_ | refine jc_false rfl ?_))
  exact j_go (h29 E X (rs := regs (srt xs))) [1] [1] ⟨rfl, rfl, trivial⟩ rfl
end Go.Proofs.Ytlldbcdcpjfloaa
