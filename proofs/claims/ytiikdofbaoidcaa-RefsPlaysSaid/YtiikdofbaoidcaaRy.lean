import Derived.Test.YtiikdofbaoidcaaRp
import Derived.Test.YtiikdofbaoidcaaAp
set_option linter.unusedVariables false
set_option linter.unusedSimpArgs false
namespace Go.Proofs.Ytiikdofbaoidcaa
namespace Ry
open Go Go.Proofs.Ytiikdofbaoidcaa.Hp Mp Mq Rs Rt Ru Rv Ap Rk Rp
set_option maxRecDepth 10000
attribute [local irreducible] wpList Code.wp wpAny wpAnyK
def tab : Tab := [
  ⟨3, .int .i64, 1, 8, [.int .i64 0]⟩,
  ⟨4, .bool, 1, 1, [.bool false]⟩,
  ⟨51, .slice 3, 1, 24, [.slice none 0 0]⟩,
  ⟨32, .struct [(0, 3), (1, 3)], 2, 16, [.int .i64 0, .int .i64 0]⟩,
  ⟨35, .slice 32, 1, 24, [.slice none 0 0]⟩,
  ⟨27, .struct [(0, 3), (1, 3), (2, 3)], 3, 24, [.int .i64 0, .int .i64 0, .int .i64 0]⟩,
  ⟨22, .slice 27, 1, 24, [.slice none 0 0]⟩,
  ⟨29, .iface, 1, 16, [.nilIface]⟩,
  ⟨66, .int .i64, 1, 8, [.int .i64 0]⟩]
theorem tab_3 : TE.ok Try.prog ⟨3, .int .i64, 1, 8, [.int .i64 0]⟩ := ⟨by kernel_rfl, by kernel_rfl, by kernel_rfl, by kernel_rfl⟩
theorem tab_4 : TE.ok Try.prog ⟨4, .bool, 1, 1, [.bool false]⟩ := ⟨by kernel_rfl, by kernel_rfl, by kernel_rfl, by kernel_rfl⟩
theorem tab_51 : TE.ok Try.prog ⟨51, .slice 3, 1, 24, [.slice none 0 0]⟩ := ⟨by kernel_rfl, by kernel_rfl, by kernel_rfl, by kernel_rfl⟩
theorem tab_32 : TE.ok Try.prog ⟨32, .struct [(0, 3), (1, 3)], 2, 16, [.int .i64 0, .int .i64 0]⟩ := ⟨by kernel_rfl, by kernel_rfl, by kernel_rfl, by kernel_rfl⟩
theorem tab_35 : TE.ok Try.prog ⟨35, .slice 32, 1, 24, [.slice none 0 0]⟩ := ⟨by kernel_rfl, by kernel_rfl, by kernel_rfl, by kernel_rfl⟩
theorem tab_27 : TE.ok Try.prog ⟨27, .struct [(0, 3), (1, 3), (2, 3)], 3, 24, [.int .i64 0, .int .i64 0, .int .i64 0]⟩ := ⟨by kernel_rfl, by kernel_rfl, by kernel_rfl, by kernel_rfl⟩
theorem tab_22 : TE.ok Try.prog ⟨22, .slice 27, 1, 24, [.slice none 0 0]⟩ := ⟨by kernel_rfl, by kernel_rfl, by kernel_rfl, by kernel_rfl⟩
theorem tab_29 : TE.ok Try.prog ⟨29, .iface, 1, 16, [.nilIface]⟩ := ⟨by kernel_rfl, by kernel_rfl, by kernel_rfl, by kernel_rfl⟩
theorem tab_66 : TE.ok Try.prog ⟨66, .int .i64, 1, 8, [.int .i64 0]⟩ := ⟨by kernel_rfl, by kernel_rfl, by kernel_rfl, by kernel_rfl⟩
theorem tab_ok : tab.ok Try.prog := by
  intro e he
  simp only [tab, List.mem_cons, List.not_mem_nil, or_false] at he
  rcases he with rfl | rfl | rfl | rfl | rfl | rfl | rfl | rfl | rfl
  · exact tab_3
  · exact tab_4
  · exact tab_51
  · exact tab_32
  · exact tab_35
  · exact tab_27
  · exact tab_22
  · exact tab_29
  · exact tab_66

section
variable {P : Program} {l : Fr} {t u : TypeId} {x y : Operand} {a b : Int}
theorem pv_lss_t (hx : ev l x = some (I a)) (hy : ev l y = some (I b)) (h : a < b) : PV P l (.binOp .lss t x y u) (.bool true) :=
  pv_bin hx hy fun w => binV_sound (show binV .lss (I a) (I b) = some (.bool true) by simp [binV, h]) t x y w
theorem pv_lss_f (hx : ev l x = some (I a)) (hy : ev l y = some (I b)) (h : ¬ a < b) : PV P l (.binOp .lss t x y u) (.bool false) :=
  pv_bin hx hy fun w => binV_sound (show binV .lss (I a) (I b) = some (.bool false) by simp [binV]; omega) t x y w
theorem pv_neql_f (hx : ev l x = some (I a)) (hy : ev l y = some (I b)) (h : a = b) : PV P l (.binOp .neq t x y u) (.bool false) :=
  pv_bin hx hy fun w => binV_sound (show binV .neq (I a) (I b) = some (.bool false) by subst h; simp [binV]) t x y w
theorem pv_neql_t (hx : ev l x = some (I a)) (hy : ev l y = some (I b)) (h : ¬ a = b) : PV P l (.binOp .neq t x y u) (.bool true) :=
  pv_bin hx hy fun w => binV_sound (show binV .neq (I a) (I b) = some (.bool true) by simp [binV, h]) t x y w
theorem pv_eql_t (hx : ev l x = some (I a)) (hy : ev l y = some (I b)) (h : a = b) : PV P l (.binOp .eql t x y u) (.bool true) :=
  pv_bin hx hy fun w => binV_sound (show binV .eql (I a) (I b) = some (.bool true) by subst h; simp [binV]) t x y w
theorem pv_eql_f (hx : ev l x = some (I a)) (hy : ev l y = some (I b)) (h : ¬ a = b) : PV P l (.binOp .eql t x y u) (.bool false) :=
  pv_bin hx hy fun w => binV_sound (show binV .eql (I a) (I b) = some (.bool false) by simp [binV, h]) t x y w
end
def byR (l : List Own) (a : Int) : List Own := l.filter fun x => decide (x.2 = a)
theorem byR_snoc (l : List Own) (a : Int) (y : Own) : byR (l ++ [y]) a = byR l a ++ if y.2 = a then [y] else [] := by
  unfold byR
  rw [List.filter_append]
  by_cases h : y.2 = a <;> simp [h]
theorem byR_len (l : List Own) (a : Int) : (byR l a).length ≤ l.length := List.length_filter_le ..
set_option maxHeartbeats 4000000 in
theorem by_tri {A : Assn} {v : Value} {xs : List Own} (hro : Ro A 3 v (rcells xs)) (hx : xs.length ≤ 1000) (a : Int) : Tri Try.prog 37 [v, I a] [A] fun u B => B = [sl 27 3 u (rcells (byR xs a)), A] := by
  obtain ⟨b', k, c', rfl, hl, hm, hor⟩ := hro
  rw [rcells_len] at hl
  have hk : xs.length = k := by omega
  refine tri_introX Try.func37 rfl Try.ntmps37 rfl fun E X => ?_
  (refine j_nm rfl ?_; repeat (first | refine jo_cons ?_ | (refine jo_iso ?_; first | (refine jo_isbin ?_; first | refine jo_v (by first | exact pv_add rfl rfl (by omega) | exact pv_sub rfl rfl (by omega)) rfl ?_ | refine jo_pure tab_ok rfl rfl ?_ | refine jo_v (by first | exact pv_add64 rfl rfl | exact pv_ptr_eq tab_ok rfl rfl rfl | exact pv_ptr_ne tab_ok rfl rfl rfl | exact pv_if_eq tab_ok rfl rfl rfl (.inl rfl) | exact pv_if_eq tab_ok rfl rfl rfl (.inr ⟨_, _, rfl⟩) | exact pv_if_ne tab_ok rfl rfl rfl (.inl rfl) | exact pv_if_ne tab_ok rfl rfl rfl (.inr ⟨_, _, rfl⟩)) rfl ?_) | refine jo_pure tab_ok rfl rfl ?_ | refine jo_want rfl ?_ | refine jo_skip rfl rfl ?_ | refine jo_load tab_ok rfl rfl rfl (by first | ((repeat first | exact Rd.here rfl | refine Rd.there ?_); done) | assumption) rfl ?_) | refine jo_nil ?_ | refine jc_seq ?_ | refine jc_skip ?_ | refine jc_region ?_ | refine jc_block ?_ | refine jc_ret ?_ | refine jc_exit ?_ | refine jx_then ?_ | refine jx_then_exit ?_ | refine jx_then_ret ?_ | refine jx_block ?_ | refine jx_block_ret ?_ | refine jx_block_hit ?_ | refine jx_block_miss rfl ?_ | refine jc_true rfl ?_ | refine jc_false rfl ?_))
  refine j_close [] rfl (fun m _ => (sl_nil (t := 27) (size := 3) m : sl 27 3 (.slice none 0 0) (rcells (byR [] a)) m)) ?_
  refine j_nm rfl ?_
  refine jc_loop (ι := Nat × Value) (fun x => [(6, I x.1), (0, .slice b' k c'), (1, I a), (5, x.2)]) (fun x => [sl 27 3 x.2 (rcells (byR (xs.take x.1) a)), A, X]) (fun x => x.1 ≤ k) (fun x => k - x.1) (0, .slice none 0 0) [0] [] (Nat.zero_le _) ⟨rfl, rfl, rfl, rfl, trivial⟩ rfl ?_
  rintro ⟨i, ov⟩ hi
  simp only at hi
  dsimp only
  have hbl := byR_len (xs.take i) a
  have htl : (xs.take i).length ≤ xs.length := by rw [List.length_take]; omega
  (refine j_nm rfl ?_; repeat (first | refine jo_cons ?_ | (refine jo_iso ?_; first | (refine jo_isbin ?_; first | refine jo_v (by first | exact pv_add rfl rfl (by omega) | exact pv_sub rfl rfl (by omega)) rfl ?_ | refine jo_pure tab_ok rfl rfl ?_ | refine jo_v (by first | exact pv_add64 rfl rfl | exact pv_ptr_eq tab_ok rfl rfl rfl | exact pv_ptr_ne tab_ok rfl rfl rfl | exact pv_if_eq tab_ok rfl rfl rfl (.inl rfl) | exact pv_if_eq tab_ok rfl rfl rfl (.inr ⟨_, _, rfl⟩) | exact pv_if_ne tab_ok rfl rfl rfl (.inl rfl) | exact pv_if_ne tab_ok rfl rfl rfl (.inr ⟨_, _, rfl⟩)) rfl ?_) | refine jo_pure tab_ok rfl rfl ?_ | refine jo_want rfl ?_ | refine jo_skip rfl rfl ?_ | refine jo_load tab_ok rfl rfl rfl (by first | ((repeat first | exact Rd.here rfl | refine Rd.there ?_); done) | assumption) rfl ?_) | refine jo_nil ?_ | refine jc_seq ?_ | refine jc_skip ?_ | refine jc_region ?_ | refine jc_block ?_ | refine jc_ret ?_ | refine jc_exit ?_ | refine jx_then ?_ | refine jx_then_exit ?_ | refine jx_then_ret ?_ | refine jx_block ?_ | refine jx_block_ret ?_ | refine jx_block_hit ?_ | refine jx_block_miss rfl ?_ | refine jc_true rfl ?_ | refine jc_false rfl ?_))
  refine jc_dec rfl (fun h => ?_) (fun h => ?_)
  · have hlt : i < xs.length := by have h' : (i : Int) < k := h; omega
    obtain ⟨mp, mo_, rfl, ro⟩ := hor.resolve_left (by omega)
    have hr3 := fun L => rcells_rd3 (ro L) hlt
    have hsn : byR (xs.take (i + 1)) a = byR (xs.take i) a ++ if xs[i].2 = a then [xs[i]] else [] := by rw [List.take_succ_eq_append_getElem hlt]; exact byR_snoc ..
    generalize xs[i] = y at hr3 hsn
    obtain ⟨⟨y1, y2⟩, y3⟩ := y
    simp only at hsn
    (refine j_nm rfl ?_; repeat (first | refine jo_cons ?_ | (refine jo_iso ?_; first | (refine jo_isbin ?_; first | refine jo_v (by first | exact pv_add rfl rfl (by omega) | exact pv_sub rfl rfl (by omega)) rfl ?_ | refine jo_pure tab_ok rfl rfl ?_ | refine jo_v (by first | exact pv_add64 rfl rfl | exact pv_ptr_eq tab_ok rfl rfl rfl | exact pv_ptr_ne tab_ok rfl rfl rfl | exact pv_if_eq tab_ok rfl rfl rfl (.inl rfl) | exact pv_if_eq tab_ok rfl rfl rfl (.inr ⟨_, _, rfl⟩) | exact pv_if_ne tab_ok rfl rfl rfl (.inl rfl) | exact pv_if_ne tab_ok rfl rfl rfl (.inr ⟨_, _, rfl⟩)) rfl ?_) | refine jo_pure tab_ok rfl rfl ?_ | refine jo_want rfl ?_ | refine jo_skip rfl rfl ?_ | refine jo_load tab_ok rfl rfl rfl (by first | ((repeat first | exact Rd.here rfl | refine Rd.there ?_); done) | assumption) rfl ?_) | refine jo_nil ?_ | refine jc_seq ?_ | refine jc_skip ?_ | refine jc_region ?_ | refine jc_block ?_ | refine jc_ret ?_ | refine jc_exit ?_ | refine jx_then ?_ | refine jx_then_exit ?_ | refine jx_then_ret ?_ | refine jx_block ?_ | refine jx_block_ret ?_ | refine jx_block_hit ?_ | refine jx_block_miss rfl ?_ | refine jc_true rfl ?_ | refine jc_false rfl ?_))
    refine jo_v (pv_index tab_ok i rfl rfl rfl rfl rfl rfl (by omega)) rfl (jo_cons ?_)
    (refine j_nm rfl ?_; repeat (first | refine jo_cons ?_ | (refine jo_iso ?_; first | (refine jo_isbin ?_; first | refine jo_v (by first | exact pv_add rfl rfl (by omega) | exact pv_sub rfl rfl (by omega)) rfl ?_ | refine jo_pure tab_ok rfl rfl ?_ | refine jo_v (by first | exact pv_add64 rfl rfl | exact pv_ptr_eq tab_ok rfl rfl rfl | exact pv_ptr_ne tab_ok rfl rfl rfl | exact pv_if_eq tab_ok rfl rfl rfl (.inl rfl) | exact pv_if_eq tab_ok rfl rfl rfl (.inr ⟨_, _, rfl⟩) | exact pv_if_ne tab_ok rfl rfl rfl (.inl rfl) | exact pv_if_ne tab_ok rfl rfl rfl (.inr ⟨_, _, rfl⟩)) rfl ?_) | refine jo_pure tab_ok rfl rfl ?_ | refine jo_want rfl ?_ | refine jo_skip rfl rfl ?_ | refine jo_load tab_ok rfl rfl rfl (by first | ((repeat first | exact Rd.here rfl | refine Rd.there ?_); done) | assumption) rfl ?_) | refine jo_nil ?_ | refine jc_seq ?_ | refine jc_skip ?_ | refine jc_region ?_ | refine jc_block ?_ | refine jc_ret ?_ | refine jc_exit ?_ | refine jx_then ?_ | refine jx_then_exit ?_ | refine jx_then_ret ?_ | refine jx_block ?_ | refine jx_block_ret ?_ | refine jx_block_hit ?_ | refine jx_block_miss rfl ?_ | refine jc_true rfl ?_ | refine jc_false rfl ?_))
    refine jo_load tab_ok rfl rfl rfl (.there ((hr3 _).one (k := 2) rfl)) rfl ?_
    (refine j_nm rfl ?_; repeat (first | refine jo_cons ?_ | (refine jo_iso ?_; first | (refine jo_isbin ?_; first | refine jo_v (by first | exact pv_add rfl rfl (by omega) | exact pv_sub rfl rfl (by omega)) rfl ?_ | refine jo_pure tab_ok rfl rfl ?_ | refine jo_v (by first | exact pv_add64 rfl rfl | exact pv_ptr_eq tab_ok rfl rfl rfl | exact pv_ptr_ne tab_ok rfl rfl rfl | exact pv_if_eq tab_ok rfl rfl rfl (.inl rfl) | exact pv_if_eq tab_ok rfl rfl rfl (.inr ⟨_, _, rfl⟩) | exact pv_if_ne tab_ok rfl rfl rfl (.inl rfl) | exact pv_if_ne tab_ok rfl rfl rfl (.inr ⟨_, _, rfl⟩)) rfl ?_) | refine jo_pure tab_ok rfl rfl ?_ | refine jo_want rfl ?_ | refine jo_skip rfl rfl ?_ | refine jo_load tab_ok rfl rfl rfl (by first | ((repeat first | exact Rd.here rfl | refine Rd.there ?_); done) | assumption) rfl ?_) | refine jo_nil ?_ | refine jc_seq ?_ | refine jc_skip ?_ | refine jc_region ?_ | refine jc_block ?_ | refine jc_ret ?_ | refine jc_exit ?_ | refine jx_then ?_ | refine jx_then_exit ?_ | refine jx_then_ret ?_ | refine jx_block ?_ | refine jx_block_ret ?_ | refine jx_block_hit ?_ | refine jx_block_miss rfl ?_ | refine jc_true rfl ?_ | refine jc_false rfl ?_))
    refine jc_beq rfl (fun he => ?_) (fun he => ?_)
    · have he : y3 = a := he
      rw [if_pos he] at hsn
      (refine j_nm rfl ?_; repeat (first | refine jo_cons ?_ | (refine jo_iso ?_; first | (refine jo_isbin ?_; first | refine jo_v (by first | exact pv_add rfl rfl (by omega) | exact pv_sub rfl rfl (by omega)) rfl ?_ | refine jo_pure tab_ok rfl rfl ?_ | refine jo_v (by first | exact pv_add64 rfl rfl | exact pv_ptr_eq tab_ok rfl rfl rfl | exact pv_ptr_ne tab_ok rfl rfl rfl | exact pv_if_eq tab_ok rfl rfl rfl (.inl rfl) | exact pv_if_eq tab_ok rfl rfl rfl (.inr ⟨_, _, rfl⟩) | exact pv_if_ne tab_ok rfl rfl rfl (.inl rfl) | exact pv_if_ne tab_ok rfl rfl rfl (.inr ⟨_, _, rfl⟩)) rfl ?_) | refine jo_pure tab_ok rfl rfl ?_ | refine jo_want rfl ?_ | refine jo_skip rfl rfl ?_ | refine jo_load tab_ok rfl rfl rfl (by first | ((repeat first | exact Rd.here rfl | refine Rd.there ?_); done) | assumption) rfl ?_) | refine jo_nil ?_ | refine jc_seq ?_ | refine jc_skip ?_ | refine jc_region ?_ | refine jc_block ?_ | refine jc_ret ?_ | refine jc_exit ?_ | refine jx_then ?_ | refine jx_then_exit ?_ | refine jx_then_ret ?_ | refine jx_block ?_ | refine jx_block_ret ?_ | refine jx_block_hit ?_ | refine jx_block_miss rfl ?_ | refine jc_true rfl ?_ | refine jc_false rfl ?_))
      refine jo_v (pv_index tab_ok i rfl rfl rfl rfl rfl rfl (by omega)) rfl (jo_cons ?_)
      refine jo_load_agg tab_ok (vs := [I y1, I y2, I y3]) rfl rfl rfl rfl (.there (hr3 _)) rfl (jo_cons ?_)
      refine jo_buildSlice tab_ok (cs := [I y1, I y2, I y3]) rfl rfl rfl rfl rfl rfl (by first | (simp [Instr.fill]; done) | simp [Instr.fill, Value.cells]) rfl fun bA => ?_
      (refine j_nm rfl ?_; repeat (first | refine jo_cons ?_ | (refine jo_iso ?_; first | (refine jo_isbin ?_; first | refine jo_v (by first | exact pv_add rfl rfl (by omega) | exact pv_sub rfl rfl (by omega)) rfl ?_ | refine jo_pure tab_ok rfl rfl ?_ | refine jo_v (by first | exact pv_add64 rfl rfl | exact pv_ptr_eq tab_ok rfl rfl rfl | exact pv_ptr_ne tab_ok rfl rfl rfl | exact pv_if_eq tab_ok rfl rfl rfl (.inl rfl) | exact pv_if_eq tab_ok rfl rfl rfl (.inr ⟨_, _, rfl⟩) | exact pv_if_ne tab_ok rfl rfl rfl (.inl rfl) | exact pv_if_ne tab_ok rfl rfl rfl (.inr ⟨_, _, rfl⟩)) rfl ?_) | refine jo_pure tab_ok rfl rfl ?_ | refine jo_want rfl ?_ | refine jo_skip rfl rfl ?_ | refine jo_load tab_ok rfl rfl rfl (by first | ((repeat first | exact Rd.here rfl | refine Rd.there ?_); done) | assumption) rfl ?_) | refine jo_nil ?_ | refine jc_seq ?_ | refine jc_skip ?_ | refine jc_region ?_ | refine jc_block ?_ | refine jc_ret ?_ | refine jc_exit ?_ | refine jx_then ?_ | refine jx_then_exit ?_ | refine jx_then_ret ?_ | refine jx_block ?_ | refine jx_block_ret ?_ | refine jx_block_hit ?_ | refine jx_block_miss rfl ?_ | refine jc_true rfl ?_ | refine jc_false rfl ?_))
      refine jo_append tab_ok 1 [I y1, I y2, I y3] rfl rfl rfl rfl rfl rfl ⟨rfl, rfl⟩ rfl (.inr ⟨bA, 0, rfl, Rd.all⟩) (by simp [Hp.one]) (by intro len' hl'; rw [rcells_len] at hl'; have hl'' : (byR (xs.take i) a).length * 3 = len' * 3 := hl'; exact ⟨by show (len' + 1) * 24 ≤ _; omega, by simp only [maxLen]; omega⟩) rfl fun v' => ?_
      rw [rcells_snoc _ ((y1, y2), y3), ← hsn]
      (refine j_nm rfl ?_; repeat (first | refine jo_cons ?_ | (refine jo_iso ?_; first | (refine jo_isbin ?_; first | refine jo_v (by first | exact pv_add rfl rfl (by omega) | exact pv_sub rfl rfl (by omega)) rfl ?_ | refine jo_pure tab_ok rfl rfl ?_ | refine jo_v (by first | exact pv_add64 rfl rfl | exact pv_ptr_eq tab_ok rfl rfl rfl | exact pv_ptr_ne tab_ok rfl rfl rfl | exact pv_if_eq tab_ok rfl rfl rfl (.inl rfl) | exact pv_if_eq tab_ok rfl rfl rfl (.inr ⟨_, _, rfl⟩) | exact pv_if_ne tab_ok rfl rfl rfl (.inl rfl) | exact pv_if_ne tab_ok rfl rfl rfl (.inr ⟨_, _, rfl⟩)) rfl ?_) | refine jo_pure tab_ok rfl rfl ?_ | refine jo_want rfl ?_ | refine jo_skip rfl rfl ?_ | refine jo_load tab_ok rfl rfl rfl (by first | ((repeat first | exact Rd.here rfl | refine Rd.there ?_); done) | assumption) rfl ?_) | refine jo_nil ?_ | refine jc_seq ?_ | refine jc_skip ?_ | refine jc_region ?_ | refine jc_block ?_ | refine jc_ret ?_ | refine jc_exit ?_ | refine jx_then ?_ | refine jx_then_exit ?_ | refine jx_then_ret ?_ | refine jx_block ?_ | refine jx_block_ret ?_ | refine jx_block_hit ?_ | refine jx_block_miss rfl ?_ | refine jc_true rfl ?_ | refine jc_false rfl ?_))
      exact jx_round (i + 1, v') [0] [1] (by show i + 1 ≤ k; omega) (by show k - (i + 1) < k - i; omega) ⟨rfl, rfl, rfl, rfl, trivial⟩ rfl
    · have he : ¬ y3 = a := he
      rw [if_neg he, List.append_nil] at hsn
      rw [← hsn]
      (refine j_nm rfl ?_; repeat (first | refine jo_cons ?_ | (refine jo_iso ?_; first | (refine jo_isbin ?_; first | refine jo_v (by first | exact pv_add rfl rfl (by omega) | exact pv_sub rfl rfl (by omega)) rfl ?_ | refine jo_pure tab_ok rfl rfl ?_ | refine jo_v (by first | exact pv_add64 rfl rfl | exact pv_ptr_eq tab_ok rfl rfl rfl | exact pv_ptr_ne tab_ok rfl rfl rfl | exact pv_if_eq tab_ok rfl rfl rfl (.inl rfl) | exact pv_if_eq tab_ok rfl rfl rfl (.inr ⟨_, _, rfl⟩) | exact pv_if_ne tab_ok rfl rfl rfl (.inl rfl) | exact pv_if_ne tab_ok rfl rfl rfl (.inr ⟨_, _, rfl⟩)) rfl ?_) | refine jo_pure tab_ok rfl rfl ?_ | refine jo_want rfl ?_ | refine jo_skip rfl rfl ?_ | refine jo_load tab_ok rfl rfl rfl (by first | ((repeat first | exact Rd.here rfl | refine Rd.there ?_); done) | assumption) rfl ?_) | refine jo_nil ?_ | refine jc_seq ?_ | refine jc_skip ?_ | refine jc_region ?_ | refine jc_block ?_ | refine jc_ret ?_ | refine jc_exit ?_ | refine jx_then ?_ | refine jx_then_exit ?_ | refine jx_then_ret ?_ | refine jx_block ?_ | refine jx_block_ret ?_ | refine jx_block_hit ?_ | refine jx_block_miss rfl ?_ | refine jc_true rfl ?_ | refine jc_false rfl ?_))
      exact jx_round (i + 1, ov) [] [] (by show i + 1 ≤ k; omega) (by show k - (i + 1) < k - i; omega) ⟨rfl, rfl, rfl, rfl, trivial⟩ rfl
  · have hik : i = k := by have h' : ¬ (i : Int) < k := h; omega
    rw [List.take_of_length_le (by omega)]
    (refine j_nm rfl ?_; repeat (first | refine jo_cons ?_ | (refine jo_iso ?_; first | (refine jo_isbin ?_; first | refine jo_v (by first | exact pv_add rfl rfl (by omega) | exact pv_sub rfl rfl (by omega)) rfl ?_ | refine jo_pure tab_ok rfl rfl ?_ | refine jo_v (by first | exact pv_add64 rfl rfl | exact pv_ptr_eq tab_ok rfl rfl rfl | exact pv_ptr_ne tab_ok rfl rfl rfl | exact pv_if_eq tab_ok rfl rfl rfl (.inl rfl) | exact pv_if_eq tab_ok rfl rfl rfl (.inr ⟨_, _, rfl⟩) | exact pv_if_ne tab_ok rfl rfl rfl (.inl rfl) | exact pv_if_ne tab_ok rfl rfl rfl (.inr ⟨_, _, rfl⟩)) rfl ?_) | refine jo_pure tab_ok rfl rfl ?_ | refine jo_want rfl ?_ | refine jo_skip rfl rfl ?_ | refine jo_load tab_ok rfl rfl rfl (by first | ((repeat first | exact Rd.here rfl | refine Rd.there ?_); done) | assumption) rfl ?_) | refine jo_nil ?_ | refine jc_seq ?_ | refine jc_skip ?_ | refine jc_region ?_ | refine jc_block ?_ | refine jc_ret ?_ | refine jc_exit ?_ | refine jx_then ?_ | refine jx_then_exit ?_ | refine jx_then_ret ?_ | refine jx_block ?_ | refine jx_block_ret ?_ | refine jx_block_hit ?_ | refine jx_block_miss rfl ?_ | refine jc_true rfl ?_ | refine jc_false rfl ?_))
    exact j_ret [0, 0] [] rfl rfl ⟨rfl, rfl⟩
theorem enc_at : ∀ (l : List Two) (k : Nat) (hk : k < l.length), (l.flatMap encC)[k * 2]? = some (I l[k].1) ∧ (l.flatMap encC)[k * 2 + 1]? = some (I l[k].2)
  | [], _, hk => by simp at hk
  | x :: xs, 0, _ => ⟨rfl, rfl⟩
  | x :: xs, k + 1, hk => by
    have hk' : k < xs.length := by simpa using hk
    have h1 := enc_at xs k hk'
    have e1 : (k + 1) * 2 = k * 2 + 2 := by omega
    have e2 : (x :: xs).flatMap encC = I x.1 :: I x.2 :: xs.flatMap encC := rfl
    rw [e1, e2]
    exact h1
set_option maxHeartbeats 4000000 in
theorem owners_tri {A C : Assn} {v u : Value} {S : List Two} {m : List Own} (hS : Ro A 2 v (S.flatMap encC)) (hm : Ro C 3 u (rcells m)) (he : S = m.map (·.1)) : Tri Try.prog 38 [v, u] [A, C] fun w B => w = .bool true ∧ B = [A, C] := by
  obtain ⟨b1, k, c1, rfl, hl1, hm1, hor1⟩ := hS
  obtain ⟨b2, k2, c2, rfl, hl2, hm2, hor2⟩ := hm
  rw [encC_len] at hl1
  rw [rcells_len] at hl2
  have hk : S.length = k := by
    have hl1 : S.length * 2 = k * 2 := hl1
    omega
  have hlm : S.length = m.length := by rw [he, List.length_map]
  have hk2 : k2 = k := by omega
  subst hk2
  simp only [maxLen] at hm1
  refine tri_introX Try.func38 rfl Try.ntmps38 rfl fun E X => ?_
  (refine j_nm rfl ?_; repeat (first | refine jo_cons ?_ | (refine jo_iso ?_; first | (refine jo_isbin ?_; first | refine jo_v (by first | exact pv_add rfl rfl (by omega) | exact pv_sub rfl rfl (by omega)) rfl ?_ | refine jo_pure tab_ok rfl rfl ?_ | refine jo_v (by first | exact pv_add64 rfl rfl | exact pv_ptr_eq tab_ok rfl rfl rfl | exact pv_ptr_ne tab_ok rfl rfl rfl | exact pv_if_eq tab_ok rfl rfl rfl (.inl rfl) | exact pv_if_eq tab_ok rfl rfl rfl (.inr ⟨_, _, rfl⟩) | exact pv_if_ne tab_ok rfl rfl rfl (.inl rfl) | exact pv_if_ne tab_ok rfl rfl rfl (.inr ⟨_, _, rfl⟩)) rfl ?_) | refine jo_pure tab_ok rfl rfl ?_ | refine jo_want rfl ?_ | refine jo_skip rfl rfl ?_ | refine jo_load tab_ok rfl rfl rfl (by first | ((repeat first | exact Rd.here rfl | refine Rd.there ?_); done) | assumption) rfl ?_) | refine jo_nil ?_ | refine jc_seq ?_ | refine jc_skip ?_ | refine jc_region ?_ | refine jc_block ?_ | refine jc_ret ?_ | refine jc_exit ?_ | refine jx_then ?_ | refine jx_then_exit ?_ | refine jx_then_ret ?_ | refine jx_block ?_ | refine jx_block_ret ?_ | refine jx_block_hit ?_ | refine jx_block_miss rfl ?_ | refine jc_true rfl ?_ | refine jc_false rfl ?_))
  refine jc_bne rfl (fun h => absurd rfl h) (fun _ => ?_)
  (refine j_nm rfl ?_; repeat (first | refine jo_cons ?_ | (refine jo_iso ?_; first | (refine jo_isbin ?_; first | refine jo_v (by first | exact pv_add rfl rfl (by omega) | exact pv_sub rfl rfl (by omega)) rfl ?_ | refine jo_pure tab_ok rfl rfl ?_ | refine jo_v (by first | exact pv_add64 rfl rfl | exact pv_ptr_eq tab_ok rfl rfl rfl | exact pv_ptr_ne tab_ok rfl rfl rfl | exact pv_if_eq tab_ok rfl rfl rfl (.inl rfl) | exact pv_if_eq tab_ok rfl rfl rfl (.inr ⟨_, _, rfl⟩) | exact pv_if_ne tab_ok rfl rfl rfl (.inl rfl) | exact pv_if_ne tab_ok rfl rfl rfl (.inr ⟨_, _, rfl⟩)) rfl ?_) | refine jo_pure tab_ok rfl rfl ?_ | refine jo_want rfl ?_ | refine jo_skip rfl rfl ?_ | refine jo_load tab_ok rfl rfl rfl (by first | ((repeat first | exact Rd.here rfl | refine Rd.there ?_); done) | assumption) rfl ?_) | refine jo_nil ?_ | refine jc_seq ?_ | refine jc_skip ?_ | refine jc_region ?_ | refine jc_block ?_ | refine jc_ret ?_ | refine jc_exit ?_ | refine jx_then ?_ | refine jx_then_exit ?_ | refine jx_then_ret ?_ | refine jx_block ?_ | refine jx_block_ret ?_ | refine jx_block_hit ?_ | refine jx_block_miss rfl ?_ | refine jc_true rfl ?_ | refine jc_false rfl ?_))
  refine jc_loop (ι := Nat) (fun i => [(13, I i), (12, I k2), (0, .slice b1 k2 c1), (1, .slice b2 k2 c2)]) (fun _ => [A, C, X]) (fun i => i ≤ k2) (fun i => k2 - i) 0 [] [] (Nat.zero_le _) ⟨rfl, rfl, rfl, rfl, trivial⟩ rfl ?_
  intro i hi
  (refine j_nm rfl ?_; repeat (first | refine jo_cons ?_ | (refine jo_iso ?_; first | (refine jo_isbin ?_; first | refine jo_v (by first | exact pv_add rfl rfl (by omega) | exact pv_sub rfl rfl (by omega)) rfl ?_ | refine jo_pure tab_ok rfl rfl ?_ | refine jo_v (by first | exact pv_add64 rfl rfl | exact pv_ptr_eq tab_ok rfl rfl rfl | exact pv_ptr_ne tab_ok rfl rfl rfl | exact pv_if_eq tab_ok rfl rfl rfl (.inl rfl) | exact pv_if_eq tab_ok rfl rfl rfl (.inr ⟨_, _, rfl⟩) | exact pv_if_ne tab_ok rfl rfl rfl (.inl rfl) | exact pv_if_ne tab_ok rfl rfl rfl (.inr ⟨_, _, rfl⟩)) rfl ?_) | refine jo_pure tab_ok rfl rfl ?_ | refine jo_want rfl ?_ | refine jo_skip rfl rfl ?_ | refine jo_load tab_ok rfl rfl rfl (by first | ((repeat first | exact Rd.here rfl | refine Rd.there ?_); done) | assumption) rfl ?_) | refine jo_nil ?_ | refine jc_seq ?_ | refine jc_skip ?_ | refine jc_region ?_ | refine jc_block ?_ | refine jc_ret ?_ | refine jc_exit ?_ | refine jx_then ?_ | refine jx_then_exit ?_ | refine jx_then_ret ?_ | refine jx_block ?_ | refine jx_block_ret ?_ | refine jx_block_hit ?_ | refine jx_block_miss rfl ?_ | refine jc_true rfl ?_ | refine jc_false rfl ?_))
  refine jc_dec rfl (fun h => ?_) (fun h => ?_)
  · have hlt : i < k2 := by have h' : (i : Int) < k2 := h; omega
    obtain ⟨p1, o1, rfl, ro1⟩ := hor1.resolve_left (by omega)
    obtain ⟨p2, o2, rfl, ro2⟩ := hor2.resolve_left (by omega)
    have hiS : i < S.length := by omega
    have him : i < m.length := by omega
    have hr3 := fun L => rcells_rd3 (ro2 L) him
    obtain ⟨d1, d2⟩ := enc_at S i hiS
    have hey : S[i] = m[i].1 := by simp only [he, List.getElem_map]
    rw [hey] at d1 d2
    generalize m[i] = y at d1 d2 hr3
    obtain ⟨⟨y1, y2⟩, y3⟩ := y
    have d1 : (S.flatMap encC)[i * 2]? = some (I y1) := d1
    have d2 : (S.flatMap encC)[i * 2 + 1]? = some (I y2) := d2
    (refine j_nm rfl ?_; repeat (first | refine jo_cons ?_ | (refine jo_iso ?_; first | (refine jo_isbin ?_; first | refine jo_v (by first | exact pv_add rfl rfl (by omega) | exact pv_sub rfl rfl (by omega)) rfl ?_ | refine jo_pure tab_ok rfl rfl ?_ | refine jo_v (by first | exact pv_add64 rfl rfl | exact pv_ptr_eq tab_ok rfl rfl rfl | exact pv_ptr_ne tab_ok rfl rfl rfl | exact pv_if_eq tab_ok rfl rfl rfl (.inl rfl) | exact pv_if_eq tab_ok rfl rfl rfl (.inr ⟨_, _, rfl⟩) | exact pv_if_ne tab_ok rfl rfl rfl (.inl rfl) | exact pv_if_ne tab_ok rfl rfl rfl (.inr ⟨_, _, rfl⟩)) rfl ?_) | refine jo_pure tab_ok rfl rfl ?_ | refine jo_want rfl ?_ | refine jo_skip rfl rfl ?_ | refine jo_load tab_ok rfl rfl rfl (by first | ((repeat first | exact Rd.here rfl | refine Rd.there ?_); done) | assumption) rfl ?_) | refine jo_nil ?_ | refine jc_seq ?_ | refine jc_skip ?_ | refine jc_region ?_ | refine jc_block ?_ | refine jc_ret ?_ | refine jc_exit ?_ | refine jx_then ?_ | refine jx_then_exit ?_ | refine jx_then_ret ?_ | refine jx_block ?_ | refine jx_block_ret ?_ | refine jx_block_hit ?_ | refine jx_block_miss rfl ?_ | refine jc_true rfl ?_ | refine jc_false rfl ?_))
    refine jc_drawh 99 [(p1, o1 + i * 2, I y1), (p1, o1 + (i * 2 + 1), I y2), (p2, o2 + i * 3, I y1), (p2, o2 + i * 3 + 1, I y2)] mo (.cons ((ro1 _).one d1) (.cons ((ro1 _).one d2) (.cons (.there ((hr3 _).one (k := 0) rfl)) (.cons (.there ((hr3 _).one (k := 1) rfl)) .nil)))) fun hrd => ?_
    refine jh_pure tab_ok 0 rfl (by kernel_rfl) rfl rfl hrd ?_
    refine jh_pure tab_ok 1 rfl (by kernel_rfl) rfl rfl hrd ?_
    refine jh_s 2 rfl (by kernel_rfl) ((pv_index tab_ok i rfl rfl rfl rfl rfl rfl (by omega)).ps) rfl hrd ?_
    refine jh_pure tab_ok 3 rfl (by kernel_rfl) rfl rfl hrd ?_
    refine jh_s 4 rfl (by kernel_rfl) (ps_load tab_ok 0 rfl rfl rfl rfl) rfl hrd ?_
    refine jh_pure tab_ok 5 rfl (by kernel_rfl) rfl rfl hrd ?_
    refine jh_one 6 rfl (by kernel_rfl) (jo_pure tab_ok rfl rfl (jh_back hrd fun hrd => ?_))
    refine jh_s 7 rfl (by kernel_rfl) ((pv_index tab_ok i rfl rfl rfl rfl rfl rfl (by omega)).ps) rfl hrd ?_
    refine jh_one 8 rfl (by kernel_rfl) (jo_pure tab_ok rfl rfl (jh_back hrd fun hrd => ?_))
    refine jh_s 9 rfl (by kernel_rfl) (ps_load tab_ok 2 rfl rfl rfl rfl) rfl hrd ?_
    refine jh_s 10 rfl (by kernel_rfl) ((pv_neql_f rfl rfl rfl).ps) rfl hrd ?_
    refine jh_one 11 rfl (by kernel_rfl) (jo_pure tab_ok rfl rfl (jh_back hrd fun hrd => ?_))
    refine jh_pureg tab_ok 12 rfl (by kernel_rfl) rfl rfl rfl hrd ?_
    refine jh_pureg tab_ok 13 rfl (by kernel_rfl) rfl rfl rfl hrd ?_
    refine jh_sg 14 rfl (by kernel_rfl) rfl ((pv_index tab_ok i rfl rfl rfl rfl rfl rfl (by omega)).ps) rfl hrd ?_
    refine jh_pureg tab_ok 15 rfl (by kernel_rfl) rfl rfl rfl hrd ?_
    refine jh_sg 16 rfl (by kernel_rfl) rfl (ps_load tab_ok 1 rfl rfl rfl rfl) rfl hrd ?_
    refine jh_pureg tab_ok 17 rfl (by kernel_rfl) rfl rfl rfl hrd ?_
    refine jh_pureg tab_ok 18 rfl (by kernel_rfl) rfl rfl rfl hrd ?_
    refine jh_sg 19 rfl (by kernel_rfl) rfl ((pv_index tab_ok i rfl rfl rfl rfl rfl rfl (by omega)).ps) rfl hrd ?_
    refine jh_pureg tab_ok 20 rfl (by kernel_rfl) rfl rfl rfl hrd ?_
    refine jh_sg 21 rfl (by kernel_rfl) rfl (ps_load tab_ok 3 rfl rfl rfl rfl) rfl hrd ?_
    refine jh_sg 22 rfl (by kernel_rfl) rfl ((pv_neql_f rfl rfl rfl).ps) rfl hrd ?_
    refine jh_one 23 rfl (by kernel_rfl) (jo_pure tab_ok rfl rfl (jh_back hrd fun hrd => ?_))
    refine jh_done (by kernel_rfl) ?_
    (refine j_nm rfl ?_; repeat (first | refine jo_cons ?_ | (refine jo_iso ?_; first | (refine jo_isbin ?_; first | refine jo_v (by first | exact pv_add rfl rfl (by omega) | exact pv_sub rfl rfl (by omega)) rfl ?_ | refine jo_pure tab_ok rfl rfl ?_ | refine jo_v (by first | exact pv_add64 rfl rfl | exact pv_ptr_eq tab_ok rfl rfl rfl | exact pv_ptr_ne tab_ok rfl rfl rfl | exact pv_if_eq tab_ok rfl rfl rfl (.inl rfl) | exact pv_if_eq tab_ok rfl rfl rfl (.inr ⟨_, _, rfl⟩) | exact pv_if_ne tab_ok rfl rfl rfl (.inl rfl) | exact pv_if_ne tab_ok rfl rfl rfl (.inr ⟨_, _, rfl⟩)) rfl ?_) | refine jo_pure tab_ok rfl rfl ?_ | refine jo_want rfl ?_ | refine jo_skip rfl rfl ?_ | refine jo_load tab_ok rfl rfl rfl (by first | ((repeat first | exact Rd.here rfl | refine Rd.there ?_); done) | assumption) rfl ?_) | refine jo_nil ?_ | refine jc_seq ?_ | refine jc_skip ?_ | refine jc_region ?_ | refine jc_block ?_ | refine jc_ret ?_ | refine jc_exit ?_ | refine jx_then ?_ | refine jx_then_exit ?_ | refine jx_then_ret ?_ | refine jx_block ?_ | refine jx_block_ret ?_ | refine jx_block_hit ?_ | refine jx_block_miss rfl ?_ | refine jc_true rfl ?_ | refine jc_false rfl ?_))
    exact jx_round (i + 1) [] [] (by show i + 1 ≤ k2; omega) (by show k2 - (i + 1) < k2 - i; omega) ⟨rfl, rfl, rfl, rfl, trivial⟩ rfl
  · (refine j_nm rfl ?_; repeat (first | refine jo_cons ?_ | (refine jo_iso ?_; first | (refine jo_isbin ?_; first | refine jo_v (by first | exact pv_add rfl rfl (by omega) | exact pv_sub rfl rfl (by omega)) rfl ?_ | refine jo_pure tab_ok rfl rfl ?_ | refine jo_v (by first | exact pv_add64 rfl rfl | exact pv_ptr_eq tab_ok rfl rfl rfl | exact pv_ptr_ne tab_ok rfl rfl rfl | exact pv_if_eq tab_ok rfl rfl rfl (.inl rfl) | exact pv_if_eq tab_ok rfl rfl rfl (.inr ⟨_, _, rfl⟩) | exact pv_if_ne tab_ok rfl rfl rfl (.inl rfl) | exact pv_if_ne tab_ok rfl rfl rfl (.inr ⟨_, _, rfl⟩)) rfl ?_) | refine jo_pure tab_ok rfl rfl ?_ | refine jo_want rfl ?_ | refine jo_skip rfl rfl ?_ | refine jo_load tab_ok rfl rfl rfl (by first | ((repeat first | exact Rd.here rfl | refine Rd.there ?_); done) | assumption) rfl ?_) | refine jo_nil ?_ | refine jc_seq ?_ | refine jc_skip ?_ | refine jc_region ?_ | refine jc_block ?_ | refine jc_ret ?_ | refine jc_exit ?_ | refine jx_then ?_ | refine jx_then_exit ?_ | refine jx_then_ret ?_ | refine jx_block ?_ | refine jx_block_ret ?_ | refine jx_block_hit ?_ | refine jx_block_miss rfl ?_ | refine jc_true rfl ?_ | refine jc_false rfl ?_))
    exact j_ret [0, 0] [] rfl ⟨rfl, rfl⟩ ⟨rfl, rfl⟩
/-- the addresses of the first ones, rising -/
structure Rise (l : List Own) (i : Nat) (out : List Int) : Prop where
  srt : out.Pairwise fun x y => x < y
  mem : ∀ b, b ∈ out ↔ ∃ x ∈ l.take i, x.2 = b
  len : out.length ≤ i
theorem rise_in {l : List Own} {i : Nat} {out : List Int} (h : Rise l i out) (hi : i < l.length) (ha : l[i].2 ∈ out) : Rise l (i + 1) out := by
  refine ⟨h.srt, fun b => ?_, by have := h.len; omega⟩
  rw [List.take_succ_eq_append_getElem hi, h.mem b]
  constructor
  · rintro ⟨x, hx, e⟩
    exact ⟨x, List.mem_append_left _ hx, e⟩
  · rintro ⟨x, hx, e⟩
    rcases List.mem_append.1 hx with hx | hx
    · exact ⟨x, hx, e⟩
    · rw [List.mem_singleton] at hx
      subst hx
      rw [← e]
      exact (h.mem _).1 ha
theorem rise_new {l : List Own} {i j : Nat} {out : List Int} (h : Rise l i out) (hi : i < l.length) (h1 : ∀ (k : Nat) (hk : k < out.length), k < j → out[k] < l[i].2) (h2 : ∀ (hj : j < out.length), l[i].2 < out[j]) : Rise l (i + 1) (out.take j ++ [l[i].2] ++ out.drop j) := by
  refine ⟨?_, fun b => ?_, ?_⟩
  · rw [List.pairwise_append, List.pairwise_append]
    refine ⟨⟨h.srt.sublist (List.take_sublist ..), List.pairwise_singleton _ _, fun x hx y hy => ?_⟩, h.srt.sublist (List.drop_sublist ..), fun x hx y hy => ?_⟩
    · rw [List.mem_singleton] at hy
      subst hy
      obtain ⟨k, hk, rfl⟩ := List.getElem_of_mem hx
      rw [List.length_take] at hk
      rw [List.getElem_take]
      exact h1 k (by omega) (by omega)
    · obtain ⟨k, hk, rfl⟩ := List.getElem_of_mem hy
      rw [List.length_drop] at hk
      rw [List.getElem_drop]
      have hj : j < out.length := by omega
      have hge : out[j] ≤ out[j + k] := by
        by_cases h0 : k = 0
        · subst h0
          exact Int.le_refl _
        · exact Int.le_of_lt (List.pairwise_iff_getElem.1 h.srt j (j + k) hj (by omega) (by omega))
      have h3 := h2 hj
      rcases List.mem_append.1 hx with hx | hx
      · obtain ⟨k', hk', rfl⟩ := List.getElem_of_mem hx
        rw [List.length_take] at hk'
        rw [List.getElem_take]
        have := h1 k' (by omega) (by omega)
        omega
      · rw [List.mem_singleton] at hx
        omega
  · rw [List.take_succ_eq_append_getElem hi]
    have e : b ∈ out.take j ++ [l[i].2] ++ out.drop j ↔ b ∈ out ∨ b = l[i].2 := by
      rw [List.mem_append, List.mem_append, List.mem_singleton]
      have := List.take_append_drop j out
      have e2 : b ∈ out ↔ b ∈ out.take j ∨ b ∈ out.drop j := by rw [← List.mem_append, this]
      rw [e2]
      constructor
      · rintro ((h | h) | h)
        · exact .inl (.inl h)
        · exact .inr h
        · exact .inl (.inr h)
      · rintro ((h | h) | h)
        · exact .inl (.inl h)
        · exact .inr h
        · exact .inl (.inr h)
    rw [e, h.mem b]
    constructor
    · rintro (⟨x, hx, e⟩ | e)
      · exact ⟨x, List.mem_append_left _ hx, e⟩
      · exact ⟨l[i], List.mem_append_right _ (by simp), e.symm⟩
    · rintro ⟨x, hx, e⟩
      rcases List.mem_append.1 hx with hx | hx
      · exact .inl ⟨x, hx, e⟩
      · rw [List.mem_singleton] at hx
        subst hx
        exact .inr e.symm
  · have := h.len
    rw [List.length_append, List.length_append, List.length_take, List.length_drop]
    simp only [List.length_cons, List.length_nil]
    omega
abbrev OA (A : Assn) (xs : List Own) : Value → List Assn → Prop := fun u B => ∃ out, Rise xs xs.length out ∧ B = [sl 3 1 u (out.map I), A]
abbrev QA (E : World) (A : Assn) (xs : List Own) (F : List Assn) : Exit → Act → World → Prop := bodyPost Try.prog Try.f36 (ends E (OA A xs) F)
abbrev IA (v : Value) (x : Nat × Value × List Int) : Fr := [(4, I x.1), (0, v), (3, x.2.1)]
abbrev AA (A X : Assn) (x : Nat × Value × List Int) : List Assn := [sl 3 1 x.2.1 (x.2.2.map I), A, X]
abbrev RA (E : World) (A X : Assn) (xs : List Own) (v : Value) (k kk : Nat) : Act → World → Prop := Rnd E 66 (IA v) (AA A X) (fun x => x.1 ≤ k ∧ Rise xs x.1 x.2.2) (fun x => k - x.1) kk
set_option maxHeartbeats 8000000 in
theorem a8 {A : Assn} (E : World) (X : Assn) {b' : Option Addr} {k c' kk i j : Nat} {ob : Option Addr} {on oc : Nat} {xs : List Own} {out : List Int} (hx : xs.length ≤ 1000) (hk : xs.length = k) (hi : i < xs.length) (hkk : k - (i + 1) < kk)
    (hor : k = 0 ∨ ∃ b o, b' = some ⟨b, o, none⟩ ∧ ∀ L, Rd (A :: L) b o (rcells xs)) (hr : Rise xs i out) (hj : j ≤ on)
    (hjl : ∀ (k : Nat) (hk : k < out.length), k < j → out[k] < xs[i].2) (hjg : ∀ (hj : j < out.length), ¬ out[j] < xs[i].2) :
    J E (here Try.prog [.r, .r, .l, .r, .b, .body (RA E A X xs (.slice b' k c') k kk), .r, .l, .b, .r, .r] Try.f36 (QA E A xs [X])) 66 [(0, .slice b' k c'), (3, .slice ob on oc), (4, I i), (5, I j)] [sl 3 1 (.slice ob on oc) (out.map I), A, X] := by
  obtain ⟨mp, mo_, rfl, ro⟩ := hor.resolve_left (by omega)
  have hr3 := fun L => rcells_rd3 (ro L) hi
  have hin := fun ha => rise_in hr hi ha
  have hnew := fun h2 => @rise_new xs i j out hr hi hjl h2
  have hrl := hr.len
  refine j_here rfl ?_
  refine j_sl_ro fun hro => ?_
  refine j_sl_cap fun hcap => ?_
  have hro2 := hro
  obtain ⟨_, _, _, e, hol, hom, hoo⟩ := hro2
  cases e
  simp only [List.length_map, Nat.mul_one] at hol
  have hne : j = on → True := fun _ => trivial
  -- what comes behind the test
  generalize xs[i] = y at hr3 hin hnew hjl hjg
  obtain ⟨⟨y1, y2⟩, y3⟩ := y
  simp only at hin hnew hjl hjg
  have hrt := hro.to (k := j) (by omega)
  have hrf := hro.from (k := j) (by omega) hcap
  obtain ⟨_, _, _, e2, k1, _, k3⟩ := hrt
  cases e2
  obtain ⟨_, _, _, e1, g1, _, g3⟩ := hrf
  cases e1
  have hone : ∀ u ∈ out.map I, Hp.one u = true := mem_one fun _ => rfl
  by_cases hjn : j = on
  · have hfin := hnew (fun hj' => by omega)
    (refine j_nm rfl ?_; repeat (first | refine jo_cons ?_ | (refine jo_iso ?_; first | (refine jo_isbin ?_; first | refine jo_v (by first | exact pv_add rfl rfl (by omega) | exact pv_sub rfl rfl (by omega)) rfl ?_ | refine jo_pure tab_ok rfl rfl ?_ | refine jo_v (by first | exact pv_add64 rfl rfl | exact pv_ptr_eq tab_ok rfl rfl rfl | exact pv_ptr_ne tab_ok rfl rfl rfl | exact pv_if_eq tab_ok rfl rfl rfl (.inl rfl) | exact pv_if_eq tab_ok rfl rfl rfl (.inr ⟨_, _, rfl⟩) | exact pv_if_ne tab_ok rfl rfl rfl (.inl rfl) | exact pv_if_ne tab_ok rfl rfl rfl (.inr ⟨_, _, rfl⟩)) rfl ?_) | refine jo_pure tab_ok rfl rfl ?_ | refine jo_want rfl ?_ | refine jo_skip rfl rfl ?_ | refine jo_load tab_ok rfl rfl rfl (by first | ((repeat first | exact Rd.here rfl | refine Rd.there ?_); done) | assumption) rfl ?_) | refine jo_nil ?_ | refine jc_seq ?_ | refine jc_skip ?_ | refine jc_region ?_ | refine jc_block ?_ | refine jc_ret ?_ | refine jc_exit ?_ | refine jx_then ?_ | refine jx_then_exit ?_ | refine jx_then_ret ?_ | refine jx_block ?_ | refine jx_block_ret ?_ | refine jx_block_hit ?_ | refine jx_block_miss rfl ?_ | refine jc_true rfl ?_ | refine jc_false rfl ?_))
    refine jc_drawh 99 [] mo .nil fun hrd => ?_
    refine jh_pure tab_ok 0 rfl (by kernel_rfl) rfl rfl hrd ?_
    refine jh_one 1 rfl (by kernel_rfl) (jo_pure tab_ok rfl rfl (jh_back hrd fun hrd => ?_))
    refine jh_one 2 rfl (by kernel_rfl) (jo_pure tab_ok rfl rfl (jh_back hrd fun hrd => ?_))
    refine jh_s 3 rfl (by kernel_rfl) ((pv_eql_t rfl rfl (by omega)).ps) rfl hrd ?_
    refine jh_one 4 rfl (by kernel_rfl) (jo_pure tab_ok rfl rfl (jh_back hrd fun hrd => ?_))
    refine jh_skip 5 rfl (by kernel_rfl) rfl rfl hrd ?_
    refine jh_skip 6 rfl (by kernel_rfl) rfl rfl hrd ?_
    refine jh_skip 7 rfl (by kernel_rfl) rfl rfl hrd ?_
    refine jh_skip 8 rfl (by kernel_rfl) rfl rfl hrd ?_
    refine jh_skip 9 rfl (by kernel_rfl) rfl rfl hrd ?_
    refine jh_skip 10 rfl (by kernel_rfl) rfl rfl hrd ?_
    refine jh_skip 11 rfl (by kernel_rfl) rfl rfl hrd ?_
    refine jh_skip 12 rfl (by kernel_rfl) rfl rfl hrd ?_
    refine jh_skip 13 rfl (by kernel_rfl) rfl rfl hrd ?_
    refine jh_skip 14 rfl (by kernel_rfl) rfl rfl hrd ?_
    refine jh_one 15 rfl (by kernel_rfl) (jo_pure tab_ok rfl rfl (jh_back hrd fun hrd => ?_))
    refine jh_done (by kernel_rfl) ?_
    (refine j_nm rfl ?_; repeat (first | refine jo_cons ?_ | (refine jo_iso ?_; first | (refine jo_isbin ?_; first | refine jo_v (by first | exact pv_add rfl rfl (by omega) | exact pv_sub rfl rfl (by omega)) rfl ?_ | refine jo_pure tab_ok rfl rfl ?_ | refine jo_v (by first | exact pv_add64 rfl rfl | exact pv_ptr_eq tab_ok rfl rfl rfl | exact pv_ptr_ne tab_ok rfl rfl rfl | exact pv_if_eq tab_ok rfl rfl rfl (.inl rfl) | exact pv_if_eq tab_ok rfl rfl rfl (.inr ⟨_, _, rfl⟩) | exact pv_if_ne tab_ok rfl rfl rfl (.inl rfl) | exact pv_if_ne tab_ok rfl rfl rfl (.inr ⟨_, _, rfl⟩)) rfl ?_) | refine jo_pure tab_ok rfl rfl ?_ | refine jo_want rfl ?_ | refine jo_skip rfl rfl ?_ | refine jo_load tab_ok rfl rfl rfl (by first | ((repeat first | exact Rd.here rfl | refine Rd.there ?_); done) | assumption) rfl ?_) | refine jo_nil ?_ | refine jc_seq ?_ | refine jc_skip ?_ | refine jc_region ?_ | refine jc_block ?_ | refine jc_ret ?_ | refine jc_exit ?_ | refine jx_then ?_ | refine jx_then_exit ?_ | refine jx_then_ret ?_ | refine jx_block ?_ | refine jx_block_ret ?_ | refine jx_block_hit ?_ | refine jx_block_miss rfl ?_ | refine jc_true rfl ?_ | refine jc_false rfl ?_))
    refine jo_v (pv_slice_to tab_ok j rfl rfl rfl rfl rfl rfl (by omega)) rfl (jo_cons ?_)
    refine j_close [] rfl (fun m _ => (sl_nil (t := 3) (size := 1) m)) ?_
    refine j_nm rfl ?_
    refine jo_append tab_ok 0 ((out.map I).take (j * 1)) rfl rfl rfl rfl rfl rfl ⟨rfl, rfl⟩ k1 (k3.imp id fun ⟨b, o, h1, h2⟩ => ⟨b, o, h1, Rd.there (h2 _)⟩) (fun u hu => hone u (List.mem_of_mem_take hu)) (by intro len' hl'; simp only [List.length_nil] at hl'; exact ⟨by show (len' + j) * 8 ≤ _; omega, by simp only [maxLen]; omega⟩) rfl fun v2 => ?_
    (refine j_nm rfl ?_; repeat (first | refine jo_cons ?_ | (refine jo_iso ?_; first | (refine jo_isbin ?_; first | refine jo_v (by first | exact pv_add rfl rfl (by omega) | exact pv_sub rfl rfl (by omega)) rfl ?_ | refine jo_pure tab_ok rfl rfl ?_ | refine jo_v (by first | exact pv_add64 rfl rfl | exact pv_ptr_eq tab_ok rfl rfl rfl | exact pv_ptr_ne tab_ok rfl rfl rfl | exact pv_if_eq tab_ok rfl rfl rfl (.inl rfl) | exact pv_if_eq tab_ok rfl rfl rfl (.inr ⟨_, _, rfl⟩) | exact pv_if_ne tab_ok rfl rfl rfl (.inl rfl) | exact pv_if_ne tab_ok rfl rfl rfl (.inr ⟨_, _, rfl⟩)) rfl ?_) | refine jo_pure tab_ok rfl rfl ?_ | refine jo_want rfl ?_ | refine jo_skip rfl rfl ?_ | refine jo_load tab_ok rfl rfl rfl (by first | ((repeat first | exact Rd.here rfl | refine Rd.there ?_); done) | assumption) rfl ?_) | refine jo_nil ?_ | refine jc_seq ?_ | refine jc_skip ?_ | refine jc_region ?_ | refine jc_block ?_ | refine jc_ret ?_ | refine jc_exit ?_ | refine jx_then ?_ | refine jx_then_exit ?_ | refine jx_then_ret ?_ | refine jx_block ?_ | refine jx_block_ret ?_ | refine jx_block_hit ?_ | refine jx_block_miss rfl ?_ | refine jc_true rfl ?_ | refine jc_false rfl ?_))
    refine jo_v (pv_index tab_ok i rfl rfl rfl rfl rfl rfl (by omega)) rfl (jo_cons ?_)
    (refine j_nm rfl ?_; repeat (first | refine jo_cons ?_ | (refine jo_iso ?_; first | (refine jo_isbin ?_; first | refine jo_v (by first | exact pv_add rfl rfl (by omega) | exact pv_sub rfl rfl (by omega)) rfl ?_ | refine jo_pure tab_ok rfl rfl ?_ | refine jo_v (by first | exact pv_add64 rfl rfl | exact pv_ptr_eq tab_ok rfl rfl rfl | exact pv_ptr_ne tab_ok rfl rfl rfl | exact pv_if_eq tab_ok rfl rfl rfl (.inl rfl) | exact pv_if_eq tab_ok rfl rfl rfl (.inr ⟨_, _, rfl⟩) | exact pv_if_ne tab_ok rfl rfl rfl (.inl rfl) | exact pv_if_ne tab_ok rfl rfl rfl (.inr ⟨_, _, rfl⟩)) rfl ?_) | refine jo_pure tab_ok rfl rfl ?_ | refine jo_want rfl ?_ | refine jo_skip rfl rfl ?_ | refine jo_load tab_ok rfl rfl rfl (by first | ((repeat first | exact Rd.here rfl | refine Rd.there ?_); done) | assumption) rfl ?_) | refine jo_nil ?_ | refine jc_seq ?_ | refine jc_skip ?_ | refine jc_region ?_ | refine jc_block ?_ | refine jc_ret ?_ | refine jc_exit ?_ | refine jx_then ?_ | refine jx_then_exit ?_ | refine jx_then_ret ?_ | refine jx_block ?_ | refine jx_block_ret ?_ | refine jx_block_hit ?_ | refine jx_block_miss rfl ?_ | refine jc_true rfl ?_ | refine jc_false rfl ?_))
    refine jo_load tab_ok rfl rfl rfl (.there (.there ((hr3 _).one (k := 2) rfl))) rfl ?_
    (refine j_nm rfl ?_; repeat (first | refine jo_cons ?_ | (refine jo_iso ?_; first | (refine jo_isbin ?_; first | refine jo_v (by first | exact pv_add rfl rfl (by omega) | exact pv_sub rfl rfl (by omega)) rfl ?_ | refine jo_pure tab_ok rfl rfl ?_ | refine jo_v (by first | exact pv_add64 rfl rfl | exact pv_ptr_eq tab_ok rfl rfl rfl | exact pv_ptr_ne tab_ok rfl rfl rfl | exact pv_if_eq tab_ok rfl rfl rfl (.inl rfl) | exact pv_if_eq tab_ok rfl rfl rfl (.inr ⟨_, _, rfl⟩) | exact pv_if_ne tab_ok rfl rfl rfl (.inl rfl) | exact pv_if_ne tab_ok rfl rfl rfl (.inr ⟨_, _, rfl⟩)) rfl ?_) | refine jo_pure tab_ok rfl rfl ?_ | refine jo_want rfl ?_ | refine jo_skip rfl rfl ?_ | refine jo_load tab_ok rfl rfl rfl (by first | ((repeat first | exact Rd.here rfl | refine Rd.there ?_); done) | assumption) rfl ?_) | refine jo_nil ?_ | refine jc_seq ?_ | refine jc_skip ?_ | refine jc_region ?_ | refine jc_block ?_ | refine jc_ret ?_ | refine jc_exit ?_ | refine jx_then ?_ | refine jx_then_exit ?_ | refine jx_then_ret ?_ | refine jx_block ?_ | refine jx_block_ret ?_ | refine jx_block_hit ?_ | refine jx_block_miss rfl ?_ | refine jc_true rfl ?_ | refine jc_false rfl ?_))
    refine jo_buildSlice tab_ok (cs := [I y3]) rfl rfl rfl rfl rfl rfl (by first | (simp [Instr.fill]; done) | simp [Instr.fill, Value.cells]) rfl fun bA => ?_
    (refine j_nm rfl ?_; repeat (first | refine jo_cons ?_ | (refine jo_iso ?_; first | (refine jo_isbin ?_; first | refine jo_v (by first | exact pv_add rfl rfl (by omega) | exact pv_sub rfl rfl (by omega)) rfl ?_ | refine jo_pure tab_ok rfl rfl ?_ | refine jo_v (by first | exact pv_add64 rfl rfl | exact pv_ptr_eq tab_ok rfl rfl rfl | exact pv_ptr_ne tab_ok rfl rfl rfl | exact pv_if_eq tab_ok rfl rfl rfl (.inl rfl) | exact pv_if_eq tab_ok rfl rfl rfl (.inr ⟨_, _, rfl⟩) | exact pv_if_ne tab_ok rfl rfl rfl (.inl rfl) | exact pv_if_ne tab_ok rfl rfl rfl (.inr ⟨_, _, rfl⟩)) rfl ?_) | refine jo_pure tab_ok rfl rfl ?_ | refine jo_want rfl ?_ | refine jo_skip rfl rfl ?_ | refine jo_load tab_ok rfl rfl rfl (by first | ((repeat first | exact Rd.here rfl | refine Rd.there ?_); done) | assumption) rfl ?_) | refine jo_nil ?_ | refine jc_seq ?_ | refine jc_skip ?_ | refine jc_region ?_ | refine jc_block ?_ | refine jc_ret ?_ | refine jc_exit ?_ | refine jx_then ?_ | refine jx_then_exit ?_ | refine jx_then_ret ?_ | refine jx_block ?_ | refine jx_block_ret ?_ | refine jx_block_hit ?_ | refine jx_block_miss rfl ?_ | refine jc_true rfl ?_ | refine jc_false rfl ?_))
    refine jo_append tab_ok 1 [I y3] rfl rfl rfl rfl rfl rfl ⟨rfl, rfl⟩ rfl (.inr ⟨bA, 0, rfl, Rd.all⟩) (by simp [Hp.one]) (by intro len' hl'; simp only [List.nil_append, List.length_take, List.length_map, Nat.mul_one] at hl'; exact ⟨by show (len' + 1) * 8 ≤ _; omega, by simp only [maxLen]; omega⟩) rfl fun v3 => ?_
    (refine j_nm rfl ?_; repeat (first | refine jo_cons ?_ | (refine jo_iso ?_; first | (refine jo_isbin ?_; first | refine jo_v (by first | exact pv_add rfl rfl (by omega) | exact pv_sub rfl rfl (by omega)) rfl ?_ | refine jo_pure tab_ok rfl rfl ?_ | refine jo_v (by first | exact pv_add64 rfl rfl | exact pv_ptr_eq tab_ok rfl rfl rfl | exact pv_ptr_ne tab_ok rfl rfl rfl | exact pv_if_eq tab_ok rfl rfl rfl (.inl rfl) | exact pv_if_eq tab_ok rfl rfl rfl (.inr ⟨_, _, rfl⟩) | exact pv_if_ne tab_ok rfl rfl rfl (.inl rfl) | exact pv_if_ne tab_ok rfl rfl rfl (.inr ⟨_, _, rfl⟩)) rfl ?_) | refine jo_pure tab_ok rfl rfl ?_ | refine jo_want rfl ?_ | refine jo_skip rfl rfl ?_ | refine jo_load tab_ok rfl rfl rfl (by first | ((repeat first | exact Rd.here rfl | refine Rd.there ?_); done) | assumption) rfl ?_) | refine jo_nil ?_ | refine jc_seq ?_ | refine jc_skip ?_ | refine jc_region ?_ | refine jc_block ?_ | refine jc_ret ?_ | refine jc_exit ?_ | refine jx_then ?_ | refine jx_then_exit ?_ | refine jx_then_ret ?_ | refine jx_block ?_ | refine jx_block_ret ?_ | refine jx_block_hit ?_ | refine jx_block_miss rfl ?_ | refine jc_true rfl ?_ | refine jc_false rfl ?_))
    refine jo_v (pv_slice_from tab_ok j rfl rfl rfl rfl rfl rfl (by omega)) rfl (jo_cons ?_)
    refine jo_append tab_ok 0 ((out.map I).drop (j * 1)) rfl rfl rfl rfl rfl rfl ⟨rfl, rfl⟩ g1 (g3.imp id fun ⟨b, o, h1, h2⟩ => ⟨b, o, h1, Rd.there (Rd.there (h2 _))⟩) (fun u hu => hone u (List.mem_of_mem_drop hu)) (by intro len' hl'; simp only [List.nil_append, List.length_append, List.length_take, List.length_map, List.length_cons, List.length_nil, Nat.mul_one] at hl'; exact ⟨by show (len' + (on - j)) * 8 ≤ _; omega, by simp only [maxLen]; omega⟩) rfl fun v4 => ?_
    have e4 : ([] ++ (out.map I).take (j * 1) ++ [I y3]) ++ (out.map I).drop (j * 1) = (out.take j ++ [y3] ++ out.drop j).map I := by simp only [List.nil_append, Nat.mul_one, List.map_append, List.map_take, List.map_drop, List.map_cons, List.map_nil]
    rw [e4]
    (refine j_nm rfl ?_; repeat (first | refine jo_cons ?_ | (refine jo_iso ?_; first | (refine jo_isbin ?_; first | refine jo_v (by first | exact pv_add rfl rfl (by omega) | exact pv_sub rfl rfl (by omega)) rfl ?_ | refine jo_pure tab_ok rfl rfl ?_ | refine jo_v (by first | exact pv_add64 rfl rfl | exact pv_ptr_eq tab_ok rfl rfl rfl | exact pv_ptr_ne tab_ok rfl rfl rfl | exact pv_if_eq tab_ok rfl rfl rfl (.inl rfl) | exact pv_if_eq tab_ok rfl rfl rfl (.inr ⟨_, _, rfl⟩) | exact pv_if_ne tab_ok rfl rfl rfl (.inl rfl) | exact pv_if_ne tab_ok rfl rfl rfl (.inr ⟨_, _, rfl⟩)) rfl ?_) | refine jo_pure tab_ok rfl rfl ?_ | refine jo_want rfl ?_ | refine jo_skip rfl rfl ?_ | refine jo_load tab_ok rfl rfl rfl (by first | ((repeat first | exact Rd.here rfl | refine Rd.there ?_); done) | assumption) rfl ?_) | refine jo_nil ?_ | refine jc_seq ?_ | refine jc_skip ?_ | refine jc_region ?_ | refine jc_block ?_ | refine jc_ret ?_ | refine jc_exit ?_ | refine jx_then ?_ | refine jx_then_exit ?_ | refine jx_then_ret ?_ | refine jx_block ?_ | refine jx_block_ret ?_ | refine jx_block_hit ?_ | refine jx_block_miss rfl ?_ | refine jc_true rfl ?_ | refine jc_false rfl ?_))
    exact jx_rnd (i + 1, v4, out.take j ++ [y3] ++ out.drop j) [0, 2] [1, 1] ⟨by show i + 1 ≤ k; omega, hfin⟩ hkk ⟨rfl, rfl, rfl, trivial⟩ rfl
  · have hjl2 : j < out.length := by omega
    have hjg2 := hjg hjl2
    obtain ⟨po, oo, rfl, roO⟩ := hoo.resolve_left (by omega)
    have hoc : (out.map I)[j]? = some (I out[j]) := by rw [List.getElem?_map, List.getElem?_eq_getElem hjl2]; rfl
    by_cases hb : out[j] = y3
    · have hfin := hin (by rw [← hb]; exact List.getElem_mem hjl2)
      generalize out[j] = z at hb hoc
      (refine j_nm rfl ?_; repeat (first | refine jo_cons ?_ | (refine jo_iso ?_; first | (refine jo_isbin ?_; first | refine jo_v (by first | exact pv_add rfl rfl (by omega) | exact pv_sub rfl rfl (by omega)) rfl ?_ | refine jo_pure tab_ok rfl rfl ?_ | refine jo_v (by first | exact pv_add64 rfl rfl | exact pv_ptr_eq tab_ok rfl rfl rfl | exact pv_ptr_ne tab_ok rfl rfl rfl | exact pv_if_eq tab_ok rfl rfl rfl (.inl rfl) | exact pv_if_eq tab_ok rfl rfl rfl (.inr ⟨_, _, rfl⟩) | exact pv_if_ne tab_ok rfl rfl rfl (.inl rfl) | exact pv_if_ne tab_ok rfl rfl rfl (.inr ⟨_, _, rfl⟩)) rfl ?_) | refine jo_pure tab_ok rfl rfl ?_ | refine jo_want rfl ?_ | refine jo_skip rfl rfl ?_ | refine jo_load tab_ok rfl rfl rfl (by first | ((repeat first | exact Rd.here rfl | refine Rd.there ?_); done) | assumption) rfl ?_) | refine jo_nil ?_ | refine jc_seq ?_ | refine jc_skip ?_ | refine jc_region ?_ | refine jc_block ?_ | refine jc_ret ?_ | refine jc_exit ?_ | refine jx_then ?_ | refine jx_then_exit ?_ | refine jx_then_ret ?_ | refine jx_block ?_ | refine jx_block_ret ?_ | refine jx_block_hit ?_ | refine jx_block_miss rfl ?_ | refine jc_true rfl ?_ | refine jc_false rfl ?_))
      refine jc_drawh 99 [(po, oo + j, I z), (mp, mo_ + i * 3 + 2, I y3)] mo (.cons ((roO _).one hoc) (.cons (.there ((hr3 _).one (k := 2) rfl)) .nil)) fun hrd => ?_
      refine jh_pure tab_ok 0 rfl (by kernel_rfl) rfl rfl hrd ?_
      refine jh_one 1 rfl (by kernel_rfl) (jo_pure tab_ok rfl rfl (jh_back hrd fun hrd => ?_))
      refine jh_one 2 rfl (by kernel_rfl) (jo_pure tab_ok rfl rfl (jh_back hrd fun hrd => ?_))
      refine jh_s 3 rfl (by kernel_rfl) ((pv_eql_f rfl rfl (by omega)).ps) rfl hrd ?_
      refine jh_one 4 rfl (by kernel_rfl) (jo_pure tab_ok rfl rfl (jh_back hrd fun hrd => ?_))
      refine jh_pureg tab_ok 5 rfl (by kernel_rfl) rfl rfl rfl hrd ?_
      refine jh_pureg tab_ok 6 rfl (by kernel_rfl) rfl rfl rfl hrd ?_
      refine jh_sg 7 rfl (by kernel_rfl) rfl ((pv_index1 tab_ok j rfl rfl rfl rfl rfl rfl rfl (by omega)).ps) rfl hrd ?_
      refine jh_sg 8 rfl (by kernel_rfl) rfl (ps_load tab_ok 0 rfl rfl rfl rfl) rfl hrd ?_
      refine jh_pureg tab_ok 9 rfl (by kernel_rfl) rfl rfl rfl hrd ?_
      refine jh_pureg tab_ok 10 rfl (by kernel_rfl) rfl rfl rfl hrd ?_
      refine jh_sg 11 rfl (by kernel_rfl) rfl ((pv_index tab_ok i rfl rfl rfl rfl rfl rfl (by omega)).ps) rfl hrd ?_
      refine jh_pureg tab_ok 12 rfl (by kernel_rfl) rfl rfl rfl hrd ?_
      refine jh_sg 13 rfl (by kernel_rfl) rfl (ps_load tab_ok 1 rfl rfl rfl rfl) rfl hrd ?_
      refine jh_sg 14 rfl (by kernel_rfl) rfl ((pv_neql_f rfl rfl hb).ps) rfl hrd ?_
      refine jh_one 15 rfl (by kernel_rfl) (jo_pure tab_ok rfl rfl (jh_back hrd fun hrd => ?_))
      refine jh_done (by kernel_rfl) ?_
      (refine j_nm rfl ?_; repeat (first | refine jo_cons ?_ | (refine jo_iso ?_; first | (refine jo_isbin ?_; first | refine jo_v (by first | exact pv_add rfl rfl (by omega) | exact pv_sub rfl rfl (by omega)) rfl ?_ | refine jo_pure tab_ok rfl rfl ?_ | refine jo_v (by first | exact pv_add64 rfl rfl | exact pv_ptr_eq tab_ok rfl rfl rfl | exact pv_ptr_ne tab_ok rfl rfl rfl | exact pv_if_eq tab_ok rfl rfl rfl (.inl rfl) | exact pv_if_eq tab_ok rfl rfl rfl (.inr ⟨_, _, rfl⟩) | exact pv_if_ne tab_ok rfl rfl rfl (.inl rfl) | exact pv_if_ne tab_ok rfl rfl rfl (.inr ⟨_, _, rfl⟩)) rfl ?_) | refine jo_pure tab_ok rfl rfl ?_ | refine jo_want rfl ?_ | refine jo_skip rfl rfl ?_ | refine jo_load tab_ok rfl rfl rfl (by first | ((repeat first | exact Rd.here rfl | refine Rd.there ?_); done) | assumption) rfl ?_) | refine jo_nil ?_ | refine jc_seq ?_ | refine jc_skip ?_ | refine jc_region ?_ | refine jc_block ?_ | refine jc_ret ?_ | refine jc_exit ?_ | refine jx_then ?_ | refine jx_then_exit ?_ | refine jx_then_ret ?_ | refine jx_block ?_ | refine jx_block_ret ?_ | refine jx_block_hit ?_ | refine jx_block_miss rfl ?_ | refine jc_true rfl ?_ | refine jc_false rfl ?_))
      exact jx_rnd (i + 1, _, out) [] [] ⟨by show i + 1 ≤ k; omega, hfin⟩ hkk ⟨rfl, rfl, rfl, trivial⟩ rfl
    · have hfin := hnew (fun hj' => by omega)
      generalize out[j] = z at hb hoc
      (refine j_nm rfl ?_; repeat (first | refine jo_cons ?_ | (refine jo_iso ?_; first | (refine jo_isbin ?_; first | refine jo_v (by first | exact pv_add rfl rfl (by omega) | exact pv_sub rfl rfl (by omega)) rfl ?_ | refine jo_pure tab_ok rfl rfl ?_ | refine jo_v (by first | exact pv_add64 rfl rfl | exact pv_ptr_eq tab_ok rfl rfl rfl | exact pv_ptr_ne tab_ok rfl rfl rfl | exact pv_if_eq tab_ok rfl rfl rfl (.inl rfl) | exact pv_if_eq tab_ok rfl rfl rfl (.inr ⟨_, _, rfl⟩) | exact pv_if_ne tab_ok rfl rfl rfl (.inl rfl) | exact pv_if_ne tab_ok rfl rfl rfl (.inr ⟨_, _, rfl⟩)) rfl ?_) | refine jo_pure tab_ok rfl rfl ?_ | refine jo_want rfl ?_ | refine jo_skip rfl rfl ?_ | refine jo_load tab_ok rfl rfl rfl (by first | ((repeat first | exact Rd.here rfl | refine Rd.there ?_); done) | assumption) rfl ?_) | refine jo_nil ?_ | refine jc_seq ?_ | refine jc_skip ?_ | refine jc_region ?_ | refine jc_block ?_ | refine jc_ret ?_ | refine jc_exit ?_ | refine jx_then ?_ | refine jx_then_exit ?_ | refine jx_then_ret ?_ | refine jx_block ?_ | refine jx_block_ret ?_ | refine jx_block_hit ?_ | refine jx_block_miss rfl ?_ | refine jc_true rfl ?_ | refine jc_false rfl ?_))
      refine jc_drawh 99 [(po, oo + j, I z), (mp, mo_ + i * 3 + 2, I y3)] mo (.cons ((roO _).one hoc) (.cons (.there ((hr3 _).one (k := 2) rfl)) .nil)) fun hrd => ?_
      refine jh_pure tab_ok 0 rfl (by kernel_rfl) rfl rfl hrd ?_
      refine jh_one 1 rfl (by kernel_rfl) (jo_pure tab_ok rfl rfl (jh_back hrd fun hrd => ?_))
      refine jh_one 2 rfl (by kernel_rfl) (jo_pure tab_ok rfl rfl (jh_back hrd fun hrd => ?_))
      refine jh_s 3 rfl (by kernel_rfl) ((pv_eql_f rfl rfl (by omega)).ps) rfl hrd ?_
      refine jh_one 4 rfl (by kernel_rfl) (jo_pure tab_ok rfl rfl (jh_back hrd fun hrd => ?_))
      refine jh_pureg tab_ok 5 rfl (by kernel_rfl) rfl rfl rfl hrd ?_
      refine jh_pureg tab_ok 6 rfl (by kernel_rfl) rfl rfl rfl hrd ?_
      refine jh_sg 7 rfl (by kernel_rfl) rfl ((pv_index1 tab_ok j rfl rfl rfl rfl rfl rfl rfl (by omega)).ps) rfl hrd ?_
      refine jh_sg 8 rfl (by kernel_rfl) rfl (ps_load tab_ok 0 rfl rfl rfl rfl) rfl hrd ?_
      refine jh_pureg tab_ok 9 rfl (by kernel_rfl) rfl rfl rfl hrd ?_
      refine jh_pureg tab_ok 10 rfl (by kernel_rfl) rfl rfl rfl hrd ?_
      refine jh_sg 11 rfl (by kernel_rfl) rfl ((pv_index tab_ok i rfl rfl rfl rfl rfl rfl (by omega)).ps) rfl hrd ?_
      refine jh_pureg tab_ok 12 rfl (by kernel_rfl) rfl rfl rfl hrd ?_
      refine jh_sg 13 rfl (by kernel_rfl) rfl (ps_load tab_ok 1 rfl rfl rfl rfl) rfl hrd ?_
      refine jh_sg 14 rfl (by kernel_rfl) rfl ((pv_neql_t rfl rfl hb).ps) rfl hrd ?_
      refine jh_one 15 rfl (by kernel_rfl) (jo_pure tab_ok rfl rfl (jh_back hrd fun hrd => ?_))
      refine jh_done (by kernel_rfl) ?_
      (refine j_nm rfl ?_; repeat (first | refine jo_cons ?_ | (refine jo_iso ?_; first | (refine jo_isbin ?_; first | refine jo_v (by first | exact pv_add rfl rfl (by omega) | exact pv_sub rfl rfl (by omega)) rfl ?_ | refine jo_pure tab_ok rfl rfl ?_ | refine jo_v (by first | exact pv_add64 rfl rfl | exact pv_ptr_eq tab_ok rfl rfl rfl | exact pv_ptr_ne tab_ok rfl rfl rfl | exact pv_if_eq tab_ok rfl rfl rfl (.inl rfl) | exact pv_if_eq tab_ok rfl rfl rfl (.inr ⟨_, _, rfl⟩) | exact pv_if_ne tab_ok rfl rfl rfl (.inl rfl) | exact pv_if_ne tab_ok rfl rfl rfl (.inr ⟨_, _, rfl⟩)) rfl ?_) | refine jo_pure tab_ok rfl rfl ?_ | refine jo_want rfl ?_ | refine jo_skip rfl rfl ?_ | refine jo_load tab_ok rfl rfl rfl (by first | ((repeat first | exact Rd.here rfl | refine Rd.there ?_); done) | assumption) rfl ?_) | refine jo_nil ?_ | refine jc_seq ?_ | refine jc_skip ?_ | refine jc_region ?_ | refine jc_block ?_ | refine jc_ret ?_ | refine jc_exit ?_ | refine jx_then ?_ | refine jx_then_exit ?_ | refine jx_then_ret ?_ | refine jx_block ?_ | refine jx_block_ret ?_ | refine jx_block_hit ?_ | refine jx_block_miss rfl ?_ | refine jc_true rfl ?_ | refine jc_false rfl ?_))
      refine jo_v (pv_slice_to tab_ok j rfl rfl rfl rfl rfl rfl (by omega)) rfl (jo_cons ?_)
      refine j_close [] rfl (fun m _ => (sl_nil (t := 3) (size := 1) m)) ?_
      refine j_nm rfl ?_
      refine jo_append tab_ok 0 ((out.map I).take (j * 1)) rfl rfl rfl rfl rfl rfl ⟨rfl, rfl⟩ k1 (k3.imp id fun ⟨b, o, h1, h2⟩ => ⟨b, o, h1, Rd.there (h2 _)⟩) (fun u hu => hone u (List.mem_of_mem_take hu)) (by intro len' hl'; simp only [List.length_nil] at hl'; exact ⟨by show (len' + j) * 8 ≤ _; omega, by simp only [maxLen]; omega⟩) rfl fun v2 => ?_
      (refine j_nm rfl ?_; repeat (first | refine jo_cons ?_ | (refine jo_iso ?_; first | (refine jo_isbin ?_; first | refine jo_v (by first | exact pv_add rfl rfl (by omega) | exact pv_sub rfl rfl (by omega)) rfl ?_ | refine jo_pure tab_ok rfl rfl ?_ | refine jo_v (by first | exact pv_add64 rfl rfl | exact pv_ptr_eq tab_ok rfl rfl rfl | exact pv_ptr_ne tab_ok rfl rfl rfl | exact pv_if_eq tab_ok rfl rfl rfl (.inl rfl) | exact pv_if_eq tab_ok rfl rfl rfl (.inr ⟨_, _, rfl⟩) | exact pv_if_ne tab_ok rfl rfl rfl (.inl rfl) | exact pv_if_ne tab_ok rfl rfl rfl (.inr ⟨_, _, rfl⟩)) rfl ?_) | refine jo_pure tab_ok rfl rfl ?_ | refine jo_want rfl ?_ | refine jo_skip rfl rfl ?_ | refine jo_load tab_ok rfl rfl rfl (by first | ((repeat first | exact Rd.here rfl | refine Rd.there ?_); done) | assumption) rfl ?_) | refine jo_nil ?_ | refine jc_seq ?_ | refine jc_skip ?_ | refine jc_region ?_ | refine jc_block ?_ | refine jc_ret ?_ | refine jc_exit ?_ | refine jx_then ?_ | refine jx_then_exit ?_ | refine jx_then_ret ?_ | refine jx_block ?_ | refine jx_block_ret ?_ | refine jx_block_hit ?_ | refine jx_block_miss rfl ?_ | refine jc_true rfl ?_ | refine jc_false rfl ?_))
      refine jo_v (pv_index tab_ok i rfl rfl rfl rfl rfl rfl (by omega)) rfl (jo_cons ?_)
      (refine j_nm rfl ?_; repeat (first | refine jo_cons ?_ | (refine jo_iso ?_; first | (refine jo_isbin ?_; first | refine jo_v (by first | exact pv_add rfl rfl (by omega) | exact pv_sub rfl rfl (by omega)) rfl ?_ | refine jo_pure tab_ok rfl rfl ?_ | refine jo_v (by first | exact pv_add64 rfl rfl | exact pv_ptr_eq tab_ok rfl rfl rfl | exact pv_ptr_ne tab_ok rfl rfl rfl | exact pv_if_eq tab_ok rfl rfl rfl (.inl rfl) | exact pv_if_eq tab_ok rfl rfl rfl (.inr ⟨_, _, rfl⟩) | exact pv_if_ne tab_ok rfl rfl rfl (.inl rfl) | exact pv_if_ne tab_ok rfl rfl rfl (.inr ⟨_, _, rfl⟩)) rfl ?_) | refine jo_pure tab_ok rfl rfl ?_ | refine jo_want rfl ?_ | refine jo_skip rfl rfl ?_ | refine jo_load tab_ok rfl rfl rfl (by first | ((repeat first | exact Rd.here rfl | refine Rd.there ?_); done) | assumption) rfl ?_) | refine jo_nil ?_ | refine jc_seq ?_ | refine jc_skip ?_ | refine jc_region ?_ | refine jc_block ?_ | refine jc_ret ?_ | refine jc_exit ?_ | refine jx_then ?_ | refine jx_then_exit ?_ | refine jx_then_ret ?_ | refine jx_block ?_ | refine jx_block_ret ?_ | refine jx_block_hit ?_ | refine jx_block_miss rfl ?_ | refine jc_true rfl ?_ | refine jc_false rfl ?_))
      refine jo_load tab_ok rfl rfl rfl (.there (.there ((hr3 _).one (k := 2) rfl))) rfl ?_
      (refine j_nm rfl ?_; repeat (first | refine jo_cons ?_ | (refine jo_iso ?_; first | (refine jo_isbin ?_; first | refine jo_v (by first | exact pv_add rfl rfl (by omega) | exact pv_sub rfl rfl (by omega)) rfl ?_ | refine jo_pure tab_ok rfl rfl ?_ | refine jo_v (by first | exact pv_add64 rfl rfl | exact pv_ptr_eq tab_ok rfl rfl rfl | exact pv_ptr_ne tab_ok rfl rfl rfl | exact pv_if_eq tab_ok rfl rfl rfl (.inl rfl) | exact pv_if_eq tab_ok rfl rfl rfl (.inr ⟨_, _, rfl⟩) | exact pv_if_ne tab_ok rfl rfl rfl (.inl rfl) | exact pv_if_ne tab_ok rfl rfl rfl (.inr ⟨_, _, rfl⟩)) rfl ?_) | refine jo_pure tab_ok rfl rfl ?_ | refine jo_want rfl ?_ | refine jo_skip rfl rfl ?_ | refine jo_load tab_ok rfl rfl rfl (by first | ((repeat first | exact Rd.here rfl | refine Rd.there ?_); done) | assumption) rfl ?_) | refine jo_nil ?_ | refine jc_seq ?_ | refine jc_skip ?_ | refine jc_region ?_ | refine jc_block ?_ | refine jc_ret ?_ | refine jc_exit ?_ | refine jx_then ?_ | refine jx_then_exit ?_ | refine jx_then_ret ?_ | refine jx_block ?_ | refine jx_block_ret ?_ | refine jx_block_hit ?_ | refine jx_block_miss rfl ?_ | refine jc_true rfl ?_ | refine jc_false rfl ?_))
      refine jo_buildSlice tab_ok (cs := [I y3]) rfl rfl rfl rfl rfl rfl (by first | (simp [Instr.fill]; done) | simp [Instr.fill, Value.cells]) rfl fun bA => ?_
      (refine j_nm rfl ?_; repeat (first | refine jo_cons ?_ | (refine jo_iso ?_; first | (refine jo_isbin ?_; first | refine jo_v (by first | exact pv_add rfl rfl (by omega) | exact pv_sub rfl rfl (by omega)) rfl ?_ | refine jo_pure tab_ok rfl rfl ?_ | refine jo_v (by first | exact pv_add64 rfl rfl | exact pv_ptr_eq tab_ok rfl rfl rfl | exact pv_ptr_ne tab_ok rfl rfl rfl | exact pv_if_eq tab_ok rfl rfl rfl (.inl rfl) | exact pv_if_eq tab_ok rfl rfl rfl (.inr ⟨_, _, rfl⟩) | exact pv_if_ne tab_ok rfl rfl rfl (.inl rfl) | exact pv_if_ne tab_ok rfl rfl rfl (.inr ⟨_, _, rfl⟩)) rfl ?_) | refine jo_pure tab_ok rfl rfl ?_ | refine jo_want rfl ?_ | refine jo_skip rfl rfl ?_ | refine jo_load tab_ok rfl rfl rfl (by first | ((repeat first | exact Rd.here rfl | refine Rd.there ?_); done) | assumption) rfl ?_) | refine jo_nil ?_ | refine jc_seq ?_ | refine jc_skip ?_ | refine jc_region ?_ | refine jc_block ?_ | refine jc_ret ?_ | refine jc_exit ?_ | refine jx_then ?_ | refine jx_then_exit ?_ | refine jx_then_ret ?_ | refine jx_block ?_ | refine jx_block_ret ?_ | refine jx_block_hit ?_ | refine jx_block_miss rfl ?_ | refine jc_true rfl ?_ | refine jc_false rfl ?_))
      refine jo_append tab_ok 1 [I y3] rfl rfl rfl rfl rfl rfl ⟨rfl, rfl⟩ rfl (.inr ⟨bA, 0, rfl, Rd.all⟩) (by simp [Hp.one]) (by intro len' hl'; simp only [List.nil_append, List.length_take, List.length_map, Nat.mul_one] at hl'; exact ⟨by show (len' + 1) * 8 ≤ _; omega, by simp only [maxLen]; omega⟩) rfl fun v3 => ?_
      (refine j_nm rfl ?_; repeat (first | refine jo_cons ?_ | (refine jo_iso ?_; first | (refine jo_isbin ?_; first | refine jo_v (by first | exact pv_add rfl rfl (by omega) | exact pv_sub rfl rfl (by omega)) rfl ?_ | refine jo_pure tab_ok rfl rfl ?_ | refine jo_v (by first | exact pv_add64 rfl rfl | exact pv_ptr_eq tab_ok rfl rfl rfl | exact pv_ptr_ne tab_ok rfl rfl rfl | exact pv_if_eq tab_ok rfl rfl rfl (.inl rfl) | exact pv_if_eq tab_ok rfl rfl rfl (.inr ⟨_, _, rfl⟩) | exact pv_if_ne tab_ok rfl rfl rfl (.inl rfl) | exact pv_if_ne tab_ok rfl rfl rfl (.inr ⟨_, _, rfl⟩)) rfl ?_) | refine jo_pure tab_ok rfl rfl ?_ | refine jo_want rfl ?_ | refine jo_skip rfl rfl ?_ | refine jo_load tab_ok rfl rfl rfl (by first | ((repeat first | exact Rd.here rfl | refine Rd.there ?_); done) | assumption) rfl ?_) | refine jo_nil ?_ | refine jc_seq ?_ | refine jc_skip ?_ | refine jc_region ?_ | refine jc_block ?_ | refine jc_ret ?_ | refine jc_exit ?_ | refine jx_then ?_ | refine jx_then_exit ?_ | refine jx_then_ret ?_ | refine jx_block ?_ | refine jx_block_ret ?_ | refine jx_block_hit ?_ | refine jx_block_miss rfl ?_ | refine jc_true rfl ?_ | refine jc_false rfl ?_))
      refine jo_v (pv_slice_from tab_ok j rfl rfl rfl rfl rfl rfl (by omega)) rfl (jo_cons ?_)
      refine jo_append tab_ok 0 ((out.map I).drop (j * 1)) rfl rfl rfl rfl rfl rfl ⟨rfl, rfl⟩ g1 (g3.imp id fun ⟨b, o, h1, h2⟩ => ⟨b, o, h1, Rd.there (Rd.there (h2 _))⟩) (fun u hu => hone u (List.mem_of_mem_drop hu)) (by intro len' hl'; simp only [List.nil_append, List.length_append, List.length_take, List.length_map, List.length_cons, List.length_nil, Nat.mul_one] at hl'; exact ⟨by show (len' + (on - j)) * 8 ≤ _; omega, by simp only [maxLen]; omega⟩) rfl fun v4 => ?_
      have e4 : ([] ++ (out.map I).take (j * 1) ++ [I y3]) ++ (out.map I).drop (j * 1) = (out.take j ++ [y3] ++ out.drop j).map I := by simp only [List.nil_append, Nat.mul_one, List.map_append, List.map_take, List.map_drop, List.map_cons, List.map_nil]
      rw [e4]
      (refine j_nm rfl ?_; repeat (first | refine jo_cons ?_ | (refine jo_iso ?_; first | (refine jo_isbin ?_; first | refine jo_v (by first | exact pv_add rfl rfl (by omega) | exact pv_sub rfl rfl (by omega)) rfl ?_ | refine jo_pure tab_ok rfl rfl ?_ | refine jo_v (by first | exact pv_add64 rfl rfl | exact pv_ptr_eq tab_ok rfl rfl rfl | exact pv_ptr_ne tab_ok rfl rfl rfl | exact pv_if_eq tab_ok rfl rfl rfl (.inl rfl) | exact pv_if_eq tab_ok rfl rfl rfl (.inr ⟨_, _, rfl⟩) | exact pv_if_ne tab_ok rfl rfl rfl (.inl rfl) | exact pv_if_ne tab_ok rfl rfl rfl (.inr ⟨_, _, rfl⟩)) rfl ?_) | refine jo_pure tab_ok rfl rfl ?_ | refine jo_want rfl ?_ | refine jo_skip rfl rfl ?_ | refine jo_load tab_ok rfl rfl rfl (by first | ((repeat first | exact Rd.here rfl | refine Rd.there ?_); done) | assumption) rfl ?_) | refine jo_nil ?_ | refine jc_seq ?_ | refine jc_skip ?_ | refine jc_region ?_ | refine jc_block ?_ | refine jc_ret ?_ | refine jc_exit ?_ | refine jx_then ?_ | refine jx_then_exit ?_ | refine jx_then_ret ?_ | refine jx_block ?_ | refine jx_block_ret ?_ | refine jx_block_hit ?_ | refine jx_block_miss rfl ?_ | refine jc_true rfl ?_ | refine jc_false rfl ?_))
      exact jx_rnd (i + 1, v4, out.take j ++ [y3] ++ out.drop j) [0, 2] [1, 1] ⟨by show i + 1 ≤ k; omega, hfin⟩ hkk ⟨rfl, rfl, rfl, trivial⟩ rfl
set_option maxHeartbeats 8000000 in
theorem addrs_tri {A : Assn} {v : Value} {xs : List Own} (hro : Ro A 3 v (rcells xs)) (hx : xs.length ≤ 1000) : Tri Try.prog 36 [v] [A] (OA A xs) := by
  obtain ⟨b', k, c', rfl, hl, hm, hor⟩ := hro
  rw [rcells_len] at hl
  have hk : xs.length = k := by omega
  refine tri_introX Try.func36 rfl Try.ntmps36 rfl fun E X => ?_
  (refine j_nm rfl ?_; repeat (first | refine jo_cons ?_ | (refine jo_iso ?_; first | (refine jo_isbin ?_; first | refine jo_v (by first | exact pv_add rfl rfl (by omega) | exact pv_sub rfl rfl (by omega)) rfl ?_ | refine jo_pure tab_ok rfl rfl ?_ | refine jo_v (by first | exact pv_add64 rfl rfl | exact pv_ptr_eq tab_ok rfl rfl rfl | exact pv_ptr_ne tab_ok rfl rfl rfl | exact pv_if_eq tab_ok rfl rfl rfl (.inl rfl) | exact pv_if_eq tab_ok rfl rfl rfl (.inr ⟨_, _, rfl⟩) | exact pv_if_ne tab_ok rfl rfl rfl (.inl rfl) | exact pv_if_ne tab_ok rfl rfl rfl (.inr ⟨_, _, rfl⟩)) rfl ?_) | refine jo_pure tab_ok rfl rfl ?_ | refine jo_want rfl ?_ | refine jo_skip rfl rfl ?_ | refine jo_load tab_ok rfl rfl rfl (by first | ((repeat first | exact Rd.here rfl | refine Rd.there ?_); done) | assumption) rfl ?_) | refine jo_nil ?_ | refine jc_seq ?_ | refine jc_skip ?_ | refine jc_region ?_ | refine jc_block ?_ | refine jc_ret ?_ | refine jc_exit ?_ | refine jx_then ?_ | refine jx_then_exit ?_ | refine jx_then_ret ?_ | refine jx_block ?_ | refine jx_block_ret ?_ | refine jx_block_hit ?_ | refine jx_block_miss rfl ?_ | refine jc_true rfl ?_ | refine jc_false rfl ?_))
  refine j_close [] rfl (fun m _ => (sl_nil (t := 3) (size := 1) m : sl 3 1 (.slice none 0 0) (([] : List Int).map I) m)) ?_
  refine j_nm rfl ?_
  refine jc_loopd (IA (.slice b' k c')) (AA A X) (fun x => x.1 ≤ k ∧ Rise xs x.1 x.2.2) (fun x => k - x.1) (0, .slice none 0 0, []) [0] [] ⟨Nat.zero_le _, List.Pairwise.nil, fun b => by simp, Nat.le_refl _⟩ ⟨rfl, rfl, rfl, trivial⟩ rfl ?_
  rintro ⟨i, ov, out⟩ ⟨hi, hr⟩
  simp only at hi hr
  dsimp only [IA, AA]
  have hrl := hr.len
  (refine j_nm rfl ?_; repeat (first | refine jo_cons ?_ | (refine jo_iso ?_; first | (refine jo_isbin ?_; first | refine jo_v (by first | exact pv_add rfl rfl (by omega) | exact pv_sub rfl rfl (by omega)) rfl ?_ | refine jo_pure tab_ok rfl rfl ?_ | refine jo_v (by first | exact pv_add64 rfl rfl | exact pv_ptr_eq tab_ok rfl rfl rfl | exact pv_ptr_ne tab_ok rfl rfl rfl | exact pv_if_eq tab_ok rfl rfl rfl (.inl rfl) | exact pv_if_eq tab_ok rfl rfl rfl (.inr ⟨_, _, rfl⟩) | exact pv_if_ne tab_ok rfl rfl rfl (.inl rfl) | exact pv_if_ne tab_ok rfl rfl rfl (.inr ⟨_, _, rfl⟩)) rfl ?_) | refine jo_pure tab_ok rfl rfl ?_ | refine jo_want rfl ?_ | refine jo_skip rfl rfl ?_ | refine jo_load tab_ok rfl rfl rfl (by first | ((repeat first | exact Rd.here rfl | refine Rd.there ?_); done) | assumption) rfl ?_) | refine jo_nil ?_ | refine jc_seq ?_ | refine jc_skip ?_ | refine jc_region ?_ | refine jc_block ?_ | refine jc_ret ?_ | refine jc_exit ?_ | refine jx_then ?_ | refine jx_then_exit ?_ | refine jx_then_ret ?_ | refine jx_block ?_ | refine jx_block_ret ?_ | refine jx_block_hit ?_ | refine jx_block_miss rfl ?_ | refine jc_true rfl ?_ | refine jc_false rfl ?_))
  refine jc_dec rfl (fun h => ?_) (fun h => ?_)
  · have hlt : i < xs.length := by have h' : (i : Int) < k := h; omega
    refine j_sl_ro fun hro => ?_
    obtain ⟨ob, on, oc, rfl, hol, hom, hoo⟩ := hro
    simp only [List.length_map, Nat.mul_one] at hol
    have horl := hor
    obtain ⟨mp, mo_, rfl, ro⟩ := hor.resolve_left (by omega)
    have hr3 := fun L => rcells_rd3 (ro L) hlt
    have h8 := fun (j : Nat) => @a8 A E X (some ⟨mp, mo_, none⟩) k c' (k - i) i j ob on oc xs out hx hk hlt (by omega) horl hr
    (refine j_nm rfl ?_; repeat (first | refine jo_cons ?_ | (refine jo_iso ?_; first | (refine jo_isbin ?_; first | refine jo_v (by first | exact pv_add rfl rfl (by omega) | exact pv_sub rfl rfl (by omega)) rfl ?_ | refine jo_pure tab_ok rfl rfl ?_ | refine jo_v (by first | exact pv_add64 rfl rfl | exact pv_ptr_eq tab_ok rfl rfl rfl | exact pv_ptr_ne tab_ok rfl rfl rfl | exact pv_if_eq tab_ok rfl rfl rfl (.inl rfl) | exact pv_if_eq tab_ok rfl rfl rfl (.inr ⟨_, _, rfl⟩) | exact pv_if_ne tab_ok rfl rfl rfl (.inl rfl) | exact pv_if_ne tab_ok rfl rfl rfl (.inr ⟨_, _, rfl⟩)) rfl ?_) | refine jo_pure tab_ok rfl rfl ?_ | refine jo_want rfl ?_ | refine jo_skip rfl rfl ?_ | refine jo_load tab_ok rfl rfl rfl (by first | ((repeat first | exact Rd.here rfl | refine Rd.there ?_); done) | assumption) rfl ?_) | refine jo_nil ?_ | refine jc_seq ?_ | refine jc_skip ?_ | refine jc_region ?_ | refine jc_block ?_ | refine jc_ret ?_ | refine jc_exit ?_ | refine jx_then ?_ | refine jx_then_exit ?_ | refine jx_then_ret ?_ | refine jx_block ?_ | refine jx_block_ret ?_ | refine jx_block_hit ?_ | refine jx_block_miss rfl ?_ | refine jc_true rfl ?_ | refine jc_false rfl ?_))
    refine jc_loop (ι := Nat) (fun j => [(5, I j), (0, .slice (some ⟨mp, mo_, none⟩) k c'), (3, .slice ob on oc), (4, I i)]) (fun _ => [sl 3 1 (.slice ob on oc) (out.map I), A, X])
      (fun j => j ≤ on ∧ ∀ (k : Nat) (hk : k < out.length), k < j → out[k] < xs[i].2) (fun j => on - j) 0 [] [] ⟨Nat.zero_le _, fun k hk h => by omega⟩ ⟨rfl, rfl, rfl, rfl, trivial⟩ rfl ?_
    rintro j ⟨hj, hjl⟩
    have h8 := h8 j hj hjl
    by_cases hjn : j = on
    · (refine j_nm rfl ?_; repeat (first | refine jo_cons ?_ | (refine jo_iso ?_; first | (refine jo_isbin ?_; first | refine jo_v (by first | exact pv_add rfl rfl (by omega) | exact pv_sub rfl rfl (by omega)) rfl ?_ | refine jo_pure tab_ok rfl rfl ?_ | refine jo_v (by first | exact pv_add64 rfl rfl | exact pv_ptr_eq tab_ok rfl rfl rfl | exact pv_ptr_ne tab_ok rfl rfl rfl | exact pv_if_eq tab_ok rfl rfl rfl (.inl rfl) | exact pv_if_eq tab_ok rfl rfl rfl (.inr ⟨_, _, rfl⟩) | exact pv_if_ne tab_ok rfl rfl rfl (.inl rfl) | exact pv_if_ne tab_ok rfl rfl rfl (.inr ⟨_, _, rfl⟩)) rfl ?_) | refine jo_pure tab_ok rfl rfl ?_ | refine jo_want rfl ?_ | refine jo_skip rfl rfl ?_ | refine jo_load tab_ok rfl rfl rfl (by first | ((repeat first | exact Rd.here rfl | refine Rd.there ?_); done) | assumption) rfl ?_) | refine jo_nil ?_ | refine jc_seq ?_ | refine jc_skip ?_ | refine jc_region ?_ | refine jc_block ?_ | refine jc_ret ?_ | refine jc_exit ?_ | refine jx_then ?_ | refine jx_then_exit ?_ | refine jx_then_ret ?_ | refine jx_block ?_ | refine jx_block_ret ?_ | refine jx_block_hit ?_ | refine jx_block_miss rfl ?_ | refine jc_true rfl ?_ | refine jc_false rfl ?_))
      refine jc_drawh 99 [] mo .nil fun hrd => ?_
      refine jh_pure tab_ok 0 rfl (by kernel_rfl) rfl rfl hrd ?_
      refine jh_one 1 rfl (by kernel_rfl) (jo_pure tab_ok rfl rfl (jh_back hrd fun hrd => ?_))
      refine jh_one 2 rfl (by kernel_rfl) (jo_pure tab_ok rfl rfl (jh_back hrd fun hrd => ?_))
      refine jh_s 3 rfl (by kernel_rfl) ((pv_lss_f rfl rfl (by omega)).ps) rfl hrd ?_
      refine jh_one 4 rfl (by kernel_rfl) (jo_pure tab_ok rfl rfl (jh_back hrd fun hrd => ?_))
      refine jh_skip 5 rfl (by kernel_rfl) rfl rfl hrd ?_
      refine jh_skip 6 rfl (by kernel_rfl) rfl rfl hrd ?_
      refine jh_skip 7 rfl (by kernel_rfl) rfl rfl hrd ?_
      refine jh_skip 8 rfl (by kernel_rfl) rfl rfl hrd ?_
      refine jh_skip 9 rfl (by kernel_rfl) rfl rfl hrd ?_
      refine jh_skip 10 rfl (by kernel_rfl) rfl rfl hrd ?_
      refine jh_skip 11 rfl (by kernel_rfl) rfl rfl hrd ?_
      refine jh_skip 12 rfl (by kernel_rfl) rfl rfl hrd ?_
      refine jh_skip 13 rfl (by kernel_rfl) rfl rfl hrd ?_
      refine jh_skip 14 rfl (by kernel_rfl) rfl rfl hrd ?_
      refine jh_one 15 rfl (by kernel_rfl) (jo_pure tab_ok rfl rfl (jh_back hrd fun hrd => ?_))
      refine jh_done (by kernel_rfl) ?_
      (refine j_nm rfl ?_; repeat (first | refine jo_cons ?_ | (refine jo_iso ?_; first | (refine jo_isbin ?_; first | refine jo_v (by first | exact pv_add rfl rfl (by omega) | exact pv_sub rfl rfl (by omega)) rfl ?_ | refine jo_pure tab_ok rfl rfl ?_ | refine jo_v (by first | exact pv_add64 rfl rfl | exact pv_ptr_eq tab_ok rfl rfl rfl | exact pv_ptr_ne tab_ok rfl rfl rfl | exact pv_if_eq tab_ok rfl rfl rfl (.inl rfl) | exact pv_if_eq tab_ok rfl rfl rfl (.inr ⟨_, _, rfl⟩) | exact pv_if_ne tab_ok rfl rfl rfl (.inl rfl) | exact pv_if_ne tab_ok rfl rfl rfl (.inr ⟨_, _, rfl⟩)) rfl ?_) | refine jo_pure tab_ok rfl rfl ?_ | refine jo_want rfl ?_ | refine jo_skip rfl rfl ?_ | refine jo_load tab_ok rfl rfl rfl (by first | ((repeat first | exact Rd.here rfl | refine Rd.there ?_); done) | assumption) rfl ?_) | refine jo_nil ?_ | refine jc_skip ?_ | refine jc_region ?_ | refine jc_block ?_ | refine jc_ret ?_ | refine jc_exit ?_ | refine jx_then ?_ | refine jx_then_exit ?_ | refine jx_then_ret ?_ | refine jx_block ?_ | refine jx_block_ret ?_ | refine jx_block_hit ?_ | refine jx_block_miss rfl ?_ | refine jc_true rfl ?_ | refine jc_false rfl ?_))
      exact j_go (h8 (fun hj' => by omega)) [] [] ⟨rfl, rfl, rfl, rfl, trivial⟩ rfl
    · have hjl2 : j < out.length := by omega
      obtain ⟨po, oo, rfl, roO⟩ := hoo.resolve_left (by omega)
      have hoc : (out.map I)[j]? = some (I out[j]) := by rw [List.getElem?_map, List.getElem?_eq_getElem hjl2]; rfl
      by_cases hb : out[j] < xs[i].2
      · have hnx : ∀ (k : Nat) (hk : k < out.length), k < j + 1 → out[k] < xs[i].2 := fun k hk hkj => by
          by_cases e : k = j
          · subst e; exact hb
          · exact hjl k hk (by omega)
        clear h8
        have hr3' := hr3
        generalize hy : xs[i] = y at hr3' hb
        generalize out[j] = z at hb hoc
        obtain ⟨⟨y1, y2⟩, y3⟩ := y
        simp only at hb
        clear hr3
        have hr3 := hr3'
        clear hr3'
        (refine j_nm rfl ?_; repeat (first | refine jo_cons ?_ | (refine jo_iso ?_; first | (refine jo_isbin ?_; first | refine jo_v (by first | exact pv_add rfl rfl (by omega) | exact pv_sub rfl rfl (by omega)) rfl ?_ | refine jo_pure tab_ok rfl rfl ?_ | refine jo_v (by first | exact pv_add64 rfl rfl | exact pv_ptr_eq tab_ok rfl rfl rfl | exact pv_ptr_ne tab_ok rfl rfl rfl | exact pv_if_eq tab_ok rfl rfl rfl (.inl rfl) | exact pv_if_eq tab_ok rfl rfl rfl (.inr ⟨_, _, rfl⟩) | exact pv_if_ne tab_ok rfl rfl rfl (.inl rfl) | exact pv_if_ne tab_ok rfl rfl rfl (.inr ⟨_, _, rfl⟩)) rfl ?_) | refine jo_pure tab_ok rfl rfl ?_ | refine jo_want rfl ?_ | refine jo_skip rfl rfl ?_ | refine jo_load tab_ok rfl rfl rfl (by first | ((repeat first | exact Rd.here rfl | refine Rd.there ?_); done) | assumption) rfl ?_) | refine jo_nil ?_ | refine jc_seq ?_ | refine jc_skip ?_ | refine jc_region ?_ | refine jc_block ?_ | refine jc_ret ?_ | refine jc_exit ?_ | refine jx_then ?_ | refine jx_then_exit ?_ | refine jx_then_ret ?_ | refine jx_block ?_ | refine jx_block_ret ?_ | refine jx_block_hit ?_ | refine jx_block_miss rfl ?_ | refine jc_true rfl ?_ | refine jc_false rfl ?_))
        refine jc_drawh 99 [(po, oo + j, I z), (mp, mo_ + i * 3 + 2, I y3)] mo (.cons ((roO _).one hoc) (.cons (.there ((hr3 _).one (k := 2) rfl)) .nil)) fun hrd => ?_
        refine jh_pure tab_ok 0 rfl (by kernel_rfl) rfl rfl hrd ?_
        refine jh_one 1 rfl (by kernel_rfl) (jo_pure tab_ok rfl rfl (jh_back hrd fun hrd => ?_))
        refine jh_one 2 rfl (by kernel_rfl) (jo_pure tab_ok rfl rfl (jh_back hrd fun hrd => ?_))
        refine jh_s 3 rfl (by kernel_rfl) ((pv_lss_t rfl rfl (by omega)).ps) rfl hrd ?_
        refine jh_one 4 rfl (by kernel_rfl) (jo_pure tab_ok rfl rfl (jh_back hrd fun hrd => ?_))
        refine jh_pureg tab_ok 5 rfl (by kernel_rfl) rfl rfl rfl hrd ?_
        refine jh_pureg tab_ok 6 rfl (by kernel_rfl) rfl rfl rfl hrd ?_
        refine jh_sg 7 rfl (by kernel_rfl) rfl ((pv_index1 tab_ok j rfl rfl rfl rfl rfl rfl rfl (by omega)).ps) rfl hrd ?_
        refine jh_sg 8 rfl (by kernel_rfl) rfl (ps_load tab_ok 0 rfl rfl rfl rfl) rfl hrd ?_
        refine jh_pureg tab_ok 9 rfl (by kernel_rfl) rfl rfl rfl hrd ?_
        refine jh_pureg tab_ok 10 rfl (by kernel_rfl) rfl rfl rfl hrd ?_
        refine jh_sg 11 rfl (by kernel_rfl) rfl ((pv_index tab_ok i rfl rfl rfl rfl rfl rfl (by omega)).ps) rfl hrd ?_
        refine jh_pureg tab_ok 12 rfl (by kernel_rfl) rfl rfl rfl hrd ?_
        refine jh_sg 13 rfl (by kernel_rfl) rfl (ps_load tab_ok 1 rfl rfl rfl rfl) rfl hrd ?_
        refine jh_sg 14 rfl (by kernel_rfl) rfl ((pv_lss_t rfl rfl hb).ps) rfl hrd ?_
        refine jh_one 15 rfl (by kernel_rfl) (jo_pure tab_ok rfl rfl (jh_back hrd fun hrd => ?_))
        refine jh_done (by kernel_rfl) ?_
        (refine j_nm rfl ?_; repeat (first | refine jo_cons ?_ | (refine jo_iso ?_; first | (refine jo_isbin ?_; first | refine jo_v (by first | exact pv_add rfl rfl (by omega) | exact pv_sub rfl rfl (by omega)) rfl ?_ | refine jo_pure tab_ok rfl rfl ?_ | refine jo_v (by first | exact pv_add64 rfl rfl | exact pv_ptr_eq tab_ok rfl rfl rfl | exact pv_ptr_ne tab_ok rfl rfl rfl | exact pv_if_eq tab_ok rfl rfl rfl (.inl rfl) | exact pv_if_eq tab_ok rfl rfl rfl (.inr ⟨_, _, rfl⟩) | exact pv_if_ne tab_ok rfl rfl rfl (.inl rfl) | exact pv_if_ne tab_ok rfl rfl rfl (.inr ⟨_, _, rfl⟩)) rfl ?_) | refine jo_pure tab_ok rfl rfl ?_ | refine jo_want rfl ?_ | refine jo_skip rfl rfl ?_ | refine jo_load tab_ok rfl rfl rfl (by first | ((repeat first | exact Rd.here rfl | refine Rd.there ?_); done) | assumption) rfl ?_) | refine jo_nil ?_ | refine jc_seq ?_ | refine jc_skip ?_ | refine jc_region ?_ | refine jc_block ?_ | refine jc_ret ?_ | refine jc_exit ?_ | refine jx_then ?_ | refine jx_then_exit ?_ | refine jx_then_ret ?_ | refine jx_block ?_ | refine jx_block_ret ?_ | refine jx_block_hit ?_ | refine jx_block_miss rfl ?_ | refine jc_true rfl ?_ | refine jc_false rfl ?_))
        rw [hy] at hnx
        exact jx_round (j + 1) [] [] ⟨by show j + 1 ≤ on; omega, hnx⟩ (by show on - (j + 1) < on - j; omega) ⟨rfl, rfl, rfl, rfl, trivial⟩ rfl
      · have h8 := h8 (fun _ => hb)
        have hr3' := hr3
        generalize hy : xs[i] = y at hr3' hb
        generalize out[j] = z at hb hoc
        obtain ⟨⟨y1, y2⟩, y3⟩ := y
        simp only at hb
        clear hr3
        have hr3 := hr3'
        clear hr3'
        (refine j_nm rfl ?_; repeat (first | refine jo_cons ?_ | (refine jo_iso ?_; first | (refine jo_isbin ?_; first | refine jo_v (by first | exact pv_add rfl rfl (by omega) | exact pv_sub rfl rfl (by omega)) rfl ?_ | refine jo_pure tab_ok rfl rfl ?_ | refine jo_v (by first | exact pv_add64 rfl rfl | exact pv_ptr_eq tab_ok rfl rfl rfl | exact pv_ptr_ne tab_ok rfl rfl rfl | exact pv_if_eq tab_ok rfl rfl rfl (.inl rfl) | exact pv_if_eq tab_ok rfl rfl rfl (.inr ⟨_, _, rfl⟩) | exact pv_if_ne tab_ok rfl rfl rfl (.inl rfl) | exact pv_if_ne tab_ok rfl rfl rfl (.inr ⟨_, _, rfl⟩)) rfl ?_) | refine jo_pure tab_ok rfl rfl ?_ | refine jo_want rfl ?_ | refine jo_skip rfl rfl ?_ | refine jo_load tab_ok rfl rfl rfl (by first | ((repeat first | exact Rd.here rfl | refine Rd.there ?_); done) | assumption) rfl ?_) | refine jo_nil ?_ | refine jc_seq ?_ | refine jc_skip ?_ | refine jc_region ?_ | refine jc_block ?_ | refine jc_ret ?_ | refine jc_exit ?_ | refine jx_then ?_ | refine jx_then_exit ?_ | refine jx_then_ret ?_ | refine jx_block ?_ | refine jx_block_ret ?_ | refine jx_block_hit ?_ | refine jx_block_miss rfl ?_ | refine jc_true rfl ?_ | refine jc_false rfl ?_))
        refine jc_drawh 99 [(po, oo + j, I z), (mp, mo_ + i * 3 + 2, I y3)] mo (.cons ((roO _).one hoc) (.cons (.there ((hr3 _).one (k := 2) rfl)) .nil)) fun hrd => ?_
        refine jh_pure tab_ok 0 rfl (by kernel_rfl) rfl rfl hrd ?_
        refine jh_one 1 rfl (by kernel_rfl) (jo_pure tab_ok rfl rfl (jh_back hrd fun hrd => ?_))
        refine jh_one 2 rfl (by kernel_rfl) (jo_pure tab_ok rfl rfl (jh_back hrd fun hrd => ?_))
        refine jh_s 3 rfl (by kernel_rfl) ((pv_lss_t rfl rfl (by omega)).ps) rfl hrd ?_
        refine jh_one 4 rfl (by kernel_rfl) (jo_pure tab_ok rfl rfl (jh_back hrd fun hrd => ?_))
        refine jh_pureg tab_ok 5 rfl (by kernel_rfl) rfl rfl rfl hrd ?_
        refine jh_pureg tab_ok 6 rfl (by kernel_rfl) rfl rfl rfl hrd ?_
        refine jh_sg 7 rfl (by kernel_rfl) rfl ((pv_index1 tab_ok j rfl rfl rfl rfl rfl rfl rfl (by omega)).ps) rfl hrd ?_
        refine jh_sg 8 rfl (by kernel_rfl) rfl (ps_load tab_ok 0 rfl rfl rfl rfl) rfl hrd ?_
        refine jh_pureg tab_ok 9 rfl (by kernel_rfl) rfl rfl rfl hrd ?_
        refine jh_pureg tab_ok 10 rfl (by kernel_rfl) rfl rfl rfl hrd ?_
        refine jh_sg 11 rfl (by kernel_rfl) rfl ((pv_index tab_ok i rfl rfl rfl rfl rfl rfl (by omega)).ps) rfl hrd ?_
        refine jh_pureg tab_ok 12 rfl (by kernel_rfl) rfl rfl rfl hrd ?_
        refine jh_sg 13 rfl (by kernel_rfl) rfl (ps_load tab_ok 1 rfl rfl rfl rfl) rfl hrd ?_
        refine jh_sg 14 rfl (by kernel_rfl) rfl ((pv_lss_f rfl rfl hb).ps) rfl hrd ?_
        refine jh_one 15 rfl (by kernel_rfl) (jo_pure tab_ok rfl rfl (jh_back hrd fun hrd => ?_))
        refine jh_done (by kernel_rfl) ?_
        (refine j_nm rfl ?_; repeat (first | refine jo_cons ?_ | (refine jo_iso ?_; first | (refine jo_isbin ?_; first | refine jo_v (by first | exact pv_add rfl rfl (by omega) | exact pv_sub rfl rfl (by omega)) rfl ?_ | refine jo_pure tab_ok rfl rfl ?_ | refine jo_v (by first | exact pv_add64 rfl rfl | exact pv_ptr_eq tab_ok rfl rfl rfl | exact pv_ptr_ne tab_ok rfl rfl rfl | exact pv_if_eq tab_ok rfl rfl rfl (.inl rfl) | exact pv_if_eq tab_ok rfl rfl rfl (.inr ⟨_, _, rfl⟩) | exact pv_if_ne tab_ok rfl rfl rfl (.inl rfl) | exact pv_if_ne tab_ok rfl rfl rfl (.inr ⟨_, _, rfl⟩)) rfl ?_) | refine jo_pure tab_ok rfl rfl ?_ | refine jo_want rfl ?_ | refine jo_skip rfl rfl ?_ | refine jo_load tab_ok rfl rfl rfl (by first | ((repeat first | exact Rd.here rfl | refine Rd.there ?_); done) | assumption) rfl ?_) | refine jo_nil ?_ | refine jc_skip ?_ | refine jc_region ?_ | refine jc_block ?_ | refine jc_ret ?_ | refine jc_exit ?_ | refine jx_then ?_ | refine jx_then_exit ?_ | refine jx_then_ret ?_ | refine jx_block ?_ | refine jx_block_ret ?_ | refine jx_block_hit ?_ | refine jx_block_miss rfl ?_ | refine jc_true rfl ?_ | refine jc_false rfl ?_))
        exact j_go h8 [] [] ⟨rfl, rfl, rfl, rfl, trivial⟩ rfl
  · have hik : i = xs.length := by have h' : ¬ (i : Int) < k := h; omega
    rw [hik] at hr
    (refine j_nm rfl ?_; repeat (first | refine jo_cons ?_ | (refine jo_iso ?_; first | (refine jo_isbin ?_; first | refine jo_v (by first | exact pv_add rfl rfl (by omega) | exact pv_sub rfl rfl (by omega)) rfl ?_ | refine jo_pure tab_ok rfl rfl ?_ | refine jo_v (by first | exact pv_add64 rfl rfl | exact pv_ptr_eq tab_ok rfl rfl rfl | exact pv_ptr_ne tab_ok rfl rfl rfl | exact pv_if_eq tab_ok rfl rfl rfl (.inl rfl) | exact pv_if_eq tab_ok rfl rfl rfl (.inr ⟨_, _, rfl⟩) | exact pv_if_ne tab_ok rfl rfl rfl (.inl rfl) | exact pv_if_ne tab_ok rfl rfl rfl (.inr ⟨_, _, rfl⟩)) rfl ?_) | refine jo_pure tab_ok rfl rfl ?_ | refine jo_want rfl ?_ | refine jo_skip rfl rfl ?_ | refine jo_load tab_ok rfl rfl rfl (by first | ((repeat first | exact Rd.here rfl | refine Rd.there ?_); done) | assumption) rfl ?_) | refine jo_nil ?_ | refine jc_seq ?_ | refine jc_skip ?_ | refine jc_region ?_ | refine jc_block ?_ | refine jc_ret ?_ | refine jc_exit ?_ | refine jx_then ?_ | refine jx_then_exit ?_ | refine jx_then_ret ?_ | refine jx_block ?_ | refine jx_block_ret ?_ | refine jx_block_hit ?_ | refine jx_block_miss rfl ?_ | refine jc_true rfl ?_ | refine jc_false rfl ?_))
    exact j_ret [0, 0] [] rfl ⟨out, hr, rfl⟩ ⟨rfl, rfl⟩
end Ry
end Go.Proofs.Ytiikdofbaoidcaa
