import Derived.Test.YtejaonodaplbhaaDoorBm2
namespace Go.Proofs.YtejaonodaplbhaaDoor
open Go Go.Proofs.YtejaonodaplbhaaDoor.Hp
set_option maxRecDepth 10000
set_option linter.unusedVariables false
set_option linter.unusedSimpArgs false
attribute [local irreducible] wpList Code.wp wpAny
theorem ent36 : Enters Tryd.prog 36 := ⟨_, _, Tryd.func36, by kernel_rfl, rfl⟩
theorem ent41 : Enters Tryd.prog 41 := ⟨_, _, Tryd.func41, by kernel_rfl, rfl⟩


theorem getLsbD_one_shl {r j : Nat} (hj : j < 64) : ((1#64) <<< r).getLsbD j = decide (j = r) := by
  rw [BitVec.getLsbD_shiftLeft]
  by_cases h : j = r
  · subst h; simp [hj]
  · by_cases h2 : j < r
    · simp [h2, h]
    · simp [h, BitVec.getLsbD_one]; omega
theorem bit_set {ws : List (BitVec 64)} {k : Nat} (hk : k / 64 < ws.length) (w' : BitVec 64) (i : Nat) :
    bit (ws.set (k / 64) w') i = if i / 64 = k / 64 then w'.getLsbD (i % 64) else bit ws i := by
  unfold bit
  by_cases h : i / 64 = k / 64
  · rw [if_pos h, h, List.getElem?_set_self hk]; rfl
  · rw [if_neg h, List.getElem?_set_ne (by omega)]
theorem WF.put {ws : List (BitVec 64)} {l : List Bool} (hw : WF ws l) {k : Nat} (hk : k < l.length) (on : Bool) {w' : BitVec 64}
    (h' : ∀ j, j < 64 → w'.getLsbD j = if j = k % 64 then on else (ws[k / 64]?.getD 0).getLsbD j) : WF (ws.set (k / 64) w') (l.set k on) := by
  refine ⟨by simpa using hw.most, by simpa using hw.room, by simpa using hw.tight, fun i => ?_⟩
  rw [bit_set (hw.lt hk)]
  by_cases h : i / 64 = k / 64
  · rw [if_pos h, h' _ (by omega)]
    by_cases h2 : i % 64 = k % 64
    · have : i = k := by omega
      subst this
      simp [hk]
    · rw [if_neg h2, List.getElem?_set_ne (by omega), ← hw.bits i]
      unfold bit
      rw [h]
  · rw [if_neg h, hw.bits i, List.getElem?_set_ne (by omega)]
theorem WF.on {ws : List (BitVec 64)} {l : List Bool} (hw : WF ws l) {k : Nat} (hk : k < l.length) : WF (ws.set (k / 64) ((ws[k / 64]?.getD 0) ||| (1#64 <<< (k % 64)))) (l.set k true) := by
  refine hw.put hk true fun j hj => ?_
  rw [BitVec.getLsbD_or, getLsbD_one_shl hj]
  by_cases h : j = k % 64 <;> simp [h]
theorem WF.off {ws : List (BitVec 64)} {l : List Bool} (hw : WF ws l) {k : Nat} (hk : k < l.length) : WF (ws.set (k / 64) ((ws[k / 64]?.getD 0) &&& ~~~(1#64 <<< (k % 64)))) (l.set k false) := by
  refine hw.put hk false fun j hj => ?_
  rw [BitVec.getLsbD_and, BitVec.getLsbD_not, getLsbD_one_shl hj]
  by_cases h : j = k % 64 <;> simp [h, hj]

def puts (l : List Bool) (xs : List Int) (on : Bool) : List Bool := xs.foldl (fun l i => l.set i.toNat on) l
theorem puts_length (xs : List Int) (on : Bool) : ∀ l, (puts l xs on).length = l.length := by
  induction xs with
  | nil => intro l; rfl
  | cons x xs ih => intro l; show (puts (l.set x.toNat on) xs on).length = _; rw [ih]; simp
theorem puts_snoc (l : List Bool) (xs : List Int) (x : Int) (on : Bool) : puts l (xs ++ [x]) on = (puts l xs on).set x.toNat on := by
  unfold puts; rw [List.foldl_append]; rfl
theorem words_set {ws : List (BitVec 64)} {j : Nat} (h : j < ws.length) (w' : BitVec 64) (sp : List Value) : (ws.map W ++ sp).set (0 + j) (W w') = (ws.set j w').map W ++ sp := by
  rw [Nat.zero_add, List.set_append_left _ _ (by simpa using h), List.map_set]

theorem set_tri {A : Assn} {xs : List Int} {s : Value} (hro : Ro A 1 s (xs.map I)) (p : Nat) (l : List Bool) :
    Tri Tryd.prog 36 [ptr p, s] [Bm p l, A] fun v B => v = (if allB l xs then .nilIface else err 20) ∧ B = [Bm p (if allB l xs then puts l xs true else l), A] := by
  refine tri_intro Tryd.func36 rfl Tryd.ntmps36 rfl fun E F => ?_
  repeat (first | refine jo_cons ?_ | (refine jo_iso ?_; first | (refine jo_isbin ?_; first | refine jo_v (by first | exact pv_add rfl rfl (by omega) | exact pv_sub rfl rfl (by omega)) rfl ?_ | refine jo_pure tab_ok rfl rfl ?_) | refine jo_pure tab_ok rfl rfl ?_ | refine jo_want rfl ?_ | refine jo_skip rfl rfl ?_ | refine jo_load tab_ok rfl rfl rfl (by first | ((repeat first | exact Rd.here rfl | refine Rd.there ?_); done) | assumption) rfl ?_) | refine jo_nil ?_ | refine jc_seq ?_ | refine jc_skip ?_ | refine jc_region ?_ | refine jc_block ?_ | refine jc_ret ?_ | refine jc_exit ?_ | refine jx_then ?_ | refine jx_then_exit ?_ | refine jx_then_ret ?_ | refine jx_block ?_ | refine jx_block_ret ?_ | refine jx_block_hit ?_ | refine jx_block_miss rfl ?_ | refine jc_true rfl ?_ | refine jc_false rfl ?_)
  refine jo_call [0, 0] (all_tri hro p l) ent69 rfl ⟨rfl, rfl⟩ rfl ?_
  rintro v B ⟨rfl, rfl⟩
  repeat (first | refine jo_cons ?_ | (refine jo_iso ?_; first | (refine jo_isbin ?_; first | refine jo_v (by first | exact pv_add rfl rfl (by omega) | exact pv_sub rfl rfl (by omega)) rfl ?_ | refine jo_pure tab_ok rfl rfl ?_) | refine jo_pure tab_ok rfl rfl ?_ | refine jo_want rfl ?_ | refine jo_skip rfl rfl ?_ | refine jo_load tab_ok rfl rfl rfl (by first | ((repeat first | exact Rd.here rfl | refine Rd.there ?_); done) | assumption) rfl ?_) | refine jo_nil ?_ | refine jc_seq ?_ | refine jc_skip ?_ | refine jc_region ?_ | refine jc_block ?_ | refine jc_ret ?_ | refine jc_exit ?_ | refine jx_then ?_ | refine jx_then_exit ?_ | refine jx_then_ret ?_ | refine jx_block ?_ | refine jx_block_ret ?_ | refine jx_block_hit ?_ | refine jx_block_miss rfl ?_ | refine jc_true rfl ?_ | refine jc_false rfl ?_)
  refine jc_cond rfl (fun h => ?_) (fun h => ?_)
  · have h' : allB l xs = false := by simpa using h
    repeat (first | refine jo_cons ?_ | (refine jo_iso ?_; first | (refine jo_isbin ?_; first | refine jo_v (by first | exact pv_add rfl rfl (by omega) | exact pv_sub rfl rfl (by omega)) rfl ?_ | refine jo_pure tab_ok rfl rfl ?_) | refine jo_pure tab_ok rfl rfl ?_ | refine jo_want rfl ?_ | refine jo_skip rfl rfl ?_ | refine jo_load tab_ok rfl rfl rfl (by first | ((repeat first | exact Rd.here rfl | refine Rd.there ?_); done) | assumption) rfl ?_) | refine jo_nil ?_ | refine jc_seq ?_ | refine jc_skip ?_ | refine jc_region ?_ | refine jc_block ?_ | refine jc_ret ?_ | refine jc_exit ?_ | refine jx_then ?_ | refine jx_then_exit ?_ | refine jx_then_ret ?_ | refine jx_block ?_ | refine jx_block_ret ?_ | refine jx_block_hit ?_ | refine jx_block_miss rfl ?_ | refine jc_true rfl ?_ | refine jc_false rfl ?_)
    exact j_ret [0, 0] [] rfl ⟨by rw [h']; rfl, by rw [h']; rfl⟩ ⟨rfl, rfl⟩
  · have h' : allB l xs = true := by simpa using h
    have hall := allB_iff.1 h'
    obtain ⟨base, len, cap, rfl, hlen, hlm, hor⟩ := hro
    simp only [List.length_map, Nat.mul_one, maxLen] at hlen hlm
    repeat (first | refine jo_cons ?_ | (refine jo_iso ?_; first | (refine jo_isbin ?_; first | refine jo_v (by first | exact pv_add rfl rfl (by omega) | exact pv_sub rfl rfl (by omega)) rfl ?_ | refine jo_pure tab_ok rfl rfl ?_) | refine jo_pure tab_ok rfl rfl ?_ | refine jo_want rfl ?_ | refine jo_skip rfl rfl ?_ | refine jo_load tab_ok rfl rfl rfl (by first | ((repeat first | exact Rd.here rfl | refine Rd.there ?_); done) | assumption) rfl ?_) | refine jo_nil ?_ | refine jc_seq ?_ | refine jc_skip ?_ | refine jc_region ?_ | refine jc_block ?_ | refine jc_ret ?_ | refine jc_exit ?_ | refine jx_then ?_ | refine jx_then_exit ?_ | refine jx_then_ret ?_ | refine jx_block ?_ | refine jx_block_ret ?_ | refine jx_block_hit ?_ | refine jx_block_miss rfl ?_ | refine jc_true rfl ?_ | refine jc_false rfl ?_)
    refine jc_loop (ι := Nat) (fun k => [(14, I k), (13, I len), (12, .slice base len cap), (0, ptr p)]) (fun k => Bm p (puts l (xs.take k) true) :: A :: F) (fun k => k ≤ len) (fun k => len - k) 0 [] [] (Nat.zero_le _) ⟨rfl, rfl, rfl, rfl, trivial⟩ rfl ?_
    intro k hk
    repeat (first | refine jo_cons ?_ | (refine jo_iso ?_; first | (refine jo_isbin ?_; first | refine jo_v (by first | exact pv_add rfl rfl (by omega) | exact pv_sub rfl rfl (by omega)) rfl ?_ | refine jo_pure tab_ok rfl rfl ?_) | refine jo_pure tab_ok rfl rfl ?_ | refine jo_want rfl ?_ | refine jo_skip rfl rfl ?_ | refine jo_load tab_ok rfl rfl rfl (by first | ((repeat first | exact Rd.here rfl | refine Rd.there ?_); done) | assumption) rfl ?_) | refine jo_nil ?_ | refine jc_seq ?_ | refine jc_skip ?_ | refine jc_region ?_ | refine jc_block ?_ | refine jc_ret ?_ | refine jc_exit ?_ | refine jx_then ?_ | refine jx_then_exit ?_ | refine jx_then_ret ?_ | refine jx_block ?_ | refine jx_block_ret ?_ | refine jx_block_hit ?_ | refine jx_block_miss rfl ?_ | refine jc_true rfl ?_ | refine jc_false rfl ?_)
    refine jc_dec rfl (fun h => ?_) (fun h => ?_)
    · have hk' : k < len := by omega
      have hkx : k < xs.length := by omega
      obtain ⟨b, o, rfl, hrd⟩ := hor.resolve_left (by omega)
      obtain ⟨hx0, hxl⟩ := hall xs[k] (List.getElem_mem hkx)
      obtain ⟨i, hi⟩ := Int.eq_ofNat_of_zero_le hx0
      have hil : i < (puts l (xs.take k) true).length := by rw [puts_length]; omega
      have hnext : puts l (xs.take (k + 1)) true = (puts l (xs.take k) true).set i true := by
        rw [List.take_succ_eq_append_getElem hkx, puts_snoc, hi]; rfl
      repeat (first | refine jo_cons ?_ | (refine jo_iso ?_; first | (refine jo_isbin ?_; first | refine jo_v (by first | exact pv_add rfl rfl (by omega) | exact pv_sub rfl rfl (by omega)) rfl ?_ | refine jo_pure tab_ok rfl rfl ?_) | refine jo_pure tab_ok rfl rfl ?_ | refine jo_want rfl ?_ | refine jo_skip rfl rfl ?_ | refine jo_load tab_ok rfl rfl rfl (by first | ((repeat first | exact Rd.here rfl | refine Rd.there ?_); done) | assumption) rfl ?_) | refine jo_nil ?_ | refine jc_seq ?_ | refine jc_skip ?_ | refine jc_region ?_ | refine jc_block ?_ | refine jc_ret ?_ | refine jc_exit ?_ | refine jx_then ?_ | refine jx_then_exit ?_ | refine jx_then_ret ?_ | refine jx_block ?_ | refine jx_block_ret ?_ | refine jx_block_hit ?_ | refine jx_block_miss rfl ?_ | refine jc_true rfl ?_ | refine jc_false rfl ?_)
      refine jo_v (pv_index1 tab_ok k rfl rfl rfl rfl rfl rfl rfl hk') rfl (jo_cons ?_)
      refine jo_load tab_ok rfl rfl rfl (Rd.there ((hrd _).one (k := k) (v := I (i : Int)) (by simp [hkx, hi]))) rfl (jo_cons ?_)
      repeat (first | refine jo_cons ?_ | (refine jo_iso ?_; first | (refine jo_isbin ?_; first | refine jo_v (by first | exact pv_add rfl rfl (by omega) | exact pv_sub rfl rfl (by omega)) rfl ?_ | refine jo_pure tab_ok rfl rfl ?_) | refine jo_pure tab_ok rfl rfl ?_ | refine jo_want rfl ?_ | refine jo_skip rfl rfl ?_ | refine jo_load tab_ok rfl rfl rfl (by first | ((repeat first | exact Rd.here rfl | refine Rd.there ?_); done) | assumption) rfl ?_) | refine jo_nil ?_ | refine jc_seq ?_ | refine jc_skip ?_ | refine jc_region ?_ | refine jc_block ?_ | refine jc_ret ?_ | refine jc_exit ?_ | refine jx_then ?_ | refine jx_then_exit ?_ | refine jx_then_ret ?_ | refine jx_block ?_ | refine jx_block_ret ?_ | refine jx_block_hit ?_ | refine jx_block_miss rfl ?_ | refine jc_true rfl ?_ | refine jc_false rfl ?_)
      refine jc_draw mo ?_
      refine j_bm fun ws v hw => ?_
      have hlt := hw.lt hil
      have hm := hw.most
      refine j_front [1] (j_sl (hw.ne hil) ?_)
      rintro b2 len2 cap2 sp rfl h1 h2 h3 h4
      have hlen2 : len2 = ws.length := by simpa using h1.symm
      refine ja_pure tab_ok 0 rfl (by kernel_rfl) rfl rfl ?_
      refine ja_pure tab_ok 1 rfl (by kernel_rfl) rfl rfl ?_
      refine ja_pure tab_ok 2 rfl (by kernel_rfl) rfl rfl ?_
      refine ja_pure tab_ok 4 rfl (by kernel_rfl) rfl rfl ?_
      refine ja_v 5 rfl (by kernel_rfl) (pv_quo rfl rfl ⟨by omega, by omega⟩ (by decide)) rfl ?_
      refine ja_pure tab_ok 8 rfl (by kernel_rfl) rfl rfl ?_
      refine ja_v 9 rfl (by kernel_rfl) (pv_rem rfl rfl (by omega) (by decide)) rfl ?_
      refine ja_v 10 rfl (by kernel_rfl) (pv_shl (a := 1#64) (i % 64) rfl rfl (by omega) (by omega)) rfl ?_
      refine ja_one 3 rfl (by kernel_rfl) ?_
      refine jo_load tab_ok rfl rfl rfl (Rd.there (Rd.here rfl)) rfl ?_
      refine ja_v 6 rfl (by kernel_rfl) (pv_index1 tab_ok (i / 64) rfl rfl rfl rfl rfl rfl (by omega) (by omega)) rfl ?_
      refine ja_one 7 rfl (by kernel_rfl) ?_
      refine jo_load tab_ok rfl rfl rfl (Rd.here (word_at hlt sp)) rfl ?_
      refine ja_v 11 rfl (by kernel_rfl) (pv_or rfl rfl) rfl ?_
      refine ja_v 12 rfl (by kernel_rfl) (pv_index1 tab_ok (i / 64) rfl rfl rfl rfl rfl rfl (by omega) (by omega)) rfl ?_
      refine ja_one 13 rfl (by kernel_rfl) ?_
      refine jo_store tab_ok 0 rfl rfl rfl rfl rfl ⟨rfl, rfl⟩ (by simp; omega) ?_
      refine ja_done (by kernel_rfl) ?_
      rw [words_set hlt]
      refine j_close [0] rfl (sl_shut (size := 1) (by simpa using h1) h2 h3 (by simpa using h4)) ?_
      refine j_close [1, 0] rfl (bm_shut (by simp) (hw.on hil)) ?_
      rw [← hnext]
      repeat (first | refine jo_cons ?_ | (refine jo_iso ?_; first | (refine jo_isbin ?_; first | refine jo_v (by first | exact pv_add rfl rfl (by omega) | exact pv_sub rfl rfl (by omega)) rfl ?_ | refine jo_pure tab_ok rfl rfl ?_) | refine jo_pure tab_ok rfl rfl ?_ | refine jo_want rfl ?_ | refine jo_skip rfl rfl ?_ | refine jo_load tab_ok rfl rfl rfl (by first | ((repeat first | exact Rd.here rfl | refine Rd.there ?_); done) | assumption) rfl ?_) | refine jo_nil ?_ | refine jc_seq ?_ | refine jc_skip ?_ | refine jc_region ?_ | refine jc_block ?_ | refine jc_ret ?_ | refine jc_exit ?_ | refine jx_then ?_ | refine jx_then_exit ?_ | refine jx_then_ret ?_ | refine jx_block ?_ | refine jx_block_ret ?_ | refine jx_block_hit ?_ | refine jx_block_miss rfl ?_ | refine jc_true rfl ?_ | refine jc_false rfl ?_)
      exact jx_round (k + 1) [] [] (by omega) (by omega) ⟨rfl, rfl, rfl, rfl, trivial⟩ rfl
    · have hkl : xs.take k = xs := List.take_of_length_le (by omega)
      rw [hkl]
      repeat (first | refine jo_cons ?_ | (refine jo_iso ?_; first | (refine jo_isbin ?_; first | refine jo_v (by first | exact pv_add rfl rfl (by omega) | exact pv_sub rfl rfl (by omega)) rfl ?_ | refine jo_pure tab_ok rfl rfl ?_) | refine jo_pure tab_ok rfl rfl ?_ | refine jo_want rfl ?_ | refine jo_skip rfl rfl ?_ | refine jo_load tab_ok rfl rfl rfl (by first | ((repeat first | exact Rd.here rfl | refine Rd.there ?_); done) | assumption) rfl ?_) | refine jo_nil ?_ | refine jc_seq ?_ | refine jc_skip ?_ | refine jc_region ?_ | refine jc_block ?_ | refine jc_ret ?_ | refine jc_exit ?_ | refine jx_then ?_ | refine jx_then_exit ?_ | refine jx_then_ret ?_ | refine jx_block ?_ | refine jx_block_ret ?_ | refine jx_block_hit ?_ | refine jx_block_miss rfl ?_ | refine jc_true rfl ?_ | refine jc_false rfl ?_)
      exact j_ret [0, 0] [] rfl ⟨by rw [h']; rfl, by rw [h']; rfl⟩ ⟨rfl, rfl⟩
theorem clear_tri {A : Assn} {xs : List Int} {s : Value} (hro : Ro A 1 s (xs.map I)) (p : Nat) (l : List Bool) :
    Tri Tryd.prog 41 [ptr p, s] [Bm p l, A] fun v B => v = (if allB l xs then .nilIface else err 20) ∧ B = [Bm p (if allB l xs then puts l xs false else l), A] := by
  refine tri_intro Tryd.func41 rfl Tryd.ntmps41 rfl fun E F => ?_
  repeat (first | refine jo_cons ?_ | (refine jo_iso ?_; first | (refine jo_isbin ?_; first | refine jo_v (by first | exact pv_add rfl rfl (by omega) | exact pv_sub rfl rfl (by omega)) rfl ?_ | refine jo_pure tab_ok rfl rfl ?_) | refine jo_pure tab_ok rfl rfl ?_ | refine jo_want rfl ?_ | refine jo_skip rfl rfl ?_ | refine jo_load tab_ok rfl rfl rfl (by first | ((repeat first | exact Rd.here rfl | refine Rd.there ?_); done) | assumption) rfl ?_) | refine jo_nil ?_ | refine jc_seq ?_ | refine jc_skip ?_ | refine jc_region ?_ | refine jc_block ?_ | refine jc_ret ?_ | refine jc_exit ?_ | refine jx_then ?_ | refine jx_then_exit ?_ | refine jx_then_ret ?_ | refine jx_block ?_ | refine jx_block_ret ?_ | refine jx_block_hit ?_ | refine jx_block_miss rfl ?_ | refine jc_true rfl ?_ | refine jc_false rfl ?_)
  refine jo_call [0, 0] (all_tri hro p l) ent69 rfl ⟨rfl, rfl⟩ rfl ?_
  rintro v B ⟨rfl, rfl⟩
  repeat (first | refine jo_cons ?_ | (refine jo_iso ?_; first | (refine jo_isbin ?_; first | refine jo_v (by first | exact pv_add rfl rfl (by omega) | exact pv_sub rfl rfl (by omega)) rfl ?_ | refine jo_pure tab_ok rfl rfl ?_) | refine jo_pure tab_ok rfl rfl ?_ | refine jo_want rfl ?_ | refine jo_skip rfl rfl ?_ | refine jo_load tab_ok rfl rfl rfl (by first | ((repeat first | exact Rd.here rfl | refine Rd.there ?_); done) | assumption) rfl ?_) | refine jo_nil ?_ | refine jc_seq ?_ | refine jc_skip ?_ | refine jc_region ?_ | refine jc_block ?_ | refine jc_ret ?_ | refine jc_exit ?_ | refine jx_then ?_ | refine jx_then_exit ?_ | refine jx_then_ret ?_ | refine jx_block ?_ | refine jx_block_ret ?_ | refine jx_block_hit ?_ | refine jx_block_miss rfl ?_ | refine jc_true rfl ?_ | refine jc_false rfl ?_)
  refine jc_cond rfl (fun h => ?_) (fun h => ?_)
  · have h' : allB l xs = false := by simpa using h
    repeat (first | refine jo_cons ?_ | (refine jo_iso ?_; first | (refine jo_isbin ?_; first | refine jo_v (by first | exact pv_add rfl rfl (by omega) | exact pv_sub rfl rfl (by omega)) rfl ?_ | refine jo_pure tab_ok rfl rfl ?_) | refine jo_pure tab_ok rfl rfl ?_ | refine jo_want rfl ?_ | refine jo_skip rfl rfl ?_ | refine jo_load tab_ok rfl rfl rfl (by first | ((repeat first | exact Rd.here rfl | refine Rd.there ?_); done) | assumption) rfl ?_) | refine jo_nil ?_ | refine jc_seq ?_ | refine jc_skip ?_ | refine jc_region ?_ | refine jc_block ?_ | refine jc_ret ?_ | refine jc_exit ?_ | refine jx_then ?_ | refine jx_then_exit ?_ | refine jx_then_ret ?_ | refine jx_block ?_ | refine jx_block_ret ?_ | refine jx_block_hit ?_ | refine jx_block_miss rfl ?_ | refine jc_true rfl ?_ | refine jc_false rfl ?_)
    exact j_ret [0, 0] [] rfl ⟨by rw [h']; rfl, by rw [h']; rfl⟩ ⟨rfl, rfl⟩
  · have h' : allB l xs = true := by simpa using h
    have hall := allB_iff.1 h'
    obtain ⟨base, len, cap, rfl, hlen, hlm, hor⟩ := hro
    simp only [List.length_map, Nat.mul_one, maxLen] at hlen hlm
    repeat (first | refine jo_cons ?_ | (refine jo_iso ?_; first | (refine jo_isbin ?_; first | refine jo_v (by first | exact pv_add rfl rfl (by omega) | exact pv_sub rfl rfl (by omega)) rfl ?_ | refine jo_pure tab_ok rfl rfl ?_) | refine jo_pure tab_ok rfl rfl ?_ | refine jo_want rfl ?_ | refine jo_skip rfl rfl ?_ | refine jo_load tab_ok rfl rfl rfl (by first | ((repeat first | exact Rd.here rfl | refine Rd.there ?_); done) | assumption) rfl ?_) | refine jo_nil ?_ | refine jc_seq ?_ | refine jc_skip ?_ | refine jc_region ?_ | refine jc_block ?_ | refine jc_ret ?_ | refine jc_exit ?_ | refine jx_then ?_ | refine jx_then_exit ?_ | refine jx_then_ret ?_ | refine jx_block ?_ | refine jx_block_ret ?_ | refine jx_block_hit ?_ | refine jx_block_miss rfl ?_ | refine jc_true rfl ?_ | refine jc_false rfl ?_)
    refine jc_loop (ι := Nat) (fun k => [(14, I k), (13, I len), (12, .slice base len cap), (0, ptr p)]) (fun k => Bm p (puts l (xs.take k) false) :: A :: F) (fun k => k ≤ len) (fun k => len - k) 0 [] [] (Nat.zero_le _) ⟨rfl, rfl, rfl, rfl, trivial⟩ rfl ?_
    intro k hk
    repeat (first | refine jo_cons ?_ | (refine jo_iso ?_; first | (refine jo_isbin ?_; first | refine jo_v (by first | exact pv_add rfl rfl (by omega) | exact pv_sub rfl rfl (by omega)) rfl ?_ | refine jo_pure tab_ok rfl rfl ?_) | refine jo_pure tab_ok rfl rfl ?_ | refine jo_want rfl ?_ | refine jo_skip rfl rfl ?_ | refine jo_load tab_ok rfl rfl rfl (by first | ((repeat first | exact Rd.here rfl | refine Rd.there ?_); done) | assumption) rfl ?_) | refine jo_nil ?_ | refine jc_seq ?_ | refine jc_skip ?_ | refine jc_region ?_ | refine jc_block ?_ | refine jc_ret ?_ | refine jc_exit ?_ | refine jx_then ?_ | refine jx_then_exit ?_ | refine jx_then_ret ?_ | refine jx_block ?_ | refine jx_block_ret ?_ | refine jx_block_hit ?_ | refine jx_block_miss rfl ?_ | refine jc_true rfl ?_ | refine jc_false rfl ?_)
    refine jc_dec rfl (fun h => ?_) (fun h => ?_)
    · have hk' : k < len := by omega
      have hkx : k < xs.length := by omega
      obtain ⟨b, o, rfl, hrd⟩ := hor.resolve_left (by omega)
      obtain ⟨hx0, hxl⟩ := hall xs[k] (List.getElem_mem hkx)
      obtain ⟨i, hi⟩ := Int.eq_ofNat_of_zero_le hx0
      have hil : i < (puts l (xs.take k) false).length := by rw [puts_length]; omega
      have hnext : puts l (xs.take (k + 1)) false = (puts l (xs.take k) false).set i false := by
        rw [List.take_succ_eq_append_getElem hkx, puts_snoc, hi]; rfl
      repeat (first | refine jo_cons ?_ | (refine jo_iso ?_; first | (refine jo_isbin ?_; first | refine jo_v (by first | exact pv_add rfl rfl (by omega) | exact pv_sub rfl rfl (by omega)) rfl ?_ | refine jo_pure tab_ok rfl rfl ?_) | refine jo_pure tab_ok rfl rfl ?_ | refine jo_want rfl ?_ | refine jo_skip rfl rfl ?_ | refine jo_load tab_ok rfl rfl rfl (by first | ((repeat first | exact Rd.here rfl | refine Rd.there ?_); done) | assumption) rfl ?_) | refine jo_nil ?_ | refine jc_seq ?_ | refine jc_skip ?_ | refine jc_region ?_ | refine jc_block ?_ | refine jc_ret ?_ | refine jc_exit ?_ | refine jx_then ?_ | refine jx_then_exit ?_ | refine jx_then_ret ?_ | refine jx_block ?_ | refine jx_block_ret ?_ | refine jx_block_hit ?_ | refine jx_block_miss rfl ?_ | refine jc_true rfl ?_ | refine jc_false rfl ?_)
      refine jo_v (pv_index1 tab_ok k rfl rfl rfl rfl rfl rfl rfl hk') rfl (jo_cons ?_)
      refine jo_load tab_ok rfl rfl rfl (Rd.there ((hrd _).one (k := k) (v := I (i : Int)) (by simp [hkx, hi]))) rfl (jo_cons ?_)
      repeat (first | refine jo_cons ?_ | (refine jo_iso ?_; first | (refine jo_isbin ?_; first | refine jo_v (by first | exact pv_add rfl rfl (by omega) | exact pv_sub rfl rfl (by omega)) rfl ?_ | refine jo_pure tab_ok rfl rfl ?_) | refine jo_pure tab_ok rfl rfl ?_ | refine jo_want rfl ?_ | refine jo_skip rfl rfl ?_ | refine jo_load tab_ok rfl rfl rfl (by first | ((repeat first | exact Rd.here rfl | refine Rd.there ?_); done) | assumption) rfl ?_) | refine jo_nil ?_ | refine jc_seq ?_ | refine jc_skip ?_ | refine jc_region ?_ | refine jc_block ?_ | refine jc_ret ?_ | refine jc_exit ?_ | refine jx_then ?_ | refine jx_then_exit ?_ | refine jx_then_ret ?_ | refine jx_block ?_ | refine jx_block_ret ?_ | refine jx_block_hit ?_ | refine jx_block_miss rfl ?_ | refine jc_true rfl ?_ | refine jc_false rfl ?_)
      refine jc_draw mo ?_
      refine j_bm fun ws v hw => ?_
      have hlt := hw.lt hil
      have hm := hw.most
      refine j_front [1] (j_sl (hw.ne hil) ?_)
      rintro b2 len2 cap2 sp rfl h1 h2 h3 h4
      have hlen2 : len2 = ws.length := by simpa using h1.symm
      refine ja_pure tab_ok 0 rfl (by kernel_rfl) rfl rfl ?_
      refine ja_pure tab_ok 1 rfl (by kernel_rfl) rfl rfl ?_
      refine ja_pure tab_ok 2 rfl (by kernel_rfl) rfl rfl ?_
      refine ja_pure tab_ok 4 rfl (by kernel_rfl) rfl rfl ?_
      refine ja_v 5 rfl (by kernel_rfl) (pv_quo rfl rfl ⟨by omega, by omega⟩ (by decide)) rfl ?_
      refine ja_pure tab_ok 8 rfl (by kernel_rfl) rfl rfl ?_
      refine ja_v 9 rfl (by kernel_rfl) (pv_rem rfl rfl (by omega) (by decide)) rfl ?_
      refine ja_v 10 rfl (by kernel_rfl) (pv_shl (a := 1#64) (i % 64) rfl rfl (by omega) (by omega)) rfl ?_
      refine ja_one 3 rfl (by kernel_rfl) ?_
      refine jo_load tab_ok rfl rfl rfl (Rd.there (Rd.here rfl)) rfl ?_
      refine ja_v 6 rfl (by kernel_rfl) (pv_index1 tab_ok (i / 64) rfl rfl rfl rfl rfl rfl (by omega) (by omega)) rfl ?_
      refine ja_one 7 rfl (by kernel_rfl) ?_
      refine jo_load tab_ok rfl rfl rfl (Rd.here (word_at hlt sp)) rfl ?_
      refine ja_v 11 rfl (by kernel_rfl) (pv_andNot rfl rfl) rfl ?_
      refine ja_v 12 rfl (by kernel_rfl) (pv_index1 tab_ok (i / 64) rfl rfl rfl rfl rfl rfl (by omega) (by omega)) rfl ?_
      refine ja_one 13 rfl (by kernel_rfl) ?_
      refine jo_store tab_ok 0 rfl rfl rfl rfl rfl ⟨rfl, rfl⟩ (by simp; omega) ?_
      refine ja_done (by kernel_rfl) ?_
      rw [words_set hlt]
      refine j_close [0] rfl (sl_shut (size := 1) (by simpa using h1) h2 h3 (by simpa using h4)) ?_
      refine j_close [1, 0] rfl (bm_shut (by simp) (hw.off hil)) ?_
      rw [← hnext]
      repeat (first | refine jo_cons ?_ | (refine jo_iso ?_; first | (refine jo_isbin ?_; first | refine jo_v (by first | exact pv_add rfl rfl (by omega) | exact pv_sub rfl rfl (by omega)) rfl ?_ | refine jo_pure tab_ok rfl rfl ?_) | refine jo_pure tab_ok rfl rfl ?_ | refine jo_want rfl ?_ | refine jo_skip rfl rfl ?_ | refine jo_load tab_ok rfl rfl rfl (by first | ((repeat first | exact Rd.here rfl | refine Rd.there ?_); done) | assumption) rfl ?_) | refine jo_nil ?_ | refine jc_seq ?_ | refine jc_skip ?_ | refine jc_region ?_ | refine jc_block ?_ | refine jc_ret ?_ | refine jc_exit ?_ | refine jx_then ?_ | refine jx_then_exit ?_ | refine jx_then_ret ?_ | refine jx_block ?_ | refine jx_block_ret ?_ | refine jx_block_hit ?_ | refine jx_block_miss rfl ?_ | refine jc_true rfl ?_ | refine jc_false rfl ?_)
      exact jx_round (k + 1) [] [] (by omega) (by omega) ⟨rfl, rfl, rfl, rfl, trivial⟩ rfl
    · have hkl : xs.take k = xs := List.take_of_length_le (by omega)
      rw [hkl]
      repeat (first | refine jo_cons ?_ | (refine jo_iso ?_; first | (refine jo_isbin ?_; first | refine jo_v (by first | exact pv_add rfl rfl (by omega) | exact pv_sub rfl rfl (by omega)) rfl ?_ | refine jo_pure tab_ok rfl rfl ?_) | refine jo_pure tab_ok rfl rfl ?_ | refine jo_want rfl ?_ | refine jo_skip rfl rfl ?_ | refine jo_load tab_ok rfl rfl rfl (by first | ((repeat first | exact Rd.here rfl | refine Rd.there ?_); done) | assumption) rfl ?_) | refine jo_nil ?_ | refine jc_seq ?_ | refine jc_skip ?_ | refine jc_region ?_ | refine jc_block ?_ | refine jc_ret ?_ | refine jc_exit ?_ | refine jx_then ?_ | refine jx_then_exit ?_ | refine jx_then_ret ?_ | refine jx_block ?_ | refine jx_block_ret ?_ | refine jx_block_hit ?_ | refine jx_block_miss rfl ?_ | refine jc_true rfl ?_ | refine jc_false rfl ?_)
      exact j_ret [0, 0] [] rfl ⟨by rw [h']; rfl, by rw [h']; rfl⟩ ⟨rfl, rfl⟩
end Go.Proofs.YtejaonodaplbhaaDoor
