import Derived.Test.YtejaonodaplbhaaDoorHp
import Derived.Test.YtejaonodaplbhaaDoorProg
namespace Go.Proofs.YtejaonodaplbhaaDoor
open Go Go.Proofs.YtejaonodaplbhaaDoor.Hp
set_option maxRecDepth 10000
set_option linter.unusedVariables false
set_option linter.unusedSimpArgs false
attribute [local irreducible] wpList Code.wp wpAny
def tab : Tab := [
  ⟨3, .int .i64, 1, 8, [.int .i64 0]⟩,
  ⟨4, .bool, 1, 1, [.bool false]⟩,
  ⟨47, .slice 3, 1, 24, [.slice none 0 0]⟩,
  ⟨30, .iface, 1, 16, [.nilIface]⟩,
  ⟨79, .pointer 104, 1, 8, [.pointer none]⟩,
  ⟨104, .struct [(0, 3), (1, 102)], 2, 32, [.int .i64 0, .slice none 0 0]⟩,
  ⟨102, .slice 101, 1, 24, [.slice none 0 0]⟩,
  ⟨101, .int .u64, 1, 8, [.int .u64 0]⟩,
  ⟨76, .int .i64, 1, 8, [.int .i64 0]⟩]
theorem tab_3 : TE.ok Tryd.prog ⟨3, .int .i64, 1, 8, [.int .i64 0]⟩ := ⟨by kernel_rfl, by kernel_rfl, by kernel_rfl, by kernel_rfl⟩
theorem tab_4 : TE.ok Tryd.prog ⟨4, .bool, 1, 1, [.bool false]⟩ := ⟨by kernel_rfl, by kernel_rfl, by kernel_rfl, by kernel_rfl⟩
theorem tab_47 : TE.ok Tryd.prog ⟨47, .slice 3, 1, 24, [.slice none 0 0]⟩ := ⟨by kernel_rfl, by kernel_rfl, by kernel_rfl, by kernel_rfl⟩
theorem tab_30 : TE.ok Tryd.prog ⟨30, .iface, 1, 16, [.nilIface]⟩ := ⟨by kernel_rfl, by kernel_rfl, by kernel_rfl, by kernel_rfl⟩
theorem tab_79 : TE.ok Tryd.prog ⟨79, .pointer 104, 1, 8, [.pointer none]⟩ := ⟨by kernel_rfl, by kernel_rfl, by kernel_rfl, by kernel_rfl⟩
theorem tab_104 : TE.ok Tryd.prog ⟨104, .struct [(0, 3), (1, 102)], 2, 32, [.int .i64 0, .slice none 0 0]⟩ := ⟨by kernel_rfl, by kernel_rfl, by kernel_rfl, by kernel_rfl⟩
theorem tab_102 : TE.ok Tryd.prog ⟨102, .slice 101, 1, 24, [.slice none 0 0]⟩ := ⟨by kernel_rfl, by kernel_rfl, by kernel_rfl, by kernel_rfl⟩
theorem tab_101 : TE.ok Tryd.prog ⟨101, .int .u64, 1, 8, [.int .u64 0]⟩ := ⟨by kernel_rfl, by kernel_rfl, by kernel_rfl, by kernel_rfl⟩
theorem tab_76 : TE.ok Tryd.prog ⟨76, .int .i64, 1, 8, [.int .i64 0]⟩ := ⟨by kernel_rfl, by kernel_rfl, by kernel_rfl, by kernel_rfl⟩
theorem tab_ok : tab.ok Tryd.prog := by
  intro e he
  simp only [tab, List.mem_cons, List.not_mem_nil, or_false] at he
  rcases he with rfl | rfl | rfl | rfl | rfl | rfl | rfl | rfl | rfl
  · exact tab_3
  · exact tab_4
  · exact tab_47
  · exact tab_30
  · exact tab_79
  · exact tab_104
  · exact tab_102
  · exact tab_101
  · exact tab_76

abbrev I (x : Int) : Value := .int .i64 x
abbrev ptr (b : Nat) : Value := .pointer (some ⟨b, 0, none⟩)

def bit (ws : List (BitVec 64)) (i : Nat) : Bool := (ws[i / 64]?.getD 0).getLsbD (i % 64)
/-- the words hold just these flags -/
structure WF (ws : List (BitVec 64)) (l : List Bool) : Prop where
  most : l.length ≤ 4096
  room : l.length ≤ ws.length * 64
  tight : ws.length * 64 < l.length + 64
  bits : ∀ i, bit ws i = l[i]?.getD false
def Bm (p : Nat) (l : List Bool) : Assn := fun m => ∃ ws v, WF ws l ∧ star [cl p [I l.length, v] 104, sl 101 1 v (ws.map W)] m

@[irreducible] def inB (l : List Bool) (i : Int) : Bool := decide (0 ≤ i ∧ i < l.length)

theorem j_bm {E : World} {X : Act → World → Prop} {n : Nat} {f : Fr} {L : List Assn} {p : Nat} {l : List Bool}
    (h : ∀ ws v, WF ws l → J E X n f (cl p [I l.length, v] 104 :: sl 101 1 v (ws.map W) :: L)) : J E X n f (Bm p l :: L) :=
  j_ex fun ws => j_ex fun v => j_and fun hw => j_star (h ws v hw)
theorem bm_shut {p k : Nat} {l : List Bool} {ws : List (BitVec 64)} {v : Value} (hk : k = l.length) (hw : WF ws l) : ∀ m, star [cl p [I k, v] 104, sl 101 1 v (ws.map W)] m → Bm p l m :=
  fun _ h => ⟨ws, v, hw, by rw [← hk]; exact h⟩

theorem in_tri (p : Nat) (l : List Bool) (i : Int) : Tri Tryd.prog 68 [ptr p, I i] [Bm p l] fun v B => v = .bool (inB l i) ∧ B = [Bm p l] := by
  refine tri_intro Tryd.func68 rfl Tryd.ntmps68 rfl fun E F => ?_
  refine j_bm fun ws v hw => ?_
  repeat (first | refine jo_cons ?_ | (refine jo_iso ?_; first | (refine jo_isbin ?_; first | refine jo_v (by first | exact pv_add rfl rfl (by omega) | exact pv_sub rfl rfl (by omega)) rfl ?_ | refine jo_pure tab_ok rfl rfl ?_) | refine jo_pure tab_ok rfl rfl ?_ | refine jo_want rfl ?_ | refine jo_skip rfl rfl ?_ | refine jo_load tab_ok rfl rfl rfl (by first | ((repeat first | exact Rd.here rfl | refine Rd.there ?_); done) | assumption) rfl ?_) | refine jo_nil ?_ | refine jc_seq ?_ | refine jc_skip ?_ | refine jc_region ?_ | refine jc_block ?_ | refine jc_ret ?_ | refine jc_exit ?_ | refine jx_then ?_ | refine jx_then_exit ?_ | refine jx_then_ret ?_ | refine jx_block ?_ | refine jx_block_ret ?_ | refine jx_block_hit ?_ | refine jx_block_miss rfl ?_ | refine jc_true rfl ?_ | refine jc_false rfl ?_)
  refine j_dec 7 rfl (fun h => ?_) (fun h => ?_)
  · repeat (first | refine jo_cons ?_ | (refine jo_iso ?_; first | (refine jo_isbin ?_; first | refine jo_v (by first | exact pv_add rfl rfl (by omega) | exact pv_sub rfl rfl (by omega)) rfl ?_ | refine jo_pure tab_ok rfl rfl ?_) | refine jo_pure tab_ok rfl rfl ?_ | refine jo_want rfl ?_ | refine jo_skip rfl rfl ?_ | refine jo_load tab_ok rfl rfl rfl (by first | ((repeat first | exact Rd.here rfl | refine Rd.there ?_); done) | assumption) rfl ?_) | refine jo_nil ?_ | refine jc_seq ?_ | refine jc_skip ?_ | refine jc_region ?_ | refine jc_block ?_ | refine jc_ret ?_ | refine jc_exit ?_ | refine jx_then ?_ | refine jx_then_exit ?_ | refine jx_then_ret ?_ | refine jx_block ?_ | refine jx_block_ret ?_ | refine jx_block_hit ?_ | refine jx_block_miss rfl ?_ | refine jc_true rfl ?_ | refine jc_false rfl ?_)
    refine j_close [0, 0] rfl (bm_shut rfl hw) ?_
    refine j_ret [0] [] rfl ⟨?_, rfl⟩ ⟨rfl, rfl⟩
    have h' : 0 ≤ i := h
    unfold inB; simp [h']
  · repeat (first | refine jo_cons ?_ | (refine jo_iso ?_; first | (refine jo_isbin ?_; first | refine jo_v (by first | exact pv_add rfl rfl (by omega) | exact pv_sub rfl rfl (by omega)) rfl ?_ | refine jo_pure tab_ok rfl rfl ?_) | refine jo_pure tab_ok rfl rfl ?_ | refine jo_want rfl ?_ | refine jo_skip rfl rfl ?_ | refine jo_load tab_ok rfl rfl rfl (by first | ((repeat first | exact Rd.here rfl | refine Rd.there ?_); done) | assumption) rfl ?_) | refine jo_nil ?_ | refine jc_seq ?_ | refine jc_skip ?_ | refine jc_region ?_ | refine jc_block ?_ | refine jc_ret ?_ | refine jc_exit ?_ | refine jx_then ?_ | refine jx_then_exit ?_ | refine jx_then_ret ?_ | refine jx_block ?_ | refine jx_block_ret ?_ | refine jx_block_hit ?_ | refine jx_block_miss rfl ?_ | refine jc_true rfl ?_ | refine jc_false rfl ?_)
    refine j_close [0, 0] rfl (bm_shut rfl hw) ?_
    refine j_ret [0] [] rfl ⟨?_, rfl⟩ ⟨rfl, rfl⟩
    have h' : ¬ 0 ≤ i := h
    unfold inB; simp [h']

theorem len_tri (p : Nat) (l : List Bool) : Tri Tryd.prog 45 [ptr p] [Bm p l] fun v B => v = I l.length ∧ B = [Bm p l] := by
  refine tri_intro Tryd.func45 rfl Tryd.ntmps45 rfl fun E F => ?_
  refine j_bm fun ws v hw => ?_
  repeat (first | refine jo_cons ?_ | (refine jo_iso ?_; first | (refine jo_isbin ?_; first | refine jo_v (by first | exact pv_add rfl rfl (by omega) | exact pv_sub rfl rfl (by omega)) rfl ?_ | refine jo_pure tab_ok rfl rfl ?_) | refine jo_pure tab_ok rfl rfl ?_ | refine jo_want rfl ?_ | refine jo_skip rfl rfl ?_ | refine jo_load tab_ok rfl rfl rfl (by first | ((repeat first | exact Rd.here rfl | refine Rd.there ?_); done) | assumption) rfl ?_) | refine jo_nil ?_ | refine jc_seq ?_ | refine jc_skip ?_ | refine jc_region ?_ | refine jc_block ?_ | refine jc_ret ?_ | refine jc_exit ?_ | refine jx_then ?_ | refine jx_then_exit ?_ | refine jx_then_ret ?_ | refine jx_block ?_ | refine jx_block_ret ?_ | refine jx_block_hit ?_ | refine jx_block_miss rfl ?_ | refine jc_true rfl ?_ | refine jc_false rfl ?_)
  refine j_close [0, 0] rfl (bm_shut rfl hw) ?_
  exact j_ret [0] [] rfl ⟨rfl, rfl⟩ ⟨rfl, rfl⟩

theorem ent68 : Enters Tryd.prog 68 := ⟨_, _, Tryd.func68, by kernel_rfl, rfl⟩

def hasB (l : List Bool) (i : Int) : Bool := decide (0 ≤ i) && l[i.toNat]?.getD false

theorem inB_iff {l : List Bool} {i : Int} : inB l i = true ↔ 0 ≤ i ∧ i < l.length := by unfold inB; simp
theorem hasB_out {l : List Bool} {i : Int} (h : inB l i = false) : hasB l i = false := by
  have h' : ¬ (0 ≤ i ∧ i < l.length) := fun e => by rw [inB_iff.2 e] at h; cases h
  unfold hasB
  by_cases h0 : 0 ≤ i
  · rw [List.getElem?_eq_none (by omega)]; simp
  · simp [h0]
theorem WF.ne {ws : List (BitVec 64)} {l : List Bool} (hw : WF ws l) {k : Nat} (hk : k < l.length) : ws.map W ≠ [] := by
  have := hw.room
  intro e
  have : ws.length = 0 := by simpa using congrArg List.length e
  omega
theorem WF.lt {ws : List (BitVec 64)} {l : List Bool} (hw : WF ws l) {k : Nat} (hk : k < l.length) : k / 64 < ws.length := by
  have := hw.room
  omega
theorem word_at {ws : List (BitVec 64)} {j : Nat} (h : j < ws.length) (sp : List Value) : (ws.map W ++ sp)[0 + j]? = some (W (ws[j]?.getD 0)) := by
  rw [Nat.zero_add, List.getElem?_append_left (by simpa using h)]
  simp [h]
theorem shr_and_one (x : BitVec 64) (r : Nat) : ((((x >>> r) &&& 1#64).toNat : Int) == 1) = x.getLsbD r := by
  have h : ((x >>> r) &&& 1#64) = if x.getLsbD r then 1#64 else 0#64 := by
    ext i hi
    by_cases h0 : i = 0
    · subst h0; cases hx : x.getLsbD r <;> simp [hx]
    · cases hx : x.getLsbD r <;> simp [BitVec.getElem_one, h0]
  rw [h]
  cases x.getLsbD r <;> rfl

theorem has_tri (p : Nat) (l : List Bool) (i : Int) : Tri Tryd.prog 35 [ptr p, I i] [Bm p l] fun v B => v = .bool (hasB l i) ∧ B = [Bm p l] := by
  refine tri_intro Tryd.func35 rfl Tryd.ntmps35 rfl fun E F => ?_
  repeat (first | refine jo_cons ?_ | (refine jo_iso ?_; first | (refine jo_isbin ?_; first | refine jo_v (by first | exact pv_add rfl rfl (by omega) | exact pv_sub rfl rfl (by omega)) rfl ?_ | refine jo_pure tab_ok rfl rfl ?_) | refine jo_pure tab_ok rfl rfl ?_ | refine jo_want rfl ?_ | refine jo_skip rfl rfl ?_ | refine jo_load tab_ok rfl rfl rfl (by first | ((repeat first | exact Rd.here rfl | refine Rd.there ?_); done) | assumption) rfl ?_) | refine jo_nil ?_ | refine jc_seq ?_ | refine jc_skip ?_ | refine jc_region ?_ | refine jc_block ?_ | refine jc_ret ?_ | refine jc_exit ?_ | refine jx_then ?_ | refine jx_then_exit ?_ | refine jx_then_ret ?_ | refine jx_block ?_ | refine jx_block_ret ?_ | refine jx_block_hit ?_ | refine jx_block_miss rfl ?_ | refine jc_true rfl ?_ | refine jc_false rfl ?_)
  refine jo_call [0] (in_tri p l i) ent68 rfl ⟨rfl, rfl⟩ rfl ?_
  rintro v B ⟨rfl, rfl⟩
  repeat (first | refine jo_cons ?_ | (refine jo_iso ?_; first | (refine jo_isbin ?_; first | refine jo_v (by first | exact pv_add rfl rfl (by omega) | exact pv_sub rfl rfl (by omega)) rfl ?_ | refine jo_pure tab_ok rfl rfl ?_) | refine jo_pure tab_ok rfl rfl ?_ | refine jo_want rfl ?_ | refine jo_skip rfl rfl ?_ | refine jo_load tab_ok rfl rfl rfl (by first | ((repeat first | exact Rd.here rfl | refine Rd.there ?_); done) | assumption) rfl ?_) | refine jo_nil ?_ | refine jc_seq ?_ | refine jc_skip ?_ | refine jc_region ?_ | refine jc_block ?_ | refine jc_ret ?_ | refine jc_exit ?_ | refine jx_then ?_ | refine jx_then_exit ?_ | refine jx_then_ret ?_ | refine jx_block ?_ | refine jx_block_ret ?_ | refine jx_block_hit ?_ | refine jx_block_miss rfl ?_ | refine jc_true rfl ?_ | refine jc_false rfl ?_)
  refine j_bool 8 rfl (fun h => ?_) (fun h => ?_)
  · obtain ⟨h0, hl⟩ := inB_iff.1 h
    obtain ⟨k, rfl⟩ := Int.eq_ofNat_of_zero_le h0
    have hk : k < l.length := by omega
    refine j_bm fun ws v hw => ?_
    have hm := hw.most
    have hlt := hw.lt hk
    repeat (first | refine jo_cons ?_ | (refine jo_iso ?_; first | (refine jo_isbin ?_; first | refine jo_v (by first | exact pv_add rfl rfl (by omega) | exact pv_sub rfl rfl (by omega)) rfl ?_ | refine jo_pure tab_ok rfl rfl ?_) | refine jo_pure tab_ok rfl rfl ?_ | refine jo_want rfl ?_ | refine jo_skip rfl rfl ?_ | refine jo_load tab_ok rfl rfl rfl (by first | ((repeat first | exact Rd.here rfl | refine Rd.there ?_); done) | assumption) rfl ?_) | refine jo_nil ?_ | refine jc_seq ?_ | refine jc_skip ?_ | refine jc_region ?_ | refine jc_block ?_ | refine jc_ret ?_ | refine jc_exit ?_ | refine jx_then ?_ | refine jx_then_exit ?_ | refine jx_then_ret ?_ | refine jx_block ?_ | refine jx_block_ret ?_ | refine jx_block_hit ?_ | refine jx_block_miss rfl ?_ | refine jc_true rfl ?_ | refine jc_false rfl ?_)
    refine jo_v (pv_quo rfl rfl ⟨by omega, by omega⟩ (by decide)) rfl ?_
    refine jo_cons ?_
    refine j_front [1] (j_sl (hw.ne hk) ?_)
    rintro b len cap sp rfl h1 h2 h3 h4
    have hlen : len = ws.length := by simpa using h1.symm
    refine jo_want rfl ?_
    refine jo_v (pv_index1 tab_ok (k / 64) rfl rfl rfl rfl rfl rfl (by omega) (by omega)) rfl (jo_cons ?_)
    refine jo_want rfl (jo_load tab_ok rfl rfl rfl (Rd.here (word_at hlt sp)) rfl ?_)
    repeat (first | refine jo_cons ?_ | (refine jo_iso ?_; first | (refine jo_isbin ?_; first | refine jo_v (by first | exact pv_add rfl rfl (by omega) | exact pv_sub rfl rfl (by omega)) rfl ?_ | refine jo_pure tab_ok rfl rfl ?_) | refine jo_pure tab_ok rfl rfl ?_ | refine jo_want rfl ?_ | refine jo_skip rfl rfl ?_ | refine jo_load tab_ok rfl rfl rfl (by first | ((repeat first | exact Rd.here rfl | refine Rd.there ?_); done) | assumption) rfl ?_) | refine jo_nil ?_ | refine jc_seq ?_ | refine jc_skip ?_ | refine jc_region ?_ | refine jc_block ?_ | refine jc_ret ?_ | refine jc_exit ?_ | refine jx_then ?_ | refine jx_then_exit ?_ | refine jx_then_ret ?_ | refine jx_block ?_ | refine jx_block_ret ?_ | refine jx_block_hit ?_ | refine jx_block_miss rfl ?_ | refine jc_true rfl ?_ | refine jc_false rfl ?_)
    refine jo_v (pv_rem rfl rfl (by omega) (by decide)) rfl (jo_cons ?_)
    refine jo_want rfl (jo_v (pv_shr (k % 64) rfl rfl (by omega) (by omega)) rfl (jo_cons ?_))
    refine jo_want rfl (jo_v (pv_and (b := 1#64) rfl rfl) rfl ?_)
    repeat (first | refine jo_cons ?_ | (refine jo_iso ?_; first | (refine jo_isbin ?_; first | refine jo_v (by first | exact pv_add rfl rfl (by omega) | exact pv_sub rfl rfl (by omega)) rfl ?_ | refine jo_pure tab_ok rfl rfl ?_) | refine jo_pure tab_ok rfl rfl ?_ | refine jo_want rfl ?_ | refine jo_skip rfl rfl ?_ | refine jo_load tab_ok rfl rfl rfl (by first | ((repeat first | exact Rd.here rfl | refine Rd.there ?_); done) | assumption) rfl ?_) | refine jo_nil ?_ | refine jc_seq ?_ | refine jc_skip ?_ | refine jc_region ?_ | refine jc_block ?_ | refine jc_ret ?_ | refine jc_exit ?_ | refine jx_then ?_ | refine jx_then_exit ?_ | refine jx_then_ret ?_ | refine jx_block ?_ | refine jx_block_ret ?_ | refine jx_block_hit ?_ | refine jx_block_miss rfl ?_ | refine jc_true rfl ?_ | refine jc_false rfl ?_)
    refine j_close [0] rfl (sl_shut h1 h2 h3 h4) ?_
    refine j_close [1, 0] rfl (bm_shut rfl hw) ?_
    refine j_ret [0] [] rfl ⟨?_, rfl⟩ ⟨rfl, rfl⟩
    rw [shr_and_one]
    have hb := hw.bits k
    unfold hasB
    unfold bit at hb
    simpa using hb
  · repeat (first | refine jo_cons ?_ | (refine jo_iso ?_; first | (refine jo_isbin ?_; first | refine jo_v (by first | exact pv_add rfl rfl (by omega) | exact pv_sub rfl rfl (by omega)) rfl ?_ | refine jo_pure tab_ok rfl rfl ?_) | refine jo_pure tab_ok rfl rfl ?_ | refine jo_want rfl ?_ | refine jo_skip rfl rfl ?_ | refine jo_load tab_ok rfl rfl rfl (by first | ((repeat first | exact Rd.here rfl | refine Rd.there ?_); done) | assumption) rfl ?_) | refine jo_nil ?_ | refine jc_seq ?_ | refine jc_skip ?_ | refine jc_region ?_ | refine jc_block ?_ | refine jc_ret ?_ | refine jc_exit ?_ | refine jx_then ?_ | refine jx_then_exit ?_ | refine jx_then_ret ?_ | refine jx_block ?_ | refine jx_block_ret ?_ | refine jx_block_hit ?_ | refine jx_block_miss rfl ?_ | refine jc_true rfl ?_ | refine jc_false rfl ?_)
    exact j_ret [0] [] rfl ⟨by rw [hasB_out h], rfl⟩ ⟨rfl, rfl⟩
end Go.Proofs.YtejaonodaplbhaaDoor
