import Derived.Test.YtejaonodaplbhaaDoorBm6
import Derived.Test.YtejaonodaplbhaaDoorHq
namespace Go.Proofs.YtejaonodaplbhaaDoor
open Go Go.Proofs.YtejaonodaplbhaaDoor.Hp
set_option maxRecDepth 10000
set_option linter.unusedVariables false
set_option linter.unusedSimpArgs false
attribute [local irreducible] wpList Code.wp wpAny
namespace Tb
def tab : Tab := [
  ⟨3, .int .i64, 1, 8, [.int .i64 0]⟩,
  ⟨4, .bool, 1, 1, [.bool false]⟩,
  ⟨47, .slice 3, 1, 24, [.slice none 0 0]⟩,
  ⟨30, .iface, 1, 16, [.nilIface]⟩,
  ⟨79, .pointer 104, 1, 8, [.pointer none]⟩,
  ⟨104, .struct [(0, 3), (1, 102)], 2, 32, [.int .i64 0, .slice none 0 0]⟩,
  ⟨102, .slice 101, 1, 24, [.slice none 0 0]⟩,
  ⟨101, .int .u64, 1, 8, [.int .u64 0]⟩,
  ⟨5, .int .u8, 1, 1, [.int .u8 0]⟩,
  ⟨131, .array 64 5, 64, 64, [.int .u8 0, .int .u8 0, .int .u8 0, .int .u8 0, .int .u8 0, .int .u8 0, .int .u8 0, .int .u8 0, .int .u8 0, .int .u8 0, .int .u8 0, .int .u8 0, .int .u8 0, .int .u8 0, .int .u8 0, .int .u8 0, .int .u8 0, .int .u8 0, .int .u8 0, .int .u8 0, .int .u8 0, .int .u8 0, .int .u8 0, .int .u8 0, .int .u8 0, .int .u8 0, .int .u8 0, .int .u8 0, .int .u8 0, .int .u8 0, .int .u8 0, .int .u8 0, .int .u8 0, .int .u8 0, .int .u8 0, .int .u8 0, .int .u8 0, .int .u8 0, .int .u8 0, .int .u8 0, .int .u8 0, .int .u8 0, .int .u8 0, .int .u8 0, .int .u8 0, .int .u8 0, .int .u8 0, .int .u8 0, .int .u8 0, .int .u8 0, .int .u8 0, .int .u8 0, .int .u8 0, .int .u8 0, .int .u8 0, .int .u8 0, .int .u8 0, .int .u8 0, .int .u8 0, .int .u8 0, .int .u8 0, .int .u8 0, .int .u8 0, .int .u8 0]⟩]
theorem tab_3 : TE.ok Tryd.prog ⟨3, .int .i64, 1, 8, [.int .i64 0]⟩ := ⟨by kernel_rfl, by kernel_rfl, by kernel_rfl, by kernel_rfl⟩
theorem tab_4 : TE.ok Tryd.prog ⟨4, .bool, 1, 1, [.bool false]⟩ := ⟨by kernel_rfl, by kernel_rfl, by kernel_rfl, by kernel_rfl⟩
theorem tab_47 : TE.ok Tryd.prog ⟨47, .slice 3, 1, 24, [.slice none 0 0]⟩ := ⟨by kernel_rfl, by kernel_rfl, by kernel_rfl, by kernel_rfl⟩
theorem tab_30 : TE.ok Tryd.prog ⟨30, .iface, 1, 16, [.nilIface]⟩ := ⟨by kernel_rfl, by kernel_rfl, by kernel_rfl, by kernel_rfl⟩
theorem tab_79 : TE.ok Tryd.prog ⟨79, .pointer 104, 1, 8, [.pointer none]⟩ := ⟨by kernel_rfl, by kernel_rfl, by kernel_rfl, by kernel_rfl⟩
theorem tab_104 : TE.ok Tryd.prog ⟨104, .struct [(0, 3), (1, 102)], 2, 32, [.int .i64 0, .slice none 0 0]⟩ := ⟨by kernel_rfl, by kernel_rfl, by kernel_rfl, by kernel_rfl⟩
theorem tab_102 : TE.ok Tryd.prog ⟨102, .slice 101, 1, 24, [.slice none 0 0]⟩ := ⟨by kernel_rfl, by kernel_rfl, by kernel_rfl, by kernel_rfl⟩
theorem tab_101 : TE.ok Tryd.prog ⟨101, .int .u64, 1, 8, [.int .u64 0]⟩ := ⟨by kernel_rfl, by kernel_rfl, by kernel_rfl, by kernel_rfl⟩
theorem tab_5 : TE.ok Tryd.prog ⟨5, .int .u8, 1, 1, [.int .u8 0]⟩ := ⟨by kernel_rfl, by kernel_rfl, by kernel_rfl, by kernel_rfl⟩
theorem tab_131 : TE.ok Tryd.prog ⟨131, .array 64 5, 64, 64, [.int .u8 0, .int .u8 0, .int .u8 0, .int .u8 0, .int .u8 0, .int .u8 0, .int .u8 0, .int .u8 0, .int .u8 0, .int .u8 0, .int .u8 0, .int .u8 0, .int .u8 0, .int .u8 0, .int .u8 0, .int .u8 0, .int .u8 0, .int .u8 0, .int .u8 0, .int .u8 0, .int .u8 0, .int .u8 0, .int .u8 0, .int .u8 0, .int .u8 0, .int .u8 0, .int .u8 0, .int .u8 0, .int .u8 0, .int .u8 0, .int .u8 0, .int .u8 0, .int .u8 0, .int .u8 0, .int .u8 0, .int .u8 0, .int .u8 0, .int .u8 0, .int .u8 0, .int .u8 0, .int .u8 0, .int .u8 0, .int .u8 0, .int .u8 0, .int .u8 0, .int .u8 0, .int .u8 0, .int .u8 0, .int .u8 0, .int .u8 0, .int .u8 0, .int .u8 0, .int .u8 0, .int .u8 0, .int .u8 0, .int .u8 0, .int .u8 0, .int .u8 0, .int .u8 0, .int .u8 0, .int .u8 0, .int .u8 0, .int .u8 0, .int .u8 0]⟩ := ⟨by kernel_rfl, by kernel_rfl, by kernel_rfl, by kernel_rfl⟩
theorem tab_ok : tab.ok Tryd.prog := by
  intro e he
  simp only [tab, List.mem_cons, List.not_mem_nil, or_false] at he
  rcases he with rfl | rfl | rfl | rfl | rfl | rfl | rfl | rfl | rfl | rfl
  · exact tab_3
  · exact tab_4
  · exact tab_47
  · exact tab_30
  · exact tab_79
  · exact tab_104
  · exact tab_102
  · exact tab_101
  · exact tab_5
  · exact tab_131

end Tb
theorem ent84 : Enters Tryd.prog 84 := ⟨_, _, Tryd.func84, by kernel_rfl, rfl⟩
theorem ent67 : Enters Tryd.prog 67 := ⟨_, _, Tryd.func67, by kernel_rfl, rfl⟩
theorem ent34 : Enters Tryd.prog 34 := ⟨_, _, Tryd.func34, by kernel_rfl, rfl⟩
theorem ent57 : Enters Tryd.prog 57 := ⟨_, _, Tryd.func57, by kernel_rfl, rfl⟩


theorem pv_index_arr {P : Program} {l : Fr} {T : Tab} (hT : T.ok P) {t : TypeId} {x y : Operand} {b o n : Nat} {i : Int} {k : IntKind} {e e' : TE} {t' : TypeId} (j : Nat) (hx : ev l x = some (.pointer (some ⟨b, o, none⟩))) (hy : ev l y = some (.int k i))
    (ht : T.find t = some e) (htd : e.td = .array n t') (he : T.find t' = some e') (hsz : e'.size = 1) (hi : i = (j : Int)) (hj : j < n) :
    PV P l (.indexAddr t x y) (.pointer (some ⟨b, o + j, none⟩)) := by
  obtain ⟨hok, rfl⟩ := Tab.find_ok hT ht
  obtain ⟨hok', rfl⟩ := Tab.find_ok hT he
  intro a m dst ty pos aft gd hf w
  have hu := hok.array htd
  have h0 : (0 : Int) ≤ i ∧ i < (n : Int) := by omega
  have h1 : i.toNat = j := by omega
  simp [execOp, hf.ev hx, hf.ev hy, Instr.indexAt, asIntOf, run_underlying hu, h0, hok'.run_sizeOf, h1, addr_add, Instr.sureAddr, hsz]

def tz : List Int := [0, 1, 56, 2, 57, 49, 28, 3, 61, 58, 42, 50, 38, 29, 17, 4, 62, 47, 59, 36, 45, 43, 51, 22, 53, 39, 33, 30, 24, 18, 12, 5, 63, 55, 48, 27, 60, 41, 37, 16, 46, 35, 44, 21, 52, 32, 23, 11, 54, 26, 40, 15, 34, 20, 31, 10, 25, 14, 19, 9, 13, 8, 7, 6]
/-- the table of the library's lies in 'A' -/
def Tz (A : Assn) : Prop := ∀ L, Rd (A :: L) 0 0 (tz.map (Value.int .u8))

/-- the first set bit -/
def ctz (x : BitVec 64) (k : Nat) : Prop := k < 64 ∧ x.getLsbD k = true ∧ ∀ j, j < k → x.getLsbD j = false
theorem low_bit {x : BitVec 64} {k : Nat} (h : ctz x k) : x &&& -x = 1#64 <<< k := by
  obtain ⟨hk, h1, h2⟩ := h
  apply BitVec.eq_of_getLsbD_eq
  intro i hi
  rw [BitVec.getLsbD_and, BitVec.getLsbD_neg, BitVec.getLsbD_shiftLeft, BitVec.getLsbD_one]
  by_cases e : i < k
  · rw [h2 i e]; simp [e]
  · by_cases e1 : i = k
    · subst e1
      have hn : ¬ ∃ j, j < i ∧ x.getLsbD j = true := by
        rintro ⟨j, hj, hx⟩
        rw [h2 j hj] at hx; cases hx
      simp [h1, hi, hn]
    · have hy : ∃ j, j < i ∧ x.getLsbD j = true := ⟨k, by omega, h1⟩
      have hik : ¬ i - k = 0 := by omega
      simp [hi, hy, hik]
theorem least (p : Nat → Bool) : ∀ n, p n = true → ∃ k, k ≤ n ∧ p k = true ∧ ∀ j, j < k → p j = false := by
  intro n
  induction n using Nat.strongRecOn with
  | _ n ih =>
    intro hn
    by_cases h : ∃ j, j < n ∧ p j = true
    · obtain ⟨j, hj, hp⟩ := h
      obtain ⟨k, hk, h1, h2⟩ := ih j hj hp
      exact ⟨k, by omega, h1, h2⟩
    · refine ⟨n, Nat.le_refl _, hn, fun j hj => ?_⟩
      cases hp : p j with
      | false => rfl
      | true => exact absurd ⟨j, hj, hp⟩ h
theorem ctz_some {x : BitVec 64} (h : ¬ ((x.toNat : Int) = 0)) : ∃ k, ctz x k := by
  have hne : x ≠ 0#64 := by rintro rfl; exact h rfl
  have : ∃ i, i < 64 ∧ x.getLsbD i = true := by
    refine Classical.byContradiction fun hn => hne ?_
    apply BitVec.eq_of_getLsbD_eq
    intro i hi
    cases hp : x.getLsbD i with
    | false => simp
    | true => exact absurd ⟨i, hi, hp⟩ hn
  obtain ⟨i, hi, hx⟩ := this
  obtain ⟨k, hk, h1, h2⟩ := least x.getLsbD i hx
  exact ⟨k, by omega, h1, h2⟩
theorem tz_ok : ∀ k : Fin 64, tz[(((1#64 <<< k.val) * 285870213051353865#64) >>> 58).toNat]? = some (k.val : Int) := by decide

theorem tz_tri {A : Assn} (hA : Tz A) {x : BitVec 64} {k : Nat} (hx : ctz x k) : Tri Tryd.prog 84 [W x] [A] fun v B => v = I k ∧ B = [A] := by
  have hk := hx.1
  have hne : ¬ ((x.toNat : Int) = 0) := by
    intro e
    have e1 : x = 0#64 := by apply BitVec.eq_of_toNat_eq; simpa using e
    have := hx.2.1
    rw [e1] at this
    simp at this
  have hl := low_bit hx
  have ht := tz_ok ⟨k, hk⟩
  simp only at ht
  have hlt : (((1#64 <<< k) * 285870213051353865#64) >>> 58).toNat < 64 := by
    have := (List.getElem?_eq_some_iff.1 ht).1
    exact this
  refine tri_intro Tryd.func84 rfl Tryd.ntmps84 rfl fun E F => ?_
  repeat (first | refine jo_cons ?_ | (refine jo_iso ?_; first | (refine jo_isbin ?_; first | refine jo_v (by first | exact pv_add rfl rfl (by omega) | exact pv_sub rfl rfl (by omega)) rfl ?_ | refine jo_pure tab_ok rfl rfl ?_) | refine jo_pure tab_ok rfl rfl ?_ | refine jo_want rfl ?_ | refine jo_skip rfl rfl ?_ | refine jo_load tab_ok rfl rfl rfl (by first | ((repeat first | exact Rd.here rfl | refine Rd.there ?_); done) | assumption) rfl ?_) | refine jo_nil ?_ | refine jc_seq ?_ | refine jc_skip ?_ | refine jc_region ?_ | refine jc_block ?_ | refine jc_ret ?_ | refine jc_exit ?_ | refine jx_then ?_ | refine jx_then_exit ?_ | refine jx_then_ret ?_ | refine jx_block ?_ | refine jx_block_ret ?_ | refine jx_block_hit ?_ | refine jx_block_miss rfl ?_ | refine jc_true rfl ?_ | refine jc_false rfl ?_)
  refine jc_beq rfl (fun h => absurd h hne) (fun _ => ?_)
  repeat (first | refine jo_cons ?_ | (refine jo_iso ?_; first | (refine jo_isbin ?_; first | refine jo_v (by first | exact pv_add rfl rfl (by omega) | exact pv_sub rfl rfl (by omega)) rfl ?_ | refine jo_pure tab_ok rfl rfl ?_) | refine jo_pure tab_ok rfl rfl ?_ | refine jo_want rfl ?_ | refine jo_skip rfl rfl ?_ | refine jo_load tab_ok rfl rfl rfl (by first | ((repeat first | exact Rd.here rfl | refine Rd.there ?_); done) | assumption) rfl ?_) | refine jo_nil ?_ | refine jc_seq ?_ | refine jc_skip ?_ | refine jc_region ?_ | refine jc_block ?_ | refine jc_ret ?_ | refine jc_exit ?_ | refine jx_then ?_ | refine jx_then_exit ?_ | refine jx_then_ret ?_ | refine jx_block ?_ | refine jx_block_ret ?_ | refine jx_block_hit ?_ | refine jx_block_miss rfl ?_ | refine jc_true rfl ?_ | refine jc_false rfl ?_)
  refine jo_v (pv_neg64 rfl) rfl (jo_cons ?_)
  refine jo_v (pv_and (a := x) rfl rfl) rfl (jo_cons ?_)
  refine jo_v (pv_mul64 (b := 285870213051353865#64) rfl rfl) rfl (jo_cons ?_)
  refine jo_v (pv_shr 58 rfl rfl rfl (by decide)) rfl (jo_cons ?_)
  refine jo_v (pv_index_arr Tb.tab_ok _ rfl rfl rfl rfl rfl rfl rfl (by rw [hl]; exact hlt)) rfl (jo_cons ?_)
  refine jo_load Tb.tab_ok rfl rfl rfl ((hA _).one (k := _) (v := .int .u8 k) (by rw [hl, List.getElem?_map, ht]; rfl)) rfl (jo_cons ?_)
  refine jo_v (pv_conv (a := (k : Int)) Tb.tab_ok rfl rfl rfl rfl rfl (i64_in ⟨by omega, by omega⟩)) rfl (jo_cons ?_)
  repeat (first | refine jo_cons ?_ | (refine jo_iso ?_; first | (refine jo_isbin ?_; first | refine jo_v (by first | exact pv_add rfl rfl (by omega) | exact pv_sub rfl rfl (by omega)) rfl ?_ | refine jo_pure tab_ok rfl rfl ?_) | refine jo_pure tab_ok rfl rfl ?_ | refine jo_want rfl ?_ | refine jo_skip rfl rfl ?_ | refine jo_load tab_ok rfl rfl rfl (by first | ((repeat first | exact Rd.here rfl | refine Rd.there ?_); done) | assumption) rfl ?_) | refine jo_nil ?_ | refine jc_seq ?_ | refine jc_skip ?_ | refine jc_region ?_ | refine jc_block ?_ | refine jc_ret ?_ | refine jc_exit ?_ | refine jx_then ?_ | refine jx_then_exit ?_ | refine jx_then_ret ?_ | refine jx_block ?_ | refine jx_block_ret ?_ | refine jx_block_hit ?_ | refine jx_block_miss rfl ?_ | refine jc_true rfl ?_ | refine jc_false rfl ?_)
  exact j_ret [0] [] rfl ⟨rfl, rfl⟩ ⟨rfl, rfl⟩
end Go.Proofs.YtejaonodaplbhaaDoor
