import Derived.Test.YtejaonodaplbhaaDoorSp13
import Derived.Test.YtejaonodaplbhaaDoorPg
namespace Go.Proofs.YtejaonodaplbhaaDoor
namespace S16
open Go Go.Proofs.YtejaonodaplbhaaDoor.Hp Sp S2 S3 S4 S5 S6 S7 S8 S9 S10 S11 S12 S13 S14 S15 Pf Pg
set_option maxRecDepth 10000
set_option linter.unusedVariables false
set_option linter.unusedSimpArgs false
attribute [local irreducible] wpList Code.wp wpAny wpAnyK
def tab : Tab := [
  ⟨3, .int .i64, 1, 8, [.int .i64 0]⟩,
  ⟨4, .bool, 1, 1, [.bool false]⟩,
  ⟨47, .slice 3, 1, 24, [.slice none 0 0]⟩,
  ⟨30, .iface, 1, 16, [.nilIface]⟩,
  ⟨35, .struct [(0, 33)], 1, 24, [.slice none 0 0]⟩,
  ⟨33, .slice 51, 1, 24, [.slice none 0 0]⟩,
  ⟨51, .struct [(0, 3), (1, 3)], 2, 16, [.int .i64 0, .int .i64 0]⟩,
  ⟨43, .struct [(0, 3), (1, 3)], 2, 16, [.int .i64 0, .int .i64 0]⟩,
  ⟨27, .slice 43, 1, 24, [.slice none 0 0]⟩,
  ⟨39, .slice 4, 1, 24, [.slice none 0 0]⟩,
  ⟨79, .pointer 104, 1, 8, [.pointer none]⟩,
  ⟨81, .struct [(0, 79), (1, 79), (2, 79)], 3, 24, [.pointer none, .pointer none, .pointer none]⟩,
  ⟨77, .pointer 81, 1, 8, [.pointer none]⟩,
  ⟨69, .slice 77, 1, 24, [.slice none 0 0]⟩,
  ⟨71, .struct [(0, 35), (1, 69)], 2, 48, [.slice none 0 0, .slice none 0 0]⟩,
  ⟨68, .pointer 71, 1, 8, [.pointer none]⟩,
  ⟨73, .struct [(0, 68), (1, 68)], 2, 16, [.pointer none, .pointer none]⟩,
  ⟨28, .pointer 73, 1, 8, [.pointer none]⟩,
  ⟨115, .array 3 79, 3, 24, [.pointer none, .pointer none, .pointer none]⟩,
  ⟨116, .slice 79, 1, 24, [.slice none 0 0]⟩,
  ⟨76, .int .i64, 1, 8, [.int .i64 0]⟩]
theorem tab_3 : TE.ok Tryd.prog ⟨3, .int .i64, 1, 8, [.int .i64 0]⟩ := ⟨by kernel_rfl, by kernel_rfl, by kernel_rfl, by kernel_rfl⟩
theorem tab_4 : TE.ok Tryd.prog ⟨4, .bool, 1, 1, [.bool false]⟩ := ⟨by kernel_rfl, by kernel_rfl, by kernel_rfl, by kernel_rfl⟩
theorem tab_47 : TE.ok Tryd.prog ⟨47, .slice 3, 1, 24, [.slice none 0 0]⟩ := ⟨by kernel_rfl, by kernel_rfl, by kernel_rfl, by kernel_rfl⟩
theorem tab_30 : TE.ok Tryd.prog ⟨30, .iface, 1, 16, [.nilIface]⟩ := ⟨by kernel_rfl, by kernel_rfl, by kernel_rfl, by kernel_rfl⟩
theorem tab_35 : TE.ok Tryd.prog ⟨35, .struct [(0, 33)], 1, 24, [.slice none 0 0]⟩ := ⟨by kernel_rfl, by kernel_rfl, by kernel_rfl, by kernel_rfl⟩
theorem tab_33 : TE.ok Tryd.prog ⟨33, .slice 51, 1, 24, [.slice none 0 0]⟩ := ⟨by kernel_rfl, by kernel_rfl, by kernel_rfl, by kernel_rfl⟩
theorem tab_51 : TE.ok Tryd.prog ⟨51, .struct [(0, 3), (1, 3)], 2, 16, [.int .i64 0, .int .i64 0]⟩ := ⟨by kernel_rfl, by kernel_rfl, by kernel_rfl, by kernel_rfl⟩
theorem tab_43 : TE.ok Tryd.prog ⟨43, .struct [(0, 3), (1, 3)], 2, 16, [.int .i64 0, .int .i64 0]⟩ := ⟨by kernel_rfl, by kernel_rfl, by kernel_rfl, by kernel_rfl⟩
theorem tab_27 : TE.ok Tryd.prog ⟨27, .slice 43, 1, 24, [.slice none 0 0]⟩ := ⟨by kernel_rfl, by kernel_rfl, by kernel_rfl, by kernel_rfl⟩
theorem tab_39 : TE.ok Tryd.prog ⟨39, .slice 4, 1, 24, [.slice none 0 0]⟩ := ⟨by kernel_rfl, by kernel_rfl, by kernel_rfl, by kernel_rfl⟩
theorem tab_79 : TE.ok Tryd.prog ⟨79, .pointer 104, 1, 8, [.pointer none]⟩ := ⟨by kernel_rfl, by kernel_rfl, by kernel_rfl, by kernel_rfl⟩
theorem tab_81 : TE.ok Tryd.prog ⟨81, .struct [(0, 79), (1, 79), (2, 79)], 3, 24, [.pointer none, .pointer none, .pointer none]⟩ := ⟨by kernel_rfl, by kernel_rfl, by kernel_rfl, by kernel_rfl⟩
theorem tab_77 : TE.ok Tryd.prog ⟨77, .pointer 81, 1, 8, [.pointer none]⟩ := ⟨by kernel_rfl, by kernel_rfl, by kernel_rfl, by kernel_rfl⟩
theorem tab_69 : TE.ok Tryd.prog ⟨69, .slice 77, 1, 24, [.slice none 0 0]⟩ := ⟨by kernel_rfl, by kernel_rfl, by kernel_rfl, by kernel_rfl⟩
theorem tab_71 : TE.ok Tryd.prog ⟨71, .struct [(0, 35), (1, 69)], 2, 48, [.slice none 0 0, .slice none 0 0]⟩ := ⟨by kernel_rfl, by kernel_rfl, by kernel_rfl, by kernel_rfl⟩
theorem tab_68 : TE.ok Tryd.prog ⟨68, .pointer 71, 1, 8, [.pointer none]⟩ := ⟨by kernel_rfl, by kernel_rfl, by kernel_rfl, by kernel_rfl⟩
theorem tab_73 : TE.ok Tryd.prog ⟨73, .struct [(0, 68), (1, 68)], 2, 16, [.pointer none, .pointer none]⟩ := ⟨by kernel_rfl, by kernel_rfl, by kernel_rfl, by kernel_rfl⟩
theorem tab_28 : TE.ok Tryd.prog ⟨28, .pointer 73, 1, 8, [.pointer none]⟩ := ⟨by kernel_rfl, by kernel_rfl, by kernel_rfl, by kernel_rfl⟩
theorem tab_115 : TE.ok Tryd.prog ⟨115, .array 3 79, 3, 24, [.pointer none, .pointer none, .pointer none]⟩ := ⟨by kernel_rfl, by kernel_rfl, by kernel_rfl, by kernel_rfl⟩
theorem tab_116 : TE.ok Tryd.prog ⟨116, .slice 79, 1, 24, [.slice none 0 0]⟩ := ⟨by kernel_rfl, by kernel_rfl, by kernel_rfl, by kernel_rfl⟩
theorem tab_76 : TE.ok Tryd.prog ⟨76, .int .i64, 1, 8, [.int .i64 0]⟩ := ⟨by kernel_rfl, by kernel_rfl, by kernel_rfl, by kernel_rfl⟩
theorem tab_ok : tab.ok Tryd.prog := by
  intro e he
  simp only [tab, List.mem_cons, List.not_mem_nil, or_false] at he
  rcases he with rfl | rfl | rfl | rfl | rfl | rfl | rfl | rfl | rfl | rfl | rfl | rfl | rfl | rfl | rfl | rfl | rfl | rfl | rfl | rfl | rfl
  · exact tab_3
  · exact tab_4
  · exact tab_47
  · exact tab_30
  · exact tab_35
  · exact tab_33
  · exact tab_51
  · exact tab_43
  · exact tab_27
  · exact tab_39
  · exact tab_79
  · exact tab_81
  · exact tab_77
  · exact tab_69
  · exact tab_71
  · exact tab_68
  · exact tab_73
  · exact tab_28
  · exact tab_115
  · exact tab_116
  · exact tab_76


open Is8 (ent17)
theorem ent23 : Enters Tryd.prog 23 := ⟨_, _, Tryd.func23, by kernel_rfl, rfl⟩

theorem at_addr2 {x : Nat × Nat} (hn : x.1 < 8) (hk : x.2 < 4096) : atD (addr x) = x.1 ∧ atK (addr x) = x.2 := by
  unfold addr
  refine ⟨?_, ?_⟩
  · unfold atD; rw [if_neg (by omega)]; omega
  · unfold atK; rw [if_neg (by omega)]; omega
theorem drained_tri {A C : Assn} {es : List Ent} {v0 v1 : Value} {L : List (Nat × Nat)} (hro : Ro A 2 v0 (ecells es)) (hok : okR es = true) (hr : Ro C 1 v1 ((L.map addr).map I)) (hroom : ∀ x ∈ L, ∃ e, Room es x e) :
    Tri Tryd.prog 23 [v0, v1] [A, C] fun v B => v = I 0 ∧ B = [A, C] := by
  obtain ⟨base, len, cap, rfl, hlen, hlm, hor⟩ := hro
  rw [ecells_len] at hlen
  have hlen : es.length = len := by omega
  obtain ⟨base1, len1, cap1, rfl, hlen1, hlm1, hor1⟩ := hr
  simp only [List.length_map, Nat.mul_one, maxLen] at hlen1 hlm1
  refine tri_introX Tryd.func23 rfl Tryd.ntmps23 rfl fun E X => ?_
  (refine j_nm rfl ?_; repeat (first | refine jo_cons ?_ | (refine jo_iso ?_; first | (refine jo_isbin ?_; first | refine jo_v (by first | exact pv_add rfl rfl (by omega) | exact pv_sub rfl rfl (by omega)) rfl ?_ | refine jo_pure tab_ok rfl rfl ?_ | refine jo_v (by first | exact pv_add64 rfl rfl | exact pv_ptr_eq tab_ok rfl rfl rfl | exact pv_ptr_ne tab_ok rfl rfl rfl | exact pv_if_eq tab_ok rfl rfl rfl (.inl rfl) | exact pv_if_eq tab_ok rfl rfl rfl (.inr ⟨_, _, rfl⟩) | exact pv_if_ne tab_ok rfl rfl rfl (.inl rfl) | exact pv_if_ne tab_ok rfl rfl rfl (.inr ⟨_, _, rfl⟩)) rfl ?_) | refine jo_pure tab_ok rfl rfl ?_ | refine jo_want rfl ?_ | refine jo_skip rfl rfl ?_ | refine jo_load tab_ok rfl rfl rfl (by first | ((repeat first | exact Rd.here rfl | refine Rd.there ?_); done) | assumption) rfl ?_) | refine jo_nil ?_ | refine jc_seq ?_ | refine jc_skip ?_ | refine jc_region ?_ | refine jc_block ?_ | refine jc_ret ?_ | refine jc_exit ?_ | refine jx_then ?_ | refine jx_then_exit ?_ | refine jx_then_ret ?_ | refine jx_block ?_ | refine jx_block_ret ?_ | refine jx_block_hit ?_ | refine jx_block_miss rfl ?_ | refine jc_true rfl ?_ | refine jc_false rfl ?_))
  refine jc_loop (ι := Nat) (fun i => [(12, I i), (11, I len1), (10, .slice base1 len1 cap1), (5, I 0), (0, .slice base len cap)]) (fun _ => A :: C :: [X]) (fun i => i ≤ len1) (fun i => len1 - i) 0 [] [] (Nat.zero_le _) ⟨rfl, rfl, rfl, rfl, rfl, trivial⟩ rfl ?_
  intro i hi
  (refine j_nm rfl ?_; repeat (first | refine jo_cons ?_ | (refine jo_iso ?_; first | (refine jo_isbin ?_; first | refine jo_v (by first | exact pv_add rfl rfl (by omega) | exact pv_sub rfl rfl (by omega)) rfl ?_ | refine jo_pure tab_ok rfl rfl ?_ | refine jo_v (by first | exact pv_add64 rfl rfl | exact pv_ptr_eq tab_ok rfl rfl rfl | exact pv_ptr_ne tab_ok rfl rfl rfl | exact pv_if_eq tab_ok rfl rfl rfl (.inl rfl) | exact pv_if_eq tab_ok rfl rfl rfl (.inr ⟨_, _, rfl⟩) | exact pv_if_ne tab_ok rfl rfl rfl (.inl rfl) | exact pv_if_ne tab_ok rfl rfl rfl (.inr ⟨_, _, rfl⟩)) rfl ?_) | refine jo_pure tab_ok rfl rfl ?_ | refine jo_want rfl ?_ | refine jo_skip rfl rfl ?_ | refine jo_load tab_ok rfl rfl rfl (by first | ((repeat first | exact Rd.here rfl | refine Rd.there ?_); done) | assumption) rfl ?_) | refine jo_nil ?_ | refine jc_seq ?_ | refine jc_skip ?_ | refine jc_region ?_ | refine jc_block ?_ | refine jc_ret ?_ | refine jc_exit ?_ | refine jx_then ?_ | refine jx_then_exit ?_ | refine jx_then_ret ?_ | refine jx_block ?_ | refine jx_block_ret ?_ | refine jx_block_hit ?_ | refine jx_block_miss rfl ?_ | refine jc_true rfl ?_ | refine jc_false rfl ?_))
  refine jc_dec rfl (fun h => ?_) (fun h => ?_)
  · have hi' : i < len1 := by omega
    have hiL : i < L.length := by omega
    obtain ⟨b1, o1, rfl, hrd1⟩ := hor1.resolve_left (by omega)
    obtain ⟨e, hre⟩ := hroom L[i] (List.getElem_mem hiL)
    obtain ⟨hs1, hs2⟩ := hre.small hok
    have hat := hre.at_
    have hact := hre.act
    have hgi : ((L.map addr).map I)[i]? = some (I (addr L[i])) := by rw [List.getElem?_map, List.getElem?_map, List.getElem?_eq_getElem hiL]; rfl
    generalize L[i] = x at hs1 hs2 hat hact hgi
    obtain ⟨ha1, ha2⟩ := at_addr2 hs1 hs2
    have hnl : x.1 < es.length := (List.getElem?_eq_some_iff.1 hat).1
    obtain ⟨b, o, rfl, hrd⟩ := hor.resolve_left (by omega)
    obtain ⟨c1, c2⟩ := ecells_at es x.1 hnl
    have hst : es[x.1].1 = 1 := by rw [List.getElem?_eq_getElem hnl] at hat; rw [Option.some.inj hat]; exact hact
    rw [hst] at c1
    (refine j_nm rfl ?_; repeat (first | refine jo_cons ?_ | (refine jo_iso ?_; first | (refine jo_isbin ?_; first | refine jo_v (by first | exact pv_add rfl rfl (by omega) | exact pv_sub rfl rfl (by omega)) rfl ?_ | refine jo_pure tab_ok rfl rfl ?_ | refine jo_v (by first | exact pv_add64 rfl rfl | exact pv_ptr_eq tab_ok rfl rfl rfl | exact pv_ptr_ne tab_ok rfl rfl rfl | exact pv_if_eq tab_ok rfl rfl rfl (.inl rfl) | exact pv_if_eq tab_ok rfl rfl rfl (.inr ⟨_, _, rfl⟩) | exact pv_if_ne tab_ok rfl rfl rfl (.inl rfl) | exact pv_if_ne tab_ok rfl rfl rfl (.inr ⟨_, _, rfl⟩)) rfl ?_) | refine jo_pure tab_ok rfl rfl ?_ | refine jo_want rfl ?_ | refine jo_skip rfl rfl ?_ | refine jo_load tab_ok rfl rfl rfl (by first | ((repeat first | exact Rd.here rfl | refine Rd.there ?_); done) | assumption) rfl ?_) | refine jo_nil ?_ | refine jc_seq ?_ | refine jc_skip ?_ | refine jc_region ?_ | refine jc_block ?_ | refine jc_ret ?_ | refine jc_exit ?_ | refine jx_then ?_ | refine jx_then_exit ?_ | refine jx_then_ret ?_ | refine jx_block ?_ | refine jx_block_ret ?_ | refine jx_block_hit ?_ | refine jx_block_miss rfl ?_ | refine jc_true rfl ?_ | refine jc_false rfl ?_))
    refine jo_v (pv_index1 tab_ok i rfl rfl rfl rfl rfl rfl rfl hi') rfl (jo_cons ?_)
    refine jo_load tab_ok rfl rfl rfl (Rd.there ((hrd1 _).one hgi)) rfl ?_
    (refine j_nm rfl ?_; repeat (first | refine jo_cons ?_ | (refine jo_iso ?_; first | (refine jo_isbin ?_; first | refine jo_v (by first | exact pv_add rfl rfl (by omega) | exact pv_sub rfl rfl (by omega)) rfl ?_ | refine jo_pure tab_ok rfl rfl ?_ | refine jo_v (by first | exact pv_add64 rfl rfl | exact pv_ptr_eq tab_ok rfl rfl rfl | exact pv_ptr_ne tab_ok rfl rfl rfl | exact pv_if_eq tab_ok rfl rfl rfl (.inl rfl) | exact pv_if_eq tab_ok rfl rfl rfl (.inr ⟨_, _, rfl⟩) | exact pv_if_ne tab_ok rfl rfl rfl (.inl rfl) | exact pv_if_ne tab_ok rfl rfl rfl (.inr ⟨_, _, rfl⟩)) rfl ?_) | refine jo_pure tab_ok rfl rfl ?_ | refine jo_want rfl ?_ | refine jo_skip rfl rfl ?_ | refine jo_load tab_ok rfl rfl rfl (by first | ((repeat first | exact Rd.here rfl | refine Rd.there ?_); done) | assumption) rfl ?_) | refine jo_nil ?_ | refine jc_seq ?_ | refine jc_skip ?_ | refine jc_region ?_ | refine jc_block ?_ | refine jc_ret ?_ | refine jc_exit ?_ | refine jx_then ?_ | refine jx_then_exit ?_ | refine jx_then_ret ?_ | refine jx_block ?_ | refine jx_block_ret ?_ | refine jx_block_hit ?_ | refine jx_block_miss rfl ?_ | refine jc_true rfl ?_ | refine jc_false rfl ?_))
    refine jo_call [] (at_tri (addr x)) ent9 rfl ⟨rfl, rfl⟩ rfl ?_
    rintro v B ⟨rfl, rfl⟩
    rw [ha1, ha2]
    (refine j_nm rfl ?_; repeat (first | refine jo_cons ?_ | (refine jo_iso ?_; first | (refine jo_isbin ?_; first | refine jo_v (by first | exact pv_add rfl rfl (by omega) | exact pv_sub rfl rfl (by omega)) rfl ?_ | refine jo_pure tab_ok rfl rfl ?_ | refine jo_v (by first | exact pv_add64 rfl rfl | exact pv_ptr_eq tab_ok rfl rfl rfl | exact pv_ptr_ne tab_ok rfl rfl rfl | exact pv_if_eq tab_ok rfl rfl rfl (.inl rfl) | exact pv_if_eq tab_ok rfl rfl rfl (.inr ⟨_, _, rfl⟩) | exact pv_if_ne tab_ok rfl rfl rfl (.inl rfl) | exact pv_if_ne tab_ok rfl rfl rfl (.inr ⟨_, _, rfl⟩)) rfl ?_) | refine jo_pure tab_ok rfl rfl ?_ | refine jo_want rfl ?_ | refine jo_skip rfl rfl ?_ | refine jo_load tab_ok rfl rfl rfl (by first | ((repeat first | exact Rd.here rfl | refine Rd.there ?_); done) | assumption) rfl ?_) | refine jo_nil ?_ | refine jc_seq ?_ | refine jc_skip ?_ | refine jc_region ?_ | refine jc_block ?_ | refine jc_ret ?_ | refine jc_exit ?_ | refine jx_then ?_ | refine jx_then_exit ?_ | refine jx_then_ret ?_ | refine jx_block ?_ | refine jx_block_ret ?_ | refine jx_block_hit ?_ | refine jx_block_miss rfl ?_ | refine jc_true rfl ?_ | refine jc_false rfl ?_))
    refine jo_v (pv_index tab_ok x.1 rfl rfl rfl rfl rfl rfl (by omega)) rfl ?_
    (refine j_nm rfl ?_; repeat (first | refine jo_cons ?_ | (refine jo_iso ?_; first | (refine jo_isbin ?_; first | refine jo_v (by first | exact pv_add rfl rfl (by omega) | exact pv_sub rfl rfl (by omega)) rfl ?_ | refine jo_pure tab_ok rfl rfl ?_ | refine jo_v (by first | exact pv_add64 rfl rfl | exact pv_ptr_eq tab_ok rfl rfl rfl | exact pv_ptr_ne tab_ok rfl rfl rfl | exact pv_if_eq tab_ok rfl rfl rfl (.inl rfl) | exact pv_if_eq tab_ok rfl rfl rfl (.inr ⟨_, _, rfl⟩) | exact pv_if_ne tab_ok rfl rfl rfl (.inl rfl) | exact pv_if_ne tab_ok rfl rfl rfl (.inr ⟨_, _, rfl⟩)) rfl ?_) | refine jo_pure tab_ok rfl rfl ?_ | refine jo_want rfl ?_ | refine jo_skip rfl rfl ?_ | refine jo_load tab_ok rfl rfl rfl (by first | ((repeat first | exact Rd.here rfl | refine Rd.there ?_); done) | assumption) rfl ?_) | refine jo_nil ?_ | refine jc_seq ?_ | refine jc_skip ?_ | refine jc_region ?_ | refine jc_block ?_ | refine jc_ret ?_ | refine jc_exit ?_ | refine jx_then ?_ | refine jx_then_exit ?_ | refine jx_then_ret ?_ | refine jx_block ?_ | refine jx_block_ret ?_ | refine jx_block_hit ?_ | refine jx_block_miss rfl ?_ | refine jc_true rfl ?_ | refine jc_false rfl ?_))
    refine jo_load tab_ok rfl rfl rfl ((hrd _).one c1) rfl ?_
    (refine j_nm rfl ?_; repeat (first | refine jo_cons ?_ | (refine jo_iso ?_; first | (refine jo_isbin ?_; first | refine jo_v (by first | exact pv_add rfl rfl (by omega) | exact pv_sub rfl rfl (by omega)) rfl ?_ | refine jo_pure tab_ok rfl rfl ?_ | refine jo_v (by first | exact pv_add64 rfl rfl | exact pv_ptr_eq tab_ok rfl rfl rfl | exact pv_ptr_ne tab_ok rfl rfl rfl | exact pv_if_eq tab_ok rfl rfl rfl (.inl rfl) | exact pv_if_eq tab_ok rfl rfl rfl (.inr ⟨_, _, rfl⟩) | exact pv_if_ne tab_ok rfl rfl rfl (.inl rfl) | exact pv_if_ne tab_ok rfl rfl rfl (.inr ⟨_, _, rfl⟩)) rfl ?_) | refine jo_pure tab_ok rfl rfl ?_ | refine jo_want rfl ?_ | refine jo_skip rfl rfl ?_ | refine jo_load tab_ok rfl rfl rfl (by first | ((repeat first | exact Rd.here rfl | refine Rd.there ?_); done) | assumption) rfl ?_) | refine jo_nil ?_ | refine jc_seq ?_ | refine jc_skip ?_ | refine jc_region ?_ | refine jc_block ?_ | refine jc_ret ?_ | refine jc_exit ?_ | refine jx_then ?_ | refine jx_then_exit ?_ | refine jx_then_ret ?_ | refine jx_block ?_ | refine jx_block_ret ?_ | refine jx_block_hit ?_ | refine jx_block_miss rfl ?_ | refine jc_true rfl ?_ | refine jc_false rfl ?_))
    exact jx_round (i + 1) [] [] hi' (by omega) ⟨rfl, rfl, rfl, rfl, rfl, trivial⟩ rfl
  · (refine j_nm rfl ?_; repeat (first | refine jo_cons ?_ | (refine jo_iso ?_; first | (refine jo_isbin ?_; first | refine jo_v (by first | exact pv_add rfl rfl (by omega) | exact pv_sub rfl rfl (by omega)) rfl ?_ | refine jo_pure tab_ok rfl rfl ?_ | refine jo_v (by first | exact pv_add64 rfl rfl | exact pv_ptr_eq tab_ok rfl rfl rfl | exact pv_ptr_ne tab_ok rfl rfl rfl | exact pv_if_eq tab_ok rfl rfl rfl (.inl rfl) | exact pv_if_eq tab_ok rfl rfl rfl (.inr ⟨_, _, rfl⟩) | exact pv_if_ne tab_ok rfl rfl rfl (.inl rfl) | exact pv_if_ne tab_ok rfl rfl rfl (.inr ⟨_, _, rfl⟩)) rfl ?_) | refine jo_pure tab_ok rfl rfl ?_ | refine jo_want rfl ?_ | refine jo_skip rfl rfl ?_ | refine jo_load tab_ok rfl rfl rfl (by first | ((repeat first | exact Rd.here rfl | refine Rd.there ?_); done) | assumption) rfl ?_) | refine jo_nil ?_ | refine jc_seq ?_ | refine jc_skip ?_ | refine jc_region ?_ | refine jc_block ?_ | refine jc_ret ?_ | refine jc_exit ?_ | refine jx_then ?_ | refine jx_then_exit ?_ | refine jx_then_ret ?_ | refine jx_block ?_ | refine jx_block_ret ?_ | refine jx_block_hit ?_ | refine jx_block_miss rfl ?_ | refine jc_true rfl ?_ | refine jc_false rfl ?_))
    exact j_ret [0, 0] [] rfl ⟨rfl, rfl⟩ ⟨rfl, rfl⟩

abbrev O6 (A : Assn) : Value → List Assn → Prop := fun v B => v = .bool true ∧ B = [A]
abbrev Q6 (E : World) (A : Assn) (F : List Assn) : Exit → Act → World → Prop := bodyPost Tryd.prog Tryd.f6 (ends E (O6 A) F)
abbrev HL (hv : Value) (L : List (Nat × Nat)) : Assn := sl 3 1 hv ((L.map addr).map I)
set_option maxHeartbeats 4000000 in
theorem t39 {A : Assn} (hA : Tz A) (E : World) (X : Assn) {es : List Ent} {v0 : Value} (hro : Ro A 2 v0 (ecells es)) {ss : List Shl} (p : Nat) {L : List (Nat × Nat)} (hv : Value) {free : Int} {n : Nat} (hn : n ≤ L.length) (hI : Inv es ss)
    (h1 : sumF es ss (acts es) = free) (h2 : gsum ss = n) (h3 : sumF es (ss.map setl) (acts es) = free + n) (hroom : ∀ x ∈ L, ∃ e, Room es x e) (hb : free ≤ 40000 ∧ -40000 ≤ free ∧ n ≤ 40000) :
    J E (here Tryd.prog [.r, .r, .r, .r, .r, .r, .r, .r, .r, .r, .r, .r, .r, .r] Tryd.f6 (Q6 E A [X])) 171 [(0, v0), (7, ptr p), (9, hv), (12, I free), (13, I n)] [Spc p es ss none, HL hv L, A, X] := by
  have hI2 := inv_setl hI
  refine j_here rfl ?_
  refine j_front [1] (j_sl_ro fun hrL => ?_)
  have hrL2 := hrL
  obtain ⟨hbs, hln, hcp, rfl, hl1, hl2, hl3⟩ := hrL2
  simp only [List.length_map, Nat.mul_one] at hl1
  refine j_sl_cap fun hcap => ?_
  have hrn := hrL.to (k := n) (by omega)
  have e9 : ((L.map addr).map I).take (n * 1) = ((L.take n).map addr).map I := by rw [Nat.mul_one, List.map_take, List.map_take]
  rw [e9] at hrn
  refine j_nm rfl ?_
  refine jc_seq ?_
  refine jc_drawh 99 [] mo .nil fun hrd => ?_
  refine jh_pure tab_ok 0 rfl (by kernel_rfl) rfl rfl hrd ?_
  refine jh_pure tab_ok 2 rfl (by kernel_rfl) rfl rfl hrd ?_
  refine jh_one 1 rfl (by kernel_rfl) ?_
  refine jo_call [1] (free8_tri hI) ent14 rfl ⟨rfl, rfl⟩ rfl ?_
  rintro v B ⟨rfl, rfl⟩
  rw [h1]
  refine j_nm rfl ?_
  refine jh_back .nil fun hrd => ?_
  refine jh_one 3 rfl (by kernel_rfl) (jo_pure tab_ok rfl rfl (jh_back hrd fun hrd => ?_))
  refine jh_one 4 rfl (by kernel_rfl) (jo_pure tab_ok rfl rfl (jh_back hrd fun hrd => ?_))
  refine j_beq 148 rfl (fun _ => ?_) (fun h => absurd rfl h)
  refine jh_pureg tab_ok 5 rfl (by kernel_rfl) rfl rfl rfl hrd ?_
  refine jh_pureg tab_ok 7 rfl (by kernel_rfl) rfl rfl rfl hrd ?_
  refine jh_one 6 rfl (by kernel_rfl) ?_
  refine jo_want rfl ?_
  refine jo_call [0] (settle_tri hI) ent21 rfl ⟨rfl, rfl⟩ rfl ?_
  rintro v B ⟨rfl, rfl⟩
  rw [h2]
  refine j_nm rfl ?_
  refine jh_back .nil fun hrd => ?_
  refine jh_pureg tab_ok 8 rfl (by kernel_rfl) rfl rfl rfl hrd ?_
  refine jh_one 9 rfl (by kernel_rfl) (jo_pure tab_ok rfl rfl (jh_back hrd fun hrd => ?_))
  refine jh_one 10 rfl (by kernel_rfl) (jo_pure tab_ok rfl rfl (jh_back hrd fun hrd => ?_))
  refine j_beq 154 rfl (fun _ => ?_) (fun h => absurd rfl h)
  refine jh_pureg tab_ok 11 rfl (by kernel_rfl) rfl rfl rfl hrd ?_
  refine jh_pureg tab_ok 13 rfl (by kernel_rfl) rfl rfl rfl hrd ?_
  refine jh_pureg tab_ok 14 rfl (by kernel_rfl) rfl rfl rfl hrd ?_
  refine jh_sg 15 rfl (by kernel_rfl) rfl ((pv_add rfl rfl (by omega)).ps) rfl hrd ?_
  refine jh_pureg tab_ok 16 rfl (by kernel_rfl) rfl rfl rfl hrd ?_
  refine jh_pureg tab_ok 17 rfl (by kernel_rfl) rfl rfl rfl hrd ?_
  refine jh_pureg tab_ok 18 rfl (by kernel_rfl) rfl rfl rfl hrd ?_
  refine jh_sg 19 rfl (by kernel_rfl) rfl ((pv_slice_to tab_ok n rfl rfl rfl rfl rfl rfl (by omega)).ps) rfl hrd ?_
  refine jh_one 12 rfl (by kernel_rfl) ?_
  refine jo_want rfl ?_
  refine jo_call [0] (free8_tri hI2) ent14 rfl ⟨rfl, rfl⟩ rfl ?_
  rintro v B ⟨rfl, rfl⟩
  rw [h3]
  refine j_nm rfl ?_
  refine jh_back .nil fun hrd => ?_
  refine jh_one 20 rfl (by kernel_rfl) ?_
  refine jo_want rfl ?_
  refine jo_call [2, 1] (drained_tri hro hI.right hrn (fun x hx => hroom x (List.mem_of_mem_take hx))) ent23 rfl ⟨rfl, rfl⟩ rfl ?_
  rintro v B ⟨rfl, rfl⟩
  refine j_nm rfl ?_
  refine jh_back .nil fun hrd => ?_
  refine jh_sg 21 rfl (by kernel_rfl) rfl ((pv_sub rfl rfl (by omega)).ps) rfl hrd ?_
  refine jh_pureg tab_ok 22 rfl (by kernel_rfl) rfl rfl rfl hrd ?_
  refine jh_one 23 rfl (by kernel_rfl) (jo_pure tab_ok rfl rfl (jh_back hrd fun hrd => ?_))
  refine jh_one 24 rfl (by kernel_rfl) (jo_pure tab_ok rfl rfl (jh_back hrd fun hrd => ?_))
  refine j_beq 168 rfl (fun _ => ?_) (fun h => absurd (by omega) h)
  refine jh_one 25 rfl (by kernel_rfl) ?_
  refine jo_want rfl ?_
  refine jo_call [0] (awake_tri hA) ent10 rfl ⟨rfl, rfl⟩ rfl ?_
  rintro v B ⟨rfl, rfl⟩
  refine j_nm rfl ?_
  refine jh_back .nil fun hrd => ?_
  refine jh_one 26 rfl (by kernel_rfl) (jo_pure tab_ok rfl rfl (jh_back hrd fun hrd => ?_))
  refine jh_one 27 rfl (by kernel_rfl) (jo_pure tab_ok rfl rfl (jh_back hrd fun hrd => ?_))
  refine jh_done (by kernel_rfl) ?_
  (refine j_nm rfl ?_; repeat (first | refine jo_cons ?_ | (refine jo_iso ?_; first | (refine jo_isbin ?_; first | refine jo_v (by first | exact pv_add rfl rfl (by omega) | exact pv_sub rfl rfl (by omega)) rfl ?_ | refine jo_pure tab_ok rfl rfl ?_ | refine jo_v (by first | exact pv_add64 rfl rfl | exact pv_ptr_eq tab_ok rfl rfl rfl | exact pv_ptr_ne tab_ok rfl rfl rfl | exact pv_if_eq tab_ok rfl rfl rfl (.inl rfl) | exact pv_if_eq tab_ok rfl rfl rfl (.inr ⟨_, _, rfl⟩) | exact pv_if_ne tab_ok rfl rfl rfl (.inl rfl) | exact pv_if_ne tab_ok rfl rfl rfl (.inr ⟨_, _, rfl⟩)) rfl ?_) | refine jo_pure tab_ok rfl rfl ?_ | refine jo_want rfl ?_ | refine jo_skip rfl rfl ?_ | refine jo_load tab_ok rfl rfl rfl (by first | ((repeat first | exact Rd.here rfl | refine Rd.there ?_); done) | assumption) rfl ?_) | refine jo_nil ?_ | refine jc_seq ?_ | refine jc_skip ?_ | refine jc_region ?_ | refine jc_block ?_ | refine jc_ret ?_ | refine jc_exit ?_ | refine jx_then ?_ | refine jx_then_exit ?_ | refine jx_then_ret ?_ | refine jx_block ?_ | refine jx_block_ret ?_ | refine jx_block_hit ?_ | refine jx_block_miss rfl ?_ | refine jc_true rfl ?_ | refine jc_false rfl ?_))
  exact j_ret [0] [1, 1] rfl ⟨rfl, rfl⟩ ⟨rfl, rfl⟩
end S16
end Go.Proofs.YtejaonodaplbhaaDoor
