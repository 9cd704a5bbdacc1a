import Derived.Test.YtejaonodaplbhaaDoorSp16
import Derived.Test.YtejaonodaplbhaaDoorPs
import Derived.Test.YtejaonodaplbhaaDoorOs
namespace Go.Proofs.YtejaonodaplbhaaDoor
namespace S19
open Go Go.Proofs.YtejaonodaplbhaaDoor.Hp Sp S2 S3 S4 S5 S6 S7 S8 S9 S10 S11 S12 S14 S15 S16 Pf Pg Ps
set_option maxRecDepth 10000
set_option linter.unusedVariables false
set_option linter.unusedSimpArgs false
attribute [local irreducible] wpList Code.wp wpAny wpAnyK
def tab : Tab := [
  ⟨3, .int .i64, 1, 8, [.int .i64 0]⟩,
  ⟨4, .bool, 1, 1, [.bool false]⟩,
  ⟨47, .slice 3, 1, 24, [.slice none 0 0]⟩,
  ⟨30, .iface, 1, 16, [.nilIface]⟩,
  ⟨35, .struct [(0, 33)], 1, 24, [.slice none 0 0]⟩,
  ⟨33, .slice 51, 1, 24, [.slice none 0 0]⟩,
  ⟨51, .struct [(0, 3), (1, 3)], 2, 16, [.int .i64 0, .int .i64 0]⟩,
  ⟨43, .struct [(0, 3), (1, 3)], 2, 16, [.int .i64 0, .int .i64 0]⟩,
  ⟨27, .slice 43, 1, 24, [.slice none 0 0]⟩,
  ⟨49, .struct [(0, 3), (1, 3), (2, 3), (3, 27)], 4, 48, [.int .i64 0, .int .i64 0, .int .i64 0, .slice none 0 0]⟩,
  ⟨46, .slice 49, 1, 24, [.slice none 0 0]⟩,
  ⟨39, .slice 4, 1, 24, [.slice none 0 0]⟩,
  ⟨79, .pointer 104, 1, 8, [.pointer none]⟩,
  ⟨81, .struct [(0, 79), (1, 79), (2, 79)], 3, 24, [.pointer none, .pointer none, .pointer none]⟩,
  ⟨77, .pointer 81, 1, 8, [.pointer none]⟩,
  ⟨69, .slice 77, 1, 24, [.slice none 0 0]⟩,
  ⟨71, .struct [(0, 35), (1, 69)], 2, 48, [.slice none 0 0, .slice none 0 0]⟩,
  ⟨68, .pointer 71, 1, 8, [.pointer none]⟩,
  ⟨73, .struct [(0, 68), (1, 68)], 2, 16, [.pointer none, .pointer none]⟩,
  ⟨28, .pointer 73, 1, 8, [.pointer none]⟩,
  ⟨115, .array 3 79, 3, 24, [.pointer none, .pointer none, .pointer none]⟩,
  ⟨116, .slice 79, 1, 24, [.slice none 0 0]⟩,
  ⟨76, .int .i64, 1, 8, [.int .i64 0]⟩]
theorem tab_3 : TE.ok Tryd.prog ⟨3, .int .i64, 1, 8, [.int .i64 0]⟩ := ⟨by kernel_rfl, by kernel_rfl, by kernel_rfl, by kernel_rfl⟩
theorem tab_4 : TE.ok Tryd.prog ⟨4, .bool, 1, 1, [.bool false]⟩ := ⟨by kernel_rfl, by kernel_rfl, by kernel_rfl, by kernel_rfl⟩
theorem tab_47 : TE.ok Tryd.prog ⟨47, .slice 3, 1, 24, [.slice none 0 0]⟩ := ⟨by kernel_rfl, by kernel_rfl, by kernel_rfl, by kernel_rfl⟩
theorem tab_30 : TE.ok Tryd.prog ⟨30, .iface, 1, 16, [.nilIface]⟩ := ⟨by kernel_rfl, by kernel_rfl, by kernel_rfl, by kernel_rfl⟩
theorem tab_35 : TE.ok Tryd.prog ⟨35, .struct [(0, 33)], 1, 24, [.slice none 0 0]⟩ := ⟨by kernel_rfl, by kernel_rfl, by kernel_rfl, by kernel_rfl⟩
theorem tab_33 : TE.ok Tryd.prog ⟨33, .slice 51, 1, 24, [.slice none 0 0]⟩ := ⟨by kernel_rfl, by kernel_rfl, by kernel_rfl, by kernel_rfl⟩
theorem tab_51 : TE.ok Tryd.prog ⟨51, .struct [(0, 3), (1, 3)], 2, 16, [.int .i64 0, .int .i64 0]⟩ := ⟨by kernel_rfl, by kernel_rfl, by kernel_rfl, by kernel_rfl⟩
theorem tab_43 : TE.ok Tryd.prog ⟨43, .struct [(0, 3), (1, 3)], 2, 16, [.int .i64 0, .int .i64 0]⟩ := ⟨by kernel_rfl, by kernel_rfl, by kernel_rfl, by kernel_rfl⟩
theorem tab_27 : TE.ok Tryd.prog ⟨27, .slice 43, 1, 24, [.slice none 0 0]⟩ := ⟨by kernel_rfl, by kernel_rfl, by kernel_rfl, by kernel_rfl⟩
theorem tab_49 : TE.ok Tryd.prog ⟨49, .struct [(0, 3), (1, 3), (2, 3), (3, 27)], 4, 48, [.int .i64 0, .int .i64 0, .int .i64 0, .slice none 0 0]⟩ := ⟨by kernel_rfl, by kernel_rfl, by kernel_rfl, by kernel_rfl⟩
theorem tab_46 : TE.ok Tryd.prog ⟨46, .slice 49, 1, 24, [.slice none 0 0]⟩ := ⟨by kernel_rfl, by kernel_rfl, by kernel_rfl, by kernel_rfl⟩
theorem tab_39 : TE.ok Tryd.prog ⟨39, .slice 4, 1, 24, [.slice none 0 0]⟩ := ⟨by kernel_rfl, by kernel_rfl, by kernel_rfl, by kernel_rfl⟩
theorem tab_79 : TE.ok Tryd.prog ⟨79, .pointer 104, 1, 8, [.pointer none]⟩ := ⟨by kernel_rfl, by kernel_rfl, by kernel_rfl, by kernel_rfl⟩
theorem tab_81 : TE.ok Tryd.prog ⟨81, .struct [(0, 79), (1, 79), (2, 79)], 3, 24, [.pointer none, .pointer none, .pointer none]⟩ := ⟨by kernel_rfl, by kernel_rfl, by kernel_rfl, by kernel_rfl⟩
theorem tab_77 : TE.ok Tryd.prog ⟨77, .pointer 81, 1, 8, [.pointer none]⟩ := ⟨by kernel_rfl, by kernel_rfl, by kernel_rfl, by kernel_rfl⟩
theorem tab_69 : TE.ok Tryd.prog ⟨69, .slice 77, 1, 24, [.slice none 0 0]⟩ := ⟨by kernel_rfl, by kernel_rfl, by kernel_rfl, by kernel_rfl⟩
theorem tab_71 : TE.ok Tryd.prog ⟨71, .struct [(0, 35), (1, 69)], 2, 48, [.slice none 0 0, .slice none 0 0]⟩ := ⟨by kernel_rfl, by kernel_rfl, by kernel_rfl, by kernel_rfl⟩
theorem tab_68 : TE.ok Tryd.prog ⟨68, .pointer 71, 1, 8, [.pointer none]⟩ := ⟨by kernel_rfl, by kernel_rfl, by kernel_rfl, by kernel_rfl⟩
theorem tab_73 : TE.ok Tryd.prog ⟨73, .struct [(0, 68), (1, 68)], 2, 16, [.pointer none, .pointer none]⟩ := ⟨by kernel_rfl, by kernel_rfl, by kernel_rfl, by kernel_rfl⟩
theorem tab_28 : TE.ok Tryd.prog ⟨28, .pointer 73, 1, 8, [.pointer none]⟩ := ⟨by kernel_rfl, by kernel_rfl, by kernel_rfl, by kernel_rfl⟩
theorem tab_115 : TE.ok Tryd.prog ⟨115, .array 3 79, 3, 24, [.pointer none, .pointer none, .pointer none]⟩ := ⟨by kernel_rfl, by kernel_rfl, by kernel_rfl, by kernel_rfl⟩
theorem tab_116 : TE.ok Tryd.prog ⟨116, .slice 79, 1, 24, [.slice none 0 0]⟩ := ⟨by kernel_rfl, by kernel_rfl, by kernel_rfl, by kernel_rfl⟩
theorem tab_76 : TE.ok Tryd.prog ⟨76, .int .i64, 1, 8, [.int .i64 0]⟩ := ⟨by kernel_rfl, by kernel_rfl, by kernel_rfl, by kernel_rfl⟩
theorem tab_ok : tab.ok Tryd.prog := by
  intro e he
  simp only [tab, List.mem_cons, List.not_mem_nil, or_false] at he
  rcases he with rfl | rfl | rfl | rfl | rfl | rfl | rfl | rfl | rfl | rfl | rfl | rfl | rfl | rfl | rfl | rfl | rfl | rfl | rfl | rfl | rfl | rfl | rfl
  · exact tab_3
  · exact tab_4
  · exact tab_47
  · exact tab_30
  · exact tab_35
  · exact tab_33
  · exact tab_51
  · exact tab_43
  · exact tab_27
  · exact tab_49
  · exact tab_46
  · exact tab_39
  · exact tab_79
  · exact tab_81
  · exact tab_77
  · exact tab_69
  · exact tab_71
  · exact tab_68
  · exact tab_73
  · exact tab_28
  · exact tab_115
  · exact tab_116
  · exact tab_76


theorem ent18 : Enters Tryd.prog 18 := ⟨_, _, Tryd.func18, by kernel_rfl, rfl⟩

abbrev O5 (A : Assn) : Value → List Assn → Prop := fun v B => v = .bool true ∧ B = [A]
abbrev Q5 (E : World) (A : Assn) (F : List Assn) : Exit → Act → World → Prop := bodyPost Tryd.prog Tryd.f5 (ends E (O5 A) F)
abbrev HL5 (hv : Value) (L : List (Nat × Nat)) : Assn := sl 3 1 hv ((L.map addr).map I)
/-- a round's state -/
structure St where
  i : Nat
  ss : List Shl
  L : List (Nat × Nat)
  G : List (Nat × Nat)
  F : List Bool
  hv : Value
  ov : Value
  fb : Nat
abbrev I5 (v0 v1 : Value) (ln p m : Nat) (x : St) : Fr := [(53, I x.i), (52, I ln), (51, v1), (9, .slice (some ⟨x.fb, 0, none⟩) m m), (8, x.ov), (7, x.hv), (5, ptr p), (0, v0)]
abbrev A5 (A X : Assn) (es : List Ent) (p : Nat) (x : St) : List Assn := Spc p es x.ss none :: HL5 x.hv x.L :: HL5 x.ov x.G :: cl x.fb (x.F.map Value.bool) 4 :: A :: [X]
abbrev p5 (es : List Ent) (ln : Nat) (x : St) : Prop := Sf es x.ss x.L x.G x.F ∧ x.L.length + x.G.length ≤ x.i ∧ x.i ≤ ln
abbrev R5 (E : World) (A X : Assn) (es : List Ent) (v0 v1 : Value) (ln p m kk : Nat) : Act → World → Prop :=
  Rnd E 205 (I5 v0 v1 ln p m) (A5 A X es p) (p5 es ln) (fun x => ln - x.i) kk
set_option maxHeartbeats 4000000 in
theorem s33 {A : Assn} (hA : Tz A) (E : World) (X : Assn) {es : List Ent} {base : Option Addr} {len cap : Nat} (hro : Ro A 2 (.slice base len cap) (ecells es)) {ss : List Shl} (p : Nat) {L G : List (Nat × Nat)} (hv ov : Value) {F : List Bool} (hF : Sf es ss L G F) (hbnd : L.length + G.length ≤ 1000) :
    J E (here Tryd.prog [.r, .r, .r, .r, .r, .r] Tryd.f5 (Q5 E A [X])) 205 [(0, .slice base len cap), (5, ptr p), (7, hv), (8, ov)] [Spc p es ss none, HL5 hv L, HL5 ov G, A, X] := by
  obtain ⟨_, _, _, e0, hlen, hlm, hor⟩ := hro
  cases e0
  rw [ecells_len] at hlen
  have hlen : es.length = len := by omega
  simp only [maxLen] at hlm
  have hsl := hF.inv.len
  have hus := hF.us
  refine j_here rfl ?_
  (refine j_nm rfl ?_; repeat (first | refine jo_cons ?_ | (refine jo_iso ?_; first | (refine jo_isbin ?_; first | refine jo_v (by first | exact pv_add rfl rfl (by omega) | exact pv_sub rfl rfl (by omega)) rfl ?_ | refine jo_pure tab_ok rfl rfl ?_ | refine jo_v (by first | exact pv_add64 rfl rfl | exact pv_ptr_eq tab_ok rfl rfl rfl | exact pv_ptr_ne tab_ok rfl rfl rfl | exact pv_if_eq tab_ok rfl rfl rfl (.inl rfl) | exact pv_if_eq tab_ok rfl rfl rfl (.inr ⟨_, _, rfl⟩) | exact pv_if_ne tab_ok rfl rfl rfl (.inl rfl) | exact pv_if_ne tab_ok rfl rfl rfl (.inr ⟨_, _, rfl⟩)) rfl ?_) | refine jo_pure tab_ok rfl rfl ?_ | refine jo_want rfl ?_ | refine jo_skip rfl rfl ?_ | refine jo_load tab_ok rfl rfl rfl (by first | ((repeat first | exact Rd.here rfl | refine Rd.there ?_); done) | assumption) rfl ?_) | refine jo_nil ?_ | refine jc_seq ?_ | refine jc_skip ?_ | refine jc_region ?_ | refine jc_block ?_ | refine jc_ret ?_ | refine jc_exit ?_ | refine jx_then ?_ | refine jx_then_exit ?_ | refine jx_then_ret ?_ | refine jx_block ?_ | refine jx_block_ret ?_ | refine jx_block_hit ?_ | refine jx_block_miss rfl ?_ | refine jc_true rfl ?_ | refine jc_false rfl ?_))
  refine jc_loop (ι := Nat) (fun i => [(186, I i), (185, I len), (18, I (usum (ss.take i) : Nat)), (8, ov), (7, hv), (5, ptr p)])
    (fun _ => Spc p es ss none :: HL5 hv L :: HL5 ov G :: A :: [X]) (fun i => i ≤ len) (fun i => len - i) 0 [] [] (Nat.zero_le _) ⟨rfl, rfl, rfl, rfl, rfl, rfl, trivial⟩ rfl ?_
  intro i hi
  (refine j_nm rfl ?_; repeat (first | refine jo_cons ?_ | (refine jo_iso ?_; first | (refine jo_isbin ?_; first | refine jo_v (by first | exact pv_add rfl rfl (by omega) | exact pv_sub rfl rfl (by omega)) rfl ?_ | refine jo_pure tab_ok rfl rfl ?_ | refine jo_v (by first | exact pv_add64 rfl rfl | exact pv_ptr_eq tab_ok rfl rfl rfl | exact pv_ptr_ne tab_ok rfl rfl rfl | exact pv_if_eq tab_ok rfl rfl rfl (.inl rfl) | exact pv_if_eq tab_ok rfl rfl rfl (.inr ⟨_, _, rfl⟩) | exact pv_if_ne tab_ok rfl rfl rfl (.inl rfl) | exact pv_if_ne tab_ok rfl rfl rfl (.inr ⟨_, _, rfl⟩)) rfl ?_) | refine jo_pure tab_ok rfl rfl ?_ | refine jo_want rfl ?_ | refine jo_skip rfl rfl ?_ | refine jo_load tab_ok rfl rfl rfl (by first | ((repeat first | exact Rd.here rfl | refine Rd.there ?_); done) | assumption) rfl ?_) | refine jo_nil ?_ | refine jc_seq ?_ | refine jc_skip ?_ | refine jc_region ?_ | refine jc_block ?_ | refine jc_ret ?_ | refine jc_exit ?_ | refine jx_then ?_ | refine jx_then_exit ?_ | refine jx_then_ret ?_ | refine jx_block ?_ | refine jx_block_ret ?_ | refine jx_block_hit ?_ | refine jx_block_miss rfl ?_ | refine jc_true rfl ?_ | refine jc_false rfl ?_))
  refine jc_dec rfl (fun h => ?_) (fun h => ?_)
  · have hi' : i < len := by omega
    have his : i < ss.length := by omega
    have hsi : ss[i]? = some ss[i] := List.getElem?_eq_getElem his
    have hle := usum_le ss i
    have hle2 := usum_le ss (i + 1)
    have hnx := usum_take hsi
    have hua : usedAt ss i = (ss[i].used : Nat) := by
      unfold usedAt
      rw [if_pos (by omega), Int.toNat_natCast, hsi]
    (refine j_nm rfl ?_; repeat (first | refine jo_cons ?_ | (refine jo_iso ?_; first | (refine jo_isbin ?_; first | refine jo_v (by first | exact pv_add rfl rfl (by omega) | exact pv_sub rfl rfl (by omega)) rfl ?_ | refine jo_pure tab_ok rfl rfl ?_ | refine jo_v (by first | exact pv_add64 rfl rfl | exact pv_ptr_eq tab_ok rfl rfl rfl | exact pv_ptr_ne tab_ok rfl rfl rfl | exact pv_if_eq tab_ok rfl rfl rfl (.inl rfl) | exact pv_if_eq tab_ok rfl rfl rfl (.inr ⟨_, _, rfl⟩) | exact pv_if_ne tab_ok rfl rfl rfl (.inl rfl) | exact pv_if_ne tab_ok rfl rfl rfl (.inr ⟨_, _, rfl⟩)) rfl ?_) | refine jo_pure tab_ok rfl rfl ?_ | refine jo_want rfl ?_ | refine jo_skip rfl rfl ?_ | refine jo_load tab_ok rfl rfl rfl (by first | ((repeat first | exact Rd.here rfl | refine Rd.there ?_); done) | assumption) rfl ?_) | refine jo_nil ?_ | refine jc_seq ?_ | refine jc_skip ?_ | refine jc_region ?_ | refine jc_block ?_ | refine jc_ret ?_ | refine jc_exit ?_ | refine jx_then ?_ | refine jx_then_exit ?_ | refine jx_then_ret ?_ | refine jx_block ?_ | refine jx_block_ret ?_ | refine jx_block_hit ?_ | refine jx_block_miss rfl ?_ | refine jc_true rfl ?_ | refine jc_false rfl ?_))
    refine jo_call [0] (used8_tri hF.inv i) ent16 rfl ⟨rfl, rfl⟩ rfl ?_
    rintro v B ⟨rfl, rfl⟩
    rw [hua]
    (refine j_nm rfl ?_; repeat (first | refine jo_cons ?_ | (refine jo_iso ?_; first | (refine jo_isbin ?_; first | refine jo_v (by first | exact pv_add rfl rfl (by omega) | exact pv_sub rfl rfl (by omega)) rfl ?_ | refine jo_pure tab_ok rfl rfl ?_ | refine jo_v (by first | exact pv_add64 rfl rfl | exact pv_ptr_eq tab_ok rfl rfl rfl | exact pv_ptr_ne tab_ok rfl rfl rfl | exact pv_if_eq tab_ok rfl rfl rfl (.inl rfl) | exact pv_if_eq tab_ok rfl rfl rfl (.inr ⟨_, _, rfl⟩) | exact pv_if_ne tab_ok rfl rfl rfl (.inl rfl) | exact pv_if_ne tab_ok rfl rfl rfl (.inr ⟨_, _, rfl⟩)) rfl ?_) | refine jo_pure tab_ok rfl rfl ?_ | refine jo_want rfl ?_ | refine jo_skip rfl rfl ?_ | refine jo_load tab_ok rfl rfl rfl (by first | ((repeat first | exact Rd.here rfl | refine Rd.there ?_); done) | assumption) rfl ?_) | refine jo_nil ?_ | refine jc_seq ?_ | refine jc_skip ?_ | refine jc_region ?_ | refine jc_block ?_ | refine jc_ret ?_ | refine jc_exit ?_ | refine jx_then ?_ | refine jx_then_exit ?_ | refine jx_then_ret ?_ | refine jx_block ?_ | refine jx_block_ret ?_ | refine jx_block_hit ?_ | refine jx_block_miss rfl ?_ | refine jc_true rfl ?_ | refine jc_false rfl ?_))
    have e1 : ((usum (ss.take i) : Nat) : Int) + (ss[i].used : Nat) = (usum (ss.take (i + 1)) : Nat) := by omega
    rw [e1]
    exact jx_round (i + 1) [] [] hi' (by omega) ⟨rfl, rfl, rfl, rfl, rfl, rfl, trivial⟩ rfl
  · have hil : ss.take i = ss := List.take_of_length_le (by have h' : ¬ ((i : Int) < len) := h; omega)
    rw [hil]
    refine j_nm rfl ?_
    refine j_front [1] (j_sl_ro fun hr1 => ?_)
    obtain ⟨b1, n1, c1, rfl, hl1, _, _⟩ := hr1
    simp only [List.length_map, Nat.mul_one] at hl1
    refine j_nm rfl ?_
    refine j_front [2] (j_sl_ro fun hr2 => ?_)
    obtain ⟨b2, n2, c2, rfl, hl2, _, _⟩ := hr2
    simp only [List.length_map, Nat.mul_one] at hl2
    (refine j_nm rfl ?_; repeat (first | refine jo_cons ?_ | (refine jo_iso ?_; first | (refine jo_isbin ?_; first | refine jo_v (by first | exact pv_add rfl rfl (by omega) | exact pv_sub rfl rfl (by omega)) rfl ?_ | refine jo_pure tab_ok rfl rfl ?_ | refine jo_v (by first | exact pv_add64 rfl rfl | exact pv_ptr_eq tab_ok rfl rfl rfl | exact pv_ptr_ne tab_ok rfl rfl rfl | exact pv_if_eq tab_ok rfl rfl rfl (.inl rfl) | exact pv_if_eq tab_ok rfl rfl rfl (.inr ⟨_, _, rfl⟩) | exact pv_if_ne tab_ok rfl rfl rfl (.inl rfl) | exact pv_if_ne tab_ok rfl rfl rfl (.inr ⟨_, _, rfl⟩)) rfl ?_) | refine jo_pure tab_ok rfl rfl ?_ | refine jo_want rfl ?_ | refine jo_skip rfl rfl ?_ | refine jo_load tab_ok rfl rfl rfl (by first | ((repeat first | exact Rd.here rfl | refine Rd.there ?_); done) | assumption) rfl ?_) | refine jo_nil ?_ | refine jc_seq ?_ | refine jc_skip ?_ | refine jc_region ?_ | refine jc_block ?_ | refine jc_ret ?_ | refine jc_exit ?_ | refine jx_then ?_ | refine jx_then_exit ?_ | refine jx_then_ret ?_ | refine jx_block ?_ | refine jx_block_ret ?_ | refine jx_block_hit ?_ | refine jx_block_miss rfl ?_ | refine jc_true rfl ?_ | refine jc_false rfl ?_))
    refine j_beq 202 rfl (fun _ => ?_) (fun h => absurd (by omega) h)
    (refine j_nm rfl ?_; repeat (first | refine jo_cons ?_ | (refine jo_iso ?_; first | (refine jo_isbin ?_; first | refine jo_v (by first | exact pv_add rfl rfl (by omega) | exact pv_sub rfl rfl (by omega)) rfl ?_ | refine jo_pure tab_ok rfl rfl ?_ | refine jo_v (by first | exact pv_add64 rfl rfl | exact pv_ptr_eq tab_ok rfl rfl rfl | exact pv_ptr_ne tab_ok rfl rfl rfl | exact pv_if_eq tab_ok rfl rfl rfl (.inl rfl) | exact pv_if_eq tab_ok rfl rfl rfl (.inr ⟨_, _, rfl⟩) | exact pv_if_ne tab_ok rfl rfl rfl (.inl rfl) | exact pv_if_ne tab_ok rfl rfl rfl (.inr ⟨_, _, rfl⟩)) rfl ?_) | refine jo_pure tab_ok rfl rfl ?_ | refine jo_want rfl ?_ | refine jo_skip rfl rfl ?_ | refine jo_load tab_ok rfl rfl rfl (by first | ((repeat first | exact Rd.here rfl | refine Rd.there ?_); done) | assumption) rfl ?_) | refine jo_nil ?_ | refine jc_seq ?_ | refine jc_skip ?_ | refine jc_region ?_ | refine jc_block ?_ | refine jc_ret ?_ | refine jc_exit ?_ | refine jx_then ?_ | refine jx_then_exit ?_ | refine jx_then_ret ?_ | refine jx_block ?_ | refine jx_block_ret ?_ | refine jx_block_hit ?_ | refine jx_block_miss rfl ?_ | refine jc_true rfl ?_ | refine jc_false rfl ?_))
    refine jo_call [3] (awake_tri hA) ent10 rfl ⟨rfl, rfl⟩ rfl ?_
    rintro v B ⟨rfl, rfl⟩
    (refine j_nm rfl ?_; repeat (first | refine jo_cons ?_ | (refine jo_iso ?_; first | (refine jo_isbin ?_; first | refine jo_v (by first | exact pv_add rfl rfl (by omega) | exact pv_sub rfl rfl (by omega)) rfl ?_ | refine jo_pure tab_ok rfl rfl ?_ | refine jo_v (by first | exact pv_add64 rfl rfl | exact pv_ptr_eq tab_ok rfl rfl rfl | exact pv_ptr_ne tab_ok rfl rfl rfl | exact pv_if_eq tab_ok rfl rfl rfl (.inl rfl) | exact pv_if_eq tab_ok rfl rfl rfl (.inr ⟨_, _, rfl⟩) | exact pv_if_ne tab_ok rfl rfl rfl (.inl rfl) | exact pv_if_ne tab_ok rfl rfl rfl (.inr ⟨_, _, rfl⟩)) rfl ?_) | refine jo_pure tab_ok rfl rfl ?_ | refine jo_want rfl ?_ | refine jo_skip rfl rfl ?_ | refine jo_load tab_ok rfl rfl rfl (by first | ((repeat first | exact Rd.here rfl | refine Rd.there ?_); done) | assumption) rfl ?_) | refine jo_nil ?_ | refine jc_seq ?_ | refine jc_skip ?_ | refine jc_region ?_ | refine jc_block ?_ | refine jc_ret ?_ | refine jc_exit ?_ | refine jx_then ?_ | refine jx_then_exit ?_ | refine jx_then_ret ?_ | refine jx_block ?_ | refine jx_block_ret ?_ | refine jx_block_hit ?_ | refine jx_block_miss rfl ?_ | refine jc_true rfl ?_ | refine jc_false rfl ?_))
    exact j_ret [0] [1, 1, 1] rfl ⟨rfl, rfl⟩ ⟨rfl, rfl⟩
set_option maxHeartbeats 4000000 in
theorem s25 {A : Assn} (E : World) (X : Assn) {es : List Ent} {v0 v1 : Value} {ss : List Shl} (p m kk : Nat) (hm : m = 32768) {L G : List (Nat × Nat)} (hv ov : Value) {F : List Bool} {fb i ln q N : Nat} {kd ad : Int} {lv : Value} {x : Nat × Nat} {b : Bool}
    (hN : N < L.length) (hF : Sf es ss (L.take N ++ L.drop (N + 1)) (if b then G else G ++ [x]) (F.set (at_ x) false)) (hFb : F[at_ x]? = some b) (hbnd : L.length + G.length ≤ i) (hil : i < ln) (hln : ln ≤ 1000) (hkk : ln - (i + 1) < kk) :
    J E (here Tryd.prog [.r, .r, .r, .r, .r, .l, .r, .b, .body (R5 E A X es v0 v1 ln p m kk), .r, .r, .l, .b, .r, .r, .b, .r, .r, .r, .l, .r, .r, .r] Tryd.f5 (Q5 E A [X])) 205 [(0, v0), (5, ptr p), (7, hv), (8, ov), (9, .slice (some ⟨fb, 0, none⟩) m m), (11, ptr q), (17, I (addr x)), (51, v1), (52, I ln), (53, I i)]
      [Spc p es ss none, HL5 hv L, HL5 ov G, cl fb (F.map Value.bool) 4, cl q [I kd, I ad, I N, lv] 49, A, X] := by
  have hFl := hF.fl
  rw [List.length_set] at hFl
  have hat : at_ x < F.length := (List.getElem?_eq_some_iff.1 hFb).1
  refine j_here rfl ?_
  refine j_front [1] (j_sl_ro fun hrL => ?_)
  obtain ⟨hbs, hln', hcp, rfl, hl1, hl2, hl3⟩ := id hrL
  simp only [List.length_map, Nat.mul_one] at hl1
  refine j_sl_cap fun hcap => ?_
  have hr1 := hrL.to (k := N) (by omega)
  have hr2 := hrL.from (k := N + 1) (by omega) hcap
  obtain ⟨_, _, _, e1, g1, _, g3⟩ := hr1
  cases e1
  obtain ⟨_, _, _, e2, k1, _, k3⟩ := hr2
  cases e2
  have hone : ∀ u ∈ (L.map addr).map I, one u = true := fun u hu => by
    obtain ⟨z, _, rfl⟩ := List.mem_map.1 hu
    rfl
  refine j_nm rfl ?_
  refine jc_seq ?_
  refine jc_drawh 99 [(q, 2, I N)] mo (.cons (by first | ((repeat first | exact Rd.here rfl | refine Rd.there ?_); done) | assumption) .nil) fun hrd1 => ?_
  have hrd := hrd1
  refine jh_pure tab_ok 1 rfl (by kernel_rfl) rfl rfl hrd ?_
  refine jh_pure tab_ok 2 rfl (by kernel_rfl) rfl rfl hrd ?_
  refine jh_s 3 rfl (by kernel_rfl) (ps_load tab_ok 0 rfl rfl rfl rfl) rfl hrd ?_
  refine jh_s 4 rfl (by kernel_rfl) ((pv_slice_to tab_ok N rfl rfl rfl rfl rfl rfl (by omega)).ps) rfl hrd ?_
  refine jh_pure tab_ok 6 rfl (by kernel_rfl) rfl rfl hrd ?_
  refine jh_pure tab_ok 7 rfl (by kernel_rfl) rfl rfl hrd ?_
  refine jh_s 8 rfl (by kernel_rfl) (ps_load tab_ok 0 rfl rfl rfl rfl) rfl hrd ?_
  refine jh_s 9 rfl (by kernel_rfl) ((pv_add rfl rfl (by omega)).ps) rfl hrd ?_
  refine jh_s 10 rfl (by kernel_rfl) ((pv_slice_from tab_ok (N + 1) rfl rfl rfl rfl rfl (by omega) (by omega)).ps) rfl hrd ?_
  refine jh_one 0 rfl (by kernel_rfl) ?_
  refine jo_buildSlice tab_ok (cs := []) rfl rfl rfl rfl rfl rfl (by first | (simp [Instr.fill]; done) | simp [Instr.fill, Value.cells]) rfl fun bA => ?_
  refine j_close [0] rfl (sl_shut (size := 1) (xs := []) (sp := []) rfl (Nat.le_refl 0) (by simp [maxLen]) rfl) ?_
  refine j_nm rfl ?_
  refine jh_back (.cons (by first | ((repeat first | exact Rd.here rfl | refine Rd.there ?_); done) | assumption) .nil) fun hrd => ?_
  refine jh_one 5 rfl (by kernel_rfl) ?_
  refine jo_append tab_ok 0 (((L.map addr).map I).take (N * 1)) rfl rfl rfl rfl rfl rfl ⟨rfl, rfl⟩ g1 (g3.imp id fun ⟨b, o, h1, h2⟩ => ⟨b, o, h1, Rd.there (h2 _)⟩) (fun u hu => hone u (List.mem_of_mem_take hu)) (by intro len' hl'; simp only [List.length_nil] at hl'; exact ⟨by show (len' + N) * 8 ≤ _; omega, by simp only [maxLen]; omega⟩) rfl fun v2 => ?_
  refine j_nm rfl ?_
  refine jh_back (.cons (by first | ((repeat first | exact Rd.here rfl | refine Rd.there ?_); done) | assumption) .nil) fun hrd => ?_
  refine jh_one 11 rfl (by kernel_rfl) ?_
  refine jo_append tab_ok 0 (((L.map addr).map I).drop ((N + 1) * 1)) rfl rfl rfl rfl rfl rfl ⟨rfl, rfl⟩ k1 (k3.imp id fun ⟨b, o, h1, h2⟩ => ⟨b, o, h1, Rd.there (h2 _)⟩) (fun u hu => hone u (List.mem_of_mem_drop hu)) (by intro len' hl'; simp only [List.nil_append, List.length_take, List.length_map] at hl'; exact ⟨by show (len' + (hln' - (N + 1))) * 8 ≤ _; omega, by simp only [maxLen]; omega⟩) rfl fun v3 => ?_
  refine j_nm rfl ?_
  refine jh_back (.cons (by first | ((repeat first | exact Rd.here rfl | refine Rd.there ?_); done) | assumption) .nil) fun hrd => ?_
  refine jh_one 12 rfl (by kernel_rfl) (jo_pure tab_ok rfl rfl (jh_back hrd fun hrd => ?_))
  refine jh_done (by kernel_rfl) ?_
  have e3 : ([] ++ ((L.map addr).map I).take (N * 1)) ++ ((L.map addr).map I).drop ((N + 1) * 1) = ((L.take N ++ L.drop (N + 1)).map addr).map I := by
    simp only [List.nil_append, Nat.mul_one, List.map_append, List.map_take, List.map_drop]
  rw [e3]
  have hLl : (L.take N ++ L.drop (N + 1)).length ≤ L.length := by simp only [List.length_append, List.length_take, List.length_drop]; omega
  generalize L.take N ++ L.drop (N + 1) = L' at hF hLl ⊢
  (refine j_nm rfl ?_; repeat (first | refine jo_cons ?_ | (refine jo_iso ?_; first | (refine jo_isbin ?_; first | refine jo_v (by first | exact pv_add rfl rfl (by omega) | exact pv_sub rfl rfl (by omega)) rfl ?_ | refine jo_pure tab_ok rfl rfl ?_ | refine jo_v (by first | exact pv_add64 rfl rfl | exact pv_ptr_eq tab_ok rfl rfl rfl | exact pv_ptr_ne tab_ok rfl rfl rfl | exact pv_if_eq tab_ok rfl rfl rfl (.inl rfl) | exact pv_if_eq tab_ok rfl rfl rfl (.inr ⟨_, _, rfl⟩) | exact pv_if_ne tab_ok rfl rfl rfl (.inl rfl) | exact pv_if_ne tab_ok rfl rfl rfl (.inr ⟨_, _, rfl⟩)) rfl ?_) | refine jo_pure tab_ok rfl rfl ?_ | refine jo_want rfl ?_ | refine jo_skip rfl rfl ?_ | refine jo_load tab_ok rfl rfl rfl (by first | ((repeat first | exact Rd.here rfl | refine Rd.there ?_); done) | assumption) rfl ?_) | refine jo_nil ?_ | refine jc_seq ?_ | refine jc_skip ?_ | refine jc_region ?_ | refine jc_block ?_ | refine jc_ret ?_ | refine jc_exit ?_ | refine jx_then ?_ | refine jx_then_exit ?_ | refine jx_then_ret ?_ | refine jx_block ?_ | refine jx_block_ret ?_ | refine jx_block_hit ?_ | refine jx_block_miss rfl ?_ | refine jc_true rfl ?_ | refine jc_false rfl ?_))
  refine jo_v (pv_index1 tab_ok (at_ x) rfl rfl rfl rfl rfl rfl (by unfold addr at_; omega) (by omega)) rfl ?_
  (refine j_nm rfl ?_; repeat (first | refine jo_cons ?_ | (refine jo_iso ?_; first | (refine jo_isbin ?_; first | refine jo_v (by first | exact pv_add rfl rfl (by omega) | exact pv_sub rfl rfl (by omega)) rfl ?_ | refine jo_pure tab_ok rfl rfl ?_ | refine jo_v (by first | exact pv_add64 rfl rfl | exact pv_ptr_eq tab_ok rfl rfl rfl | exact pv_ptr_ne tab_ok rfl rfl rfl | exact pv_if_eq tab_ok rfl rfl rfl (.inl rfl) | exact pv_if_eq tab_ok rfl rfl rfl (.inr ⟨_, _, rfl⟩) | exact pv_if_ne tab_ok rfl rfl rfl (.inl rfl) | exact pv_if_ne tab_ok rfl rfl rfl (.inr ⟨_, _, rfl⟩)) rfl ?_) | refine jo_pure tab_ok rfl rfl ?_ | refine jo_want rfl ?_ | refine jo_skip rfl rfl ?_ | refine jo_load tab_ok rfl rfl rfl (by first | ((repeat first | exact Rd.here rfl | refine Rd.there ?_); done) | assumption) rfl ?_) | refine jo_nil ?_ | refine jc_seq ?_ | refine jc_skip ?_ | refine jc_region ?_ | refine jc_block ?_ | refine jc_ret ?_ | refine jc_exit ?_ | refine jx_then ?_ | refine jx_then_exit ?_ | refine jx_then_ret ?_ | refine jx_block ?_ | refine jx_block_ret ?_ | refine jx_block_hit ?_ | refine jx_block_miss rfl ?_ | refine jc_true rfl ?_ | refine jc_false rfl ?_))
  refine jo_load tab_ok rfl rfl rfl (Rd.there (Rd.there (Rd.there (Rd.there (Rd.here (by rw [Nat.zero_add, List.getElem?_map, hFb]; rfl)))))) rfl ?_
  have e4 : (F.map Value.bool).set (0 + at_ x) (.bool false) = (F.set (at_ x) false).map Value.bool := by rw [Nat.zero_add, List.map_set]
  cases b with
  | false =>
    have hF : Sf es ss L' (G ++ [x]) (F.set (at_ x) false) := hF
    (refine j_nm rfl ?_; repeat (first | refine jo_cons ?_ | (refine jo_iso ?_; first | (refine jo_isbin ?_; first | refine jo_v (by first | exact pv_add rfl rfl (by omega) | exact pv_sub rfl rfl (by omega)) rfl ?_ | refine jo_pure tab_ok rfl rfl ?_ | refine jo_v (by first | exact pv_add64 rfl rfl | exact pv_ptr_eq tab_ok rfl rfl rfl | exact pv_ptr_ne tab_ok rfl rfl rfl | exact pv_if_eq tab_ok rfl rfl rfl (.inl rfl) | exact pv_if_eq tab_ok rfl rfl rfl (.inr ⟨_, _, rfl⟩) | exact pv_if_ne tab_ok rfl rfl rfl (.inl rfl) | exact pv_if_ne tab_ok rfl rfl rfl (.inr ⟨_, _, rfl⟩)) rfl ?_) | refine jo_pure tab_ok rfl rfl ?_ | refine jo_want rfl ?_ | refine jo_skip rfl rfl ?_ | refine jo_load tab_ok rfl rfl rfl (by first | ((repeat first | exact Rd.here rfl | refine Rd.there ?_); done) | assumption) rfl ?_) | refine jo_nil ?_ | refine jc_seq ?_ | refine jc_skip ?_ | refine jc_region ?_ | refine jc_block ?_ | refine jc_ret ?_ | refine jc_exit ?_ | refine jx_then ?_ | refine jx_then_exit ?_ | refine jx_then_ret ?_ | refine jx_block ?_ | refine jx_block_ret ?_ | refine jx_block_hit ?_ | refine jx_block_miss rfl ?_ | refine jc_true rfl ?_ | refine jc_false rfl ?_))
    refine jo_buildSlice tab_ok (cs := [I (addr x)]) rfl rfl rfl rfl rfl rfl (by first | (simp [Instr.fill]; done) | simp [Instr.fill, Value.cells]) rfl fun bA => ?_
    (refine j_nm rfl ?_; repeat (first | refine jo_cons ?_ | (refine jo_iso ?_; first | (refine jo_isbin ?_; first | refine jo_v (by first | exact pv_add rfl rfl (by omega) | exact pv_sub rfl rfl (by omega)) rfl ?_ | refine jo_pure tab_ok rfl rfl ?_ | refine jo_v (by first | exact pv_add64 rfl rfl | exact pv_ptr_eq tab_ok rfl rfl rfl | exact pv_ptr_ne tab_ok rfl rfl rfl | exact pv_if_eq tab_ok rfl rfl rfl (.inl rfl) | exact pv_if_eq tab_ok rfl rfl rfl (.inr ⟨_, _, rfl⟩) | exact pv_if_ne tab_ok rfl rfl rfl (.inl rfl) | exact pv_if_ne tab_ok rfl rfl rfl (.inr ⟨_, _, rfl⟩)) rfl ?_) | refine jo_pure tab_ok rfl rfl ?_ | refine jo_want rfl ?_ | refine jo_skip rfl rfl ?_ | refine jo_load tab_ok rfl rfl rfl (by first | ((repeat first | exact Rd.here rfl | refine Rd.there ?_); done) | assumption) rfl ?_) | refine jo_nil ?_ | refine jc_seq ?_ | refine jc_skip ?_ | refine jc_region ?_ | refine jc_block ?_ | refine jc_ret ?_ | refine jc_exit ?_ | refine jx_then ?_ | refine jx_then_exit ?_ | refine jx_then_ret ?_ | refine jx_block ?_ | refine jx_block_ret ?_ | refine jx_block_hit ?_ | refine jx_block_miss rfl ?_ | refine jc_true rfl ?_ | refine jc_false rfl ?_))
    refine jo_append tab_ok 4 [I (addr x)] rfl rfl rfl rfl rfl rfl ⟨rfl, rfl⟩ rfl (.inr ⟨bA, 0, rfl, Rd.all⟩) (by simp [one]) (by intro len' hl'; simp only [List.length_map, Nat.mul_one] at hl'; exact ⟨by show (len' + 1) * 8 ≤ _; omega, by simp only [maxLen]; omega⟩) rfl fun v4 => ?_
    have e5 : (G.map addr).map I ++ [I (addr x)] = ((G ++ [x]).map addr).map I := by simp
    rw [e5]
    (refine j_nm rfl ?_; repeat (first | refine jo_cons ?_ | (refine jo_iso ?_; first | (refine jo_isbin ?_; first | refine jo_v (by first | exact pv_add rfl rfl (by omega) | exact pv_sub rfl rfl (by omega)) rfl ?_ | refine jo_pure tab_ok rfl rfl ?_ | refine jo_v (by first | exact pv_add64 rfl rfl | exact pv_ptr_eq tab_ok rfl rfl rfl | exact pv_ptr_ne tab_ok rfl rfl rfl | exact pv_if_eq tab_ok rfl rfl rfl (.inl rfl) | exact pv_if_eq tab_ok rfl rfl rfl (.inr ⟨_, _, rfl⟩) | exact pv_if_ne tab_ok rfl rfl rfl (.inl rfl) | exact pv_if_ne tab_ok rfl rfl rfl (.inr ⟨_, _, rfl⟩)) rfl ?_) | refine jo_pure tab_ok rfl rfl ?_ | refine jo_want rfl ?_ | refine jo_skip rfl rfl ?_ | refine jo_load tab_ok rfl rfl rfl (by first | ((repeat first | exact Rd.here rfl | refine Rd.there ?_); done) | assumption) rfl ?_) | refine jo_nil ?_ | refine jc_seq ?_ | refine jc_skip ?_ | refine jc_region ?_ | refine jc_block ?_ | refine jc_ret ?_ | refine jc_exit ?_ | refine jx_then ?_ | refine jx_then_exit ?_ | refine jx_then_ret ?_ | refine jx_block ?_ | refine jx_block_ret ?_ | refine jx_block_hit ?_ | refine jx_block_miss rfl ?_ | refine jc_true rfl ?_ | refine jc_false rfl ?_))
    refine jo_v (pv_index1 tab_ok (at_ x) rfl rfl rfl rfl rfl rfl (by unfold addr at_; omega) (by omega)) rfl (jo_cons ?_)
    refine jo_store tab_ok 5 rfl rfl rfl rfl rfl ⟨rfl, rfl⟩ (by simp; omega) ?_
    rw [e4]
    (refine j_nm rfl ?_; repeat (first | refine jo_cons ?_ | (refine jo_iso ?_; first | (refine jo_isbin ?_; first | refine jo_v (by first | exact pv_add rfl rfl (by omega) | exact pv_sub rfl rfl (by omega)) rfl ?_ | refine jo_pure tab_ok rfl rfl ?_ | refine jo_v (by first | exact pv_add64 rfl rfl | exact pv_ptr_eq tab_ok rfl rfl rfl | exact pv_ptr_ne tab_ok rfl rfl rfl | exact pv_if_eq tab_ok rfl rfl rfl (.inl rfl) | exact pv_if_eq tab_ok rfl rfl rfl (.inr ⟨_, _, rfl⟩) | exact pv_if_ne tab_ok rfl rfl rfl (.inl rfl) | exact pv_if_ne tab_ok rfl rfl rfl (.inr ⟨_, _, rfl⟩)) rfl ?_) | refine jo_pure tab_ok rfl rfl ?_ | refine jo_want rfl ?_ | refine jo_skip rfl rfl ?_ | refine jo_load tab_ok rfl rfl rfl (by first | ((repeat first | exact Rd.here rfl | refine Rd.there ?_); done) | assumption) rfl ?_) | refine jo_nil ?_ | refine jc_seq ?_ | refine jc_skip ?_ | refine jc_region ?_ | refine jc_block ?_ | refine jc_ret ?_ | refine jc_exit ?_ | refine jx_then ?_ | refine jx_then_exit ?_ | refine jx_then_ret ?_ | refine jx_block ?_ | refine jx_block_ret ?_ | refine jx_block_hit ?_ | refine jx_block_miss rfl ?_ | refine jc_true rfl ?_ | refine jc_false rfl ?_))
    exact jx_rnd (St.mk (i + 1) ss L' (G ++ [x]) (F.set (at_ x) false) v3 v4 fb) [3, 2, 1, 0] [2, 3, 4] ⟨hF, by simp only [List.length_append, List.length_cons, List.length_nil]; omega, hil⟩ hkk ⟨rfl, rfl, rfl, rfl, rfl, rfl, rfl, rfl, trivial⟩ rfl
  | true =>
    have hF : Sf es ss L' G (F.set (at_ x) false) := hF
    (refine j_nm rfl ?_; repeat (first | refine jo_cons ?_ | (refine jo_iso ?_; first | (refine jo_isbin ?_; first | refine jo_v (by first | exact pv_add rfl rfl (by omega) | exact pv_sub rfl rfl (by omega)) rfl ?_ | refine jo_pure tab_ok rfl rfl ?_ | refine jo_v (by first | exact pv_add64 rfl rfl | exact pv_ptr_eq tab_ok rfl rfl rfl | exact pv_ptr_ne tab_ok rfl rfl rfl | exact pv_if_eq tab_ok rfl rfl rfl (.inl rfl) | exact pv_if_eq tab_ok rfl rfl rfl (.inr ⟨_, _, rfl⟩) | exact pv_if_ne tab_ok rfl rfl rfl (.inl rfl) | exact pv_if_ne tab_ok rfl rfl rfl (.inr ⟨_, _, rfl⟩)) rfl ?_) | refine jo_pure tab_ok rfl rfl ?_ | refine jo_want rfl ?_ | refine jo_skip rfl rfl ?_ | refine jo_load tab_ok rfl rfl rfl (by first | ((repeat first | exact Rd.here rfl | refine Rd.there ?_); done) | assumption) rfl ?_) | refine jo_nil ?_ | refine jc_seq ?_ | refine jc_skip ?_ | refine jc_region ?_ | refine jc_block ?_ | refine jc_ret ?_ | refine jc_exit ?_ | refine jx_then ?_ | refine jx_then_exit ?_ | refine jx_then_ret ?_ | refine jx_block ?_ | refine jx_block_ret ?_ | refine jx_block_hit ?_ | refine jx_block_miss rfl ?_ | refine jc_true rfl ?_ | refine jc_false rfl ?_))
    refine jo_v (pv_index1 tab_ok (at_ x) rfl rfl rfl rfl rfl rfl (by unfold addr at_; omega) (by omega)) rfl (jo_cons ?_)
    refine jo_store tab_ok 4 rfl rfl rfl rfl rfl ⟨rfl, rfl⟩ (by simp; omega) ?_
    rw [e4]
    (refine j_nm rfl ?_; repeat (first | refine jo_cons ?_ | (refine jo_iso ?_; first | (refine jo_isbin ?_; first | refine jo_v (by first | exact pv_add rfl rfl (by omega) | exact pv_sub rfl rfl (by omega)) rfl ?_ | refine jo_pure tab_ok rfl rfl ?_ | refine jo_v (by first | exact pv_add64 rfl rfl | exact pv_ptr_eq tab_ok rfl rfl rfl | exact pv_ptr_ne tab_ok rfl rfl rfl | exact pv_if_eq tab_ok rfl rfl rfl (.inl rfl) | exact pv_if_eq tab_ok rfl rfl rfl (.inr ⟨_, _, rfl⟩) | exact pv_if_ne tab_ok rfl rfl rfl (.inl rfl) | exact pv_if_ne tab_ok rfl rfl rfl (.inr ⟨_, _, rfl⟩)) rfl ?_) | refine jo_pure tab_ok rfl rfl ?_ | refine jo_want rfl ?_ | refine jo_skip rfl rfl ?_ | refine jo_load tab_ok rfl rfl rfl (by first | ((repeat first | exact Rd.here rfl | refine Rd.there ?_); done) | assumption) rfl ?_) | refine jo_nil ?_ | refine jc_seq ?_ | refine jc_skip ?_ | refine jc_region ?_ | refine jc_block ?_ | refine jc_ret ?_ | refine jc_exit ?_ | refine jx_then ?_ | refine jx_then_exit ?_ | refine jx_then_ret ?_ | refine jx_block ?_ | refine jx_block_ret ?_ | refine jx_block_hit ?_ | refine jx_block_miss rfl ?_ | refine jc_true rfl ?_ | refine jc_false rfl ?_))
    exact jx_rnd (St.mk (i + 1) ss L' G (F.set (at_ x) false) v3 ov fb) [2, 1, 1, 0] [2, 4] ⟨hF, by simp only; omega, hil⟩ hkk ⟨rfl, rfl, rfl, rfl, rfl, rfl, rfl, rfl, trivial⟩ rfl
set_option maxHeartbeats 4000000 in
theorem s21 {A : Assn} (E : World) (X : Assn) {es : List Ent} {v0 v1 : Value} {ss : List Shl} (p m kk : Nat) (hm : m = 32768) {L G : List (Nat × Nat)} (hv ov : Value) {F : List Bool} {fb i ln q : Nat} {kd ad nm : Int} {lv : Value}
    (hF : Sf es ss L G F) (hbnd : L.length + G.length ≤ i) (hil : i < ln) (hln : ln ≤ 1000) (hkk : ln - (i + 1) < kk) :
    J E (here Tryd.prog [.r, .r, .r, .r, .r, .l, .r, .b, .body (R5 E A X es v0 v1 ln p m kk), .r, .r, .l, .b, .r, .r, .b, .r, .r, .r, .l] Tryd.f5 (Q5 E A [X])) 205 [(0, v0), (5, ptr p), (7, hv), (8, ov), (9, .slice (some ⟨fb, 0, none⟩) m m), (11, ptr q), (51, v1), (52, I ln), (53, I i)]
      [Spc p es ss none, HL5 hv L, HL5 ov G, cl fb (F.map Value.bool) 4, cl q [I kd, I ad, I nm, lv] 49, A, X] := by
  refine j_here rfl ?_
  refine j_front [1] (j_sl_ro fun hrL => ?_)
  obtain ⟨hbs, hn', hcp, rfl, hl1, hl2, hl3⟩ := hrL
  simp only [List.length_map, Nat.mul_one] at hl1
  (refine j_nm rfl ?_; repeat (first | refine jo_cons ?_ | (refine jo_iso ?_; first | (refine jo_isbin ?_; first | refine jo_v (by first | exact pv_add rfl rfl (by omega) | exact pv_sub rfl rfl (by omega)) rfl ?_ | refine jo_pure tab_ok rfl rfl ?_ | refine jo_v (by first | exact pv_add64 rfl rfl | exact pv_ptr_eq tab_ok rfl rfl rfl | exact pv_ptr_ne tab_ok rfl rfl rfl | exact pv_if_eq tab_ok rfl rfl rfl (.inl rfl) | exact pv_if_eq tab_ok rfl rfl rfl (.inr ⟨_, _, rfl⟩) | exact pv_if_ne tab_ok rfl rfl rfl (.inl rfl) | exact pv_if_ne tab_ok rfl rfl rfl (.inr ⟨_, _, rfl⟩)) rfl ?_) | refine jo_pure tab_ok rfl rfl ?_ | refine jo_want rfl ?_ | refine jo_skip rfl rfl ?_ | refine jo_load tab_ok rfl rfl rfl (by first | ((repeat first | exact Rd.here rfl | refine Rd.there ?_); done) | assumption) rfl ?_) | refine jo_nil ?_ | refine jc_seq ?_ | refine jc_skip ?_ | refine jc_region ?_ | refine jc_block ?_ | refine jc_ret ?_ | refine jc_exit ?_ | refine jx_then ?_ | refine jx_then_exit ?_ | refine jx_then_ret ?_ | refine jx_block ?_ | refine jx_block_ret ?_ | refine jx_block_hit ?_ | refine jx_block_miss rfl ?_ | refine jc_true rfl ?_ | refine jc_false rfl ?_))
  refine j_dec 132 rfl (fun h => ?_) (fun h0 => ?_)
  · (refine j_nm rfl ?_; repeat (first | refine jo_cons ?_ | (refine jo_iso ?_; first | (refine jo_isbin ?_; first | refine jo_v (by first | exact pv_add rfl rfl (by omega) | exact pv_sub rfl rfl (by omega)) rfl ?_ | refine jo_pure tab_ok rfl rfl ?_ | refine jo_v (by first | exact pv_add64 rfl rfl | exact pv_ptr_eq tab_ok rfl rfl rfl | exact pv_ptr_ne tab_ok rfl rfl rfl | exact pv_if_eq tab_ok rfl rfl rfl (.inl rfl) | exact pv_if_eq tab_ok rfl rfl rfl (.inr ⟨_, _, rfl⟩) | exact pv_if_ne tab_ok rfl rfl rfl (.inl rfl) | exact pv_if_ne tab_ok rfl rfl rfl (.inr ⟨_, _, rfl⟩)) rfl ?_) | refine jo_pure tab_ok rfl rfl ?_ | refine jo_want rfl ?_ | refine jo_skip rfl rfl ?_ | refine jo_load tab_ok rfl rfl rfl (by first | ((repeat first | exact Rd.here rfl | refine Rd.there ?_); done) | assumption) rfl ?_) | refine jo_nil ?_ | refine jc_seq ?_ | refine jc_skip ?_ | refine jc_region ?_ | refine jc_block ?_ | refine jc_ret ?_ | refine jc_exit ?_ | refine jx_then ?_ | refine jx_then_exit ?_ | refine jx_then_ret ?_ | refine jx_block ?_ | refine jx_block_ret ?_ | refine jx_block_hit ?_ | refine jx_block_miss rfl ?_ | refine jc_true rfl ?_ | refine jc_false rfl ?_))
    exact jx_rnd (St.mk (i + 1) ss L G F (.slice hbs hn' hcp) ov fb) [1] [4] ⟨hF, by simp only; omega, hil⟩ hkk ⟨rfl, rfl, rfl, rfl, rfl, rfl, rfl, rfl, trivial⟩ rfl
  have h0 : ¬ nm < 0 := h0
  obtain ⟨N, rfl⟩ := Int.eq_ofNat_of_zero_le (show 0 ≤ nm by omega)
  (refine j_nm rfl ?_; repeat (first | refine jo_cons ?_ | (refine jo_iso ?_; first | (refine jo_isbin ?_; first | refine jo_v (by first | exact pv_add rfl rfl (by omega) | exact pv_sub rfl rfl (by omega)) rfl ?_ | refine jo_pure tab_ok rfl rfl ?_ | refine jo_v (by first | exact pv_add64 rfl rfl | exact pv_ptr_eq tab_ok rfl rfl rfl | exact pv_ptr_ne tab_ok rfl rfl rfl | exact pv_if_eq tab_ok rfl rfl rfl (.inl rfl) | exact pv_if_eq tab_ok rfl rfl rfl (.inr ⟨_, _, rfl⟩) | exact pv_if_ne tab_ok rfl rfl rfl (.inl rfl) | exact pv_if_ne tab_ok rfl rfl rfl (.inr ⟨_, _, rfl⟩)) rfl ?_) | refine jo_pure tab_ok rfl rfl ?_ | refine jo_want rfl ?_ | refine jo_skip rfl rfl ?_ | refine jo_load tab_ok rfl rfl rfl (by first | ((repeat first | exact Rd.here rfl | refine Rd.there ?_); done) | assumption) rfl ?_) | refine jo_nil ?_ | refine jc_seq ?_ | refine jc_skip ?_ | refine jc_region ?_ | refine jc_block ?_ | refine jc_ret ?_ | refine jc_exit ?_ | refine jx_then ?_ | refine jx_then_exit ?_ | refine jx_then_ret ?_ | refine jx_block ?_ | refine jx_block_ret ?_ | refine jx_block_hit ?_ | refine jx_block_miss rfl ?_ | refine jc_true rfl ?_ | refine jc_false rfl ?_))
  refine jc_dec rfl (fun h => ?_) (fun h1 => ?_)
  · (refine j_nm rfl ?_; repeat (first | refine jo_cons ?_ | (refine jo_iso ?_; first | (refine jo_isbin ?_; first | refine jo_v (by first | exact pv_add rfl rfl (by omega) | exact pv_sub rfl rfl (by omega)) rfl ?_ | refine jo_pure tab_ok rfl rfl ?_ | refine jo_v (by first | exact pv_add64 rfl rfl | exact pv_ptr_eq tab_ok rfl rfl rfl | exact pv_ptr_ne tab_ok rfl rfl rfl | exact pv_if_eq tab_ok rfl rfl rfl (.inl rfl) | exact pv_if_eq tab_ok rfl rfl rfl (.inr ⟨_, _, rfl⟩) | exact pv_if_ne tab_ok rfl rfl rfl (.inl rfl) | exact pv_if_ne tab_ok rfl rfl rfl (.inr ⟨_, _, rfl⟩)) rfl ?_) | refine jo_pure tab_ok rfl rfl ?_ | refine jo_want rfl ?_ | refine jo_skip rfl rfl ?_ | refine jo_load tab_ok rfl rfl rfl (by first | ((repeat first | exact Rd.here rfl | refine Rd.there ?_); done) | assumption) rfl ?_) | refine jo_nil ?_ | refine jc_seq ?_ | refine jc_skip ?_ | refine jc_region ?_ | refine jc_block ?_ | refine jc_ret ?_ | refine jc_exit ?_ | refine jx_then ?_ | refine jx_then_exit ?_ | refine jx_then_ret ?_ | refine jx_block ?_ | refine jx_block_ret ?_ | refine jx_block_hit ?_ | refine jx_block_miss rfl ?_ | refine jc_true rfl ?_ | refine jc_false rfl ?_))
    exact jx_rnd (St.mk (i + 1) ss L G F (.slice hbs hn' hcp) ov fb) [1] [4] ⟨hF, by simp only; omega, hil⟩ hkk ⟨rfl, rfl, rfl, rfl, rfl, rfl, rfl, rfl, trivial⟩ rfl
  have h1 : ¬ ((N : Int) ≥ hn') := h1
  have hNn : N < hn' := by omega
  have hNL : N < L.length := by omega
  have hxi : L[N]? = some L[N] := List.getElem?_eq_getElem hNL
  generalize L[N] = x at hxi
  obtain ⟨e, hre⟩ := hF.room x (List.mem_of_getElem? hxi)
  have hfd := hre.found hF.inv.right
  obtain ⟨sh, hsh, _⟩ := sh_of hF.inv hre.at_
  obtain ⟨g1, g2, b, hFb, hF'⟩ := sf_give hF hxi hsh
  obtain ⟨bb, o, rfl, hrd⟩ := hl3.resolve_left (by omega)
  have hgi : ((L.map addr).map I)[N]? = some (I (addr x)) := by rw [List.getElem?_map, List.getElem?_map, hxi]; rfl
  (refine j_nm rfl ?_; repeat (first | refine jo_cons ?_ | (refine jo_iso ?_; first | (refine jo_isbin ?_; first | refine jo_v (by first | exact pv_add rfl rfl (by omega) | exact pv_sub rfl rfl (by omega)) rfl ?_ | refine jo_pure tab_ok rfl rfl ?_ | refine jo_v (by first | exact pv_add64 rfl rfl | exact pv_ptr_eq tab_ok rfl rfl rfl | exact pv_ptr_ne tab_ok rfl rfl rfl | exact pv_if_eq tab_ok rfl rfl rfl (.inl rfl) | exact pv_if_eq tab_ok rfl rfl rfl (.inr ⟨_, _, rfl⟩) | exact pv_if_ne tab_ok rfl rfl rfl (.inl rfl) | exact pv_if_ne tab_ok rfl rfl rfl (.inr ⟨_, _, rfl⟩)) rfl ?_) | refine jo_pure tab_ok rfl rfl ?_ | refine jo_want rfl ?_ | refine jo_skip rfl rfl ?_ | refine jo_load tab_ok rfl rfl rfl (by first | ((repeat first | exact Rd.here rfl | refine Rd.there ?_); done) | assumption) rfl ?_) | refine jo_nil ?_ | refine jc_seq ?_ | refine jc_skip ?_ | refine jc_region ?_ | refine jc_block ?_ | refine jc_ret ?_ | refine jc_exit ?_ | refine jx_then ?_ | refine jx_then_exit ?_ | refine jx_then_ret ?_ | refine jx_block ?_ | refine jx_block_ret ?_ | refine jx_block_hit ?_ | refine jx_block_miss rfl ?_ | refine jc_true rfl ?_ | refine jc_false rfl ?_))
  refine jo_v (pv_index1 tab_ok N rfl rfl rfl rfl rfl rfl rfl hNn) rfl (jo_cons ?_)
  refine jo_load tab_ok rfl rfl rfl ((hrd _).one hgi) rfl ?_
  (refine j_nm rfl ?_; repeat (first | refine jo_cons ?_ | (refine jo_iso ?_; first | (refine jo_isbin ?_; first | refine jo_v (by first | exact pv_add rfl rfl (by omega) | exact pv_sub rfl rfl (by omega)) rfl ?_ | refine jo_pure tab_ok rfl rfl ?_ | refine jo_v (by first | exact pv_add64 rfl rfl | exact pv_ptr_eq tab_ok rfl rfl rfl | exact pv_ptr_ne tab_ok rfl rfl rfl | exact pv_if_eq tab_ok rfl rfl rfl (.inl rfl) | exact pv_if_eq tab_ok rfl rfl rfl (.inr ⟨_, _, rfl⟩) | exact pv_if_ne tab_ok rfl rfl rfl (.inl rfl) | exact pv_if_ne tab_ok rfl rfl rfl (.inr ⟨_, _, rfl⟩)) rfl ?_) | refine jo_pure tab_ok rfl rfl ?_ | refine jo_want rfl ?_ | refine jo_skip rfl rfl ?_ | refine jo_load tab_ok rfl rfl rfl (by first | ((repeat first | exact Rd.here rfl | refine Rd.there ?_); done) | assumption) rfl ?_) | refine jo_nil ?_ | refine jc_seq ?_ | refine jc_skip ?_ | refine jc_region ?_ | refine jc_block ?_ | refine jc_ret ?_ | refine jc_exit ?_ | refine jx_then ?_ | refine jx_then_exit ?_ | refine jx_then_ret ?_ | refine jx_block ?_ | refine jx_block_ret ?_ | refine jx_block_hit ?_ | refine jx_block_miss rfl ?_ | refine jc_true rfl ?_ | refine jc_false rfl ?_))
  refine jo_call [1] (give_tri (was := none) hF.inv trivial (addr x)) ent20 rfl ⟨rfl, rfl⟩ rfl ?_
  rintro v B (⟨hno, _⟩ | ⟨n2, k2, sh2, hr2, hs2, ht2, _⟩ | ⟨n2, k2, sh2, hr2, hs2, ht2, rfl, rfl⟩)
  · rw [hfd] at hno; cases hno
  · rw [hfd] at hr2
    cases hr2
    simp only at hsh
    rw [hsh] at hs2
    cases hs2
    rw [g1] at ht2
    cases ht2
  rw [hfd] at hr2
  cases hr2
  simp only at hsh
  rw [hsh] at hs2
  cases hs2
  have hF' : Sf es (ss.set n2 (giveS sh k2 (eldB none n2 k2))) (L.take N ++ L.drop (N + 1)) (if b then G else G ++ [(n2, k2)]) (F.set (at_ (n2, k2)) false) := hF'
  have g2 : (giveS sh k2 (eldB none n2 k2)).t[k2]? = some false := g2
  have hss : (ss.set n2 (giveS sh k2 (eldB none n2 k2)))[n2]? = some (giveS sh k2 (eldB none n2 k2)) := List.getElem?_set_self (List.getElem?_eq_some_iff.1 hsh).1
  generalize giveS sh k2 (eldB none n2 k2) = sh' at hF' g2 hss ⊢
  (refine j_nm rfl ?_; repeat (first | refine jo_cons ?_ | (refine jo_iso ?_; first | (refine jo_isbin ?_; first | refine jo_v (by first | exact pv_add rfl rfl (by omega) | exact pv_sub rfl rfl (by omega)) rfl ?_ | refine jo_pure tab_ok rfl rfl ?_ | refine jo_v (by first | exact pv_add64 rfl rfl | exact pv_ptr_eq tab_ok rfl rfl rfl | exact pv_ptr_ne tab_ok rfl rfl rfl | exact pv_if_eq tab_ok rfl rfl rfl (.inl rfl) | exact pv_if_eq tab_ok rfl rfl rfl (.inr ⟨_, _, rfl⟩) | exact pv_if_ne tab_ok rfl rfl rfl (.inl rfl) | exact pv_if_ne tab_ok rfl rfl rfl (.inr ⟨_, _, rfl⟩)) rfl ?_) | refine jo_pure tab_ok rfl rfl ?_ | refine jo_want rfl ?_ | refine jo_skip rfl rfl ?_ | refine jo_load tab_ok rfl rfl rfl (by first | ((repeat first | exact Rd.here rfl | refine Rd.there ?_); done) | assumption) rfl ?_) | refine jo_nil ?_ | refine jc_seq ?_ | refine jc_skip ?_ | refine jc_region ?_ | refine jc_block ?_ | refine jc_ret ?_ | refine jc_exit ?_ | refine jx_then ?_ | refine jx_then_exit ?_ | refine jx_then_ret ?_ | refine jx_block ?_ | refine jx_block_ret ?_ | refine jx_block_hit ?_ | refine jx_block_miss rfl ?_ | refine jc_true rfl ?_ | refine jc_false rfl ?_))
  refine jo_call [0] (give_tri (was := none) hF'.inv trivial (addr (n2, k2))) ent20 rfl ⟨rfl, rfl⟩ rfl ?_
  rintro v B (⟨hno, _⟩ | ⟨n3, k3, sh3, hr3, hs3, ht3, rfl, rfl⟩ | ⟨n3, k3, sh3, hr3, hs3, ht3, _⟩)
  · rw [hfd] at hno; cases hno
  · (refine j_nm rfl ?_; repeat (first | refine jo_cons ?_ | (refine jo_iso ?_; first | (refine jo_isbin ?_; first | refine jo_v (by first | exact pv_add rfl rfl (by omega) | exact pv_sub rfl rfl (by omega)) rfl ?_ | refine jo_pure tab_ok rfl rfl ?_ | refine jo_v (by first | exact pv_add64 rfl rfl | exact pv_ptr_eq tab_ok rfl rfl rfl | exact pv_ptr_ne tab_ok rfl rfl rfl | exact pv_if_eq tab_ok rfl rfl rfl (.inl rfl) | exact pv_if_eq tab_ok rfl rfl rfl (.inr ⟨_, _, rfl⟩) | exact pv_if_ne tab_ok rfl rfl rfl (.inl rfl) | exact pv_if_ne tab_ok rfl rfl rfl (.inr ⟨_, _, rfl⟩)) rfl ?_) | refine jo_pure tab_ok rfl rfl ?_ | refine jo_want rfl ?_ | refine jo_skip rfl rfl ?_ | refine jo_load tab_ok rfl rfl rfl (by first | ((repeat first | exact Rd.here rfl | refine Rd.there ?_); done) | assumption) rfl ?_) | refine jo_nil ?_ | refine jc_skip ?_ | refine jc_region ?_ | refine jc_block ?_ | refine jc_ret ?_ | refine jc_exit ?_ | refine jx_then ?_ | refine jx_then_exit ?_ | refine jx_then_ret ?_ | refine jx_block ?_ | refine jx_block_ret ?_ | refine jx_block_hit ?_ | refine jx_block_miss rfl ?_ | refine jc_true rfl ?_ | refine jc_false rfl ?_))
    exact j_go (s25 E X p m kk hm (L := L) (G := G) _ ov hNL hF' hFb hbnd hil hln hkk) [] [] ⟨rfl, rfl, rfl, rfl, rfl, rfl, rfl, rfl, rfl, rfl, trivial⟩ rfl
  · rw [hfd] at hr3
    cases hr3
    rw [hss] at hs3
    cases hs3
    rw [g2] at ht3
    cases ht3
set_option maxHeartbeats 4000000 in
theorem s11 {A : Assn} (hA : Tz A) (E : World) (X : Assn) {es : List Ent} {v0 v1 : Value} {ss : List Shl} (p m kk : Nat) (hm : m = 32768) {L G : List (Nat × Nat)} (hv ov : Value) {F : List Bool} {fb i ln : Nat}
    (hF : Sf es ss L G F) (hbnd : L.length + G.length ≤ i) (hil : i < ln) (hln : ln ≤ 1000) (hkk : ln - (i + 1) < kk) :
    J E (here Tryd.prog [.r, .r, .r, .r, .r, .l, .r, .b, .body (R5 E A X es v0 v1 ln p m kk), .r, .r, .l, .b, .r, .r, .b, .r, .l] Tryd.f5 (Q5 E A [X])) 205 [(0, v0), (5, ptr p), (7, hv), (8, ov), (9, .slice (some ⟨fb, 0, none⟩) m m), (51, v1), (52, I ln), (53, I i)]
      [Spc p es ss none, HL5 hv L, HL5 ov G, cl fb (F.map Value.bool) 4, A, X] := by
  have hI := hF.inv
  have h8 := okR_len hI.right
  have hFl := hF.fl
  refine j_here rfl ?_
  (refine j_nm rfl ?_; repeat (first | refine jo_cons ?_ | (refine jo_iso ?_; first | (refine jo_isbin ?_; first | refine jo_v (by first | exact pv_add rfl rfl (by omega) | exact pv_sub rfl rfl (by omega)) rfl ?_ | refine jo_pure tab_ok rfl rfl ?_ | refine jo_v (by first | exact pv_add64 rfl rfl | exact pv_ptr_eq tab_ok rfl rfl rfl | exact pv_ptr_ne tab_ok rfl rfl rfl | exact pv_if_eq tab_ok rfl rfl rfl (.inl rfl) | exact pv_if_eq tab_ok rfl rfl rfl (.inr ⟨_, _, rfl⟩) | exact pv_if_ne tab_ok rfl rfl rfl (.inl rfl) | exact pv_if_ne tab_ok rfl rfl rfl (.inr ⟨_, _, rfl⟩)) rfl ?_) | refine jo_pure tab_ok rfl rfl ?_ | refine jo_want rfl ?_ | refine jo_skip rfl rfl ?_ | refine jo_load tab_ok rfl rfl rfl (by first | ((repeat first | exact Rd.here rfl | refine Rd.there ?_); done) | assumption) rfl ?_) | refine jo_nil ?_ | refine jc_seq ?_ | refine jc_skip ?_ | refine jc_region ?_ | refine jc_block ?_ | refine jc_ret ?_ | refine jc_exit ?_ | refine jx_then ?_ | refine jx_then_exit ?_ | refine jx_then_ret ?_ | refine jx_block ?_ | refine jx_block_ret ?_ | refine jx_block_hit ?_ | refine jx_block_miss rfl ?_ | refine jc_true rfl ?_ | refine jc_false rfl ?_))
  refine jo_call [0, 3] (take_tri hA hI) ent15 rfl ⟨rfl, rfl⟩ rfl ?_
  rintro v B (⟨h0, rfl, rfl⟩ | ⟨n, k, sh, hn, hp, hsh, hf, rfl, rfl⟩)
  · have hs0 := sf_none hF h0
    (refine j_nm rfl ?_; repeat (first | refine jo_cons ?_ | (refine jo_iso ?_; first | (refine jo_isbin ?_; first | refine jo_v (by first | exact pv_add rfl rfl (by omega) | exact pv_sub rfl rfl (by omega)) rfl ?_ | refine jo_pure tab_ok rfl rfl ?_ | refine jo_v (by first | exact pv_add64 rfl rfl | exact pv_ptr_eq tab_ok rfl rfl rfl | exact pv_ptr_ne tab_ok rfl rfl rfl | exact pv_if_eq tab_ok rfl rfl rfl (.inl rfl) | exact pv_if_eq tab_ok rfl rfl rfl (.inr ⟨_, _, rfl⟩) | exact pv_if_ne tab_ok rfl rfl rfl (.inl rfl) | exact pv_if_ne tab_ok rfl rfl rfl (.inr ⟨_, _, rfl⟩)) rfl ?_) | refine jo_pure tab_ok rfl rfl ?_ | refine jo_want rfl ?_ | refine jo_skip rfl rfl ?_ | refine jo_load tab_ok rfl rfl rfl (by first | ((repeat first | exact Rd.here rfl | refine Rd.there ?_); done) | assumption) rfl ?_) | refine jo_nil ?_ | refine jc_seq ?_ | refine jc_skip ?_ | refine jc_region ?_ | refine jc_block ?_ | refine jc_ret ?_ | refine jc_exit ?_ | refine jx_then ?_ | refine jx_then_exit ?_ | refine jx_then_ret ?_ | refine jx_block ?_ | refine jx_block_ret ?_ | refine jx_block_hit ?_ | refine jx_block_miss rfl ?_ | refine jc_true rfl ?_ | refine jc_false rfl ?_))
    refine jo_call [0] (free8_tri hI) ent14 rfl ⟨rfl, rfl⟩ rfl ?_
    rintro v B ⟨rfl, rfl⟩
    rw [hs0]
    (refine j_nm rfl ?_; repeat (first | refine jo_cons ?_ | (refine jo_iso ?_; first | (refine jo_isbin ?_; first | refine jo_v (by first | exact pv_add rfl rfl (by omega) | exact pv_sub rfl rfl (by omega)) rfl ?_ | refine jo_pure tab_ok rfl rfl ?_ | refine jo_v (by first | exact pv_add64 rfl rfl | exact pv_ptr_eq tab_ok rfl rfl rfl | exact pv_ptr_ne tab_ok rfl rfl rfl | exact pv_if_eq tab_ok rfl rfl rfl (.inl rfl) | exact pv_if_eq tab_ok rfl rfl rfl (.inr ⟨_, _, rfl⟩) | exact pv_if_ne tab_ok rfl rfl rfl (.inl rfl) | exact pv_if_ne tab_ok rfl rfl rfl (.inr ⟨_, _, rfl⟩)) rfl ?_) | refine jo_pure tab_ok rfl rfl ?_ | refine jo_want rfl ?_ | refine jo_skip rfl rfl ?_ | refine jo_load tab_ok rfl rfl rfl (by first | ((repeat first | exact Rd.here rfl | refine Rd.there ?_); done) | assumption) rfl ?_) | refine jo_nil ?_ | refine jc_seq ?_ | refine jc_skip ?_ | refine jc_region ?_ | refine jc_block ?_ | refine jc_ret ?_ | refine jc_exit ?_ | refine jx_then ?_ | refine jx_then_exit ?_ | refine jx_then_ret ?_ | refine jx_block ?_ | refine jx_block_ret ?_ | refine jx_block_hit ?_ | refine jx_block_miss rfl ?_ | refine jc_true rfl ?_ | refine jc_false rfl ?_))
    try refine jc_bne rfl (fun h => absurd rfl h) (fun _ => ?_)
    (refine j_nm rfl ?_; repeat (first | refine jo_cons ?_ | (refine jo_iso ?_; first | (refine jo_isbin ?_; first | refine jo_v (by first | exact pv_add rfl rfl (by omega) | exact pv_sub rfl rfl (by omega)) rfl ?_ | refine jo_pure tab_ok rfl rfl ?_ | refine jo_v (by first | exact pv_add64 rfl rfl | exact pv_ptr_eq tab_ok rfl rfl rfl | exact pv_ptr_ne tab_ok rfl rfl rfl | exact pv_if_eq tab_ok rfl rfl rfl (.inl rfl) | exact pv_if_eq tab_ok rfl rfl rfl (.inr ⟨_, _, rfl⟩) | exact pv_if_ne tab_ok rfl rfl rfl (.inl rfl) | exact pv_if_ne tab_ok rfl rfl rfl (.inr ⟨_, _, rfl⟩)) rfl ?_) | refine jo_pure tab_ok rfl rfl ?_ | refine jo_want rfl ?_ | refine jo_skip rfl rfl ?_ | refine jo_load tab_ok rfl rfl rfl (by first | ((repeat first | exact Rd.here rfl | refine Rd.there ?_); done) | assumption) rfl ?_) | refine jo_nil ?_ | refine jc_seq ?_ | refine jc_skip ?_ | refine jc_region ?_ | refine jc_block ?_ | refine jc_ret ?_ | refine jc_exit ?_ | refine jx_then ?_ | refine jx_then_exit ?_ | refine jx_then_ret ?_ | refine jx_block ?_ | refine jx_block_ret ?_ | refine jx_block_hit ?_ | refine jx_block_miss rfl ?_ | refine jc_true rfl ?_ | refine jc_false rfl ?_))
    exact jx_rnd (St.mk (i + 1) ss L G F hv ov fb) [0, 1, 1, 1] [] ⟨hF, by simp only; omega, hil⟩ hkk ⟨rfl, rfl, rfl, rfl, rfl, rfl, rfl, rfl, trivial⟩ rfl
  obtain ⟨hnL, hnG, ⟨e, hre⟩, hF'⟩ := sf_take hF hn hp hsh hf
  have hsm := hre.small hI.right
  obtain ⟨ha1, ha2⟩ := at_addr2 (x := (n, k)) hsm.1 hsm.2
  have hat := hre.at_
  have hact := hre.act
  have hge := hre.ge
  have hlt := hre.lt
  simp only at hsm ha1 ha2 hat hge hlt
  have hne : n < es.length := (List.getElem?_eq_some_iff.1 hat).1
  have hen : es[n] = e := by rw [List.getElem?_eq_getElem hne] at hat; exact Option.some.inj hat
  obtain ⟨d1, d2⟩ := ecells_at es n hne
  rw [hen, hact] at d1
  rw [hen] at d2
  have hnotin : ∀ K : List (Nat × Nat), (n, k) ∉ K → (∀ y ∈ K, ∃ e, Room es y e) → decide (addr (n, k) ∈ K.map addr) = false := by
    intro K hK hrK
    rw [decide_eq_false_iff_not]
    intro hmm
    obtain ⟨y, hy, hye⟩ := List.mem_map.1 hmm
    obtain ⟨ey, hry⟩ := hrK y hy
    have := addr_inj (hry.small hI.right).2 (show (n, k).2 < 4096 from hsm.2) hye
    subst this
    exact hK hy
  have hno1 := hnotin L hnL hF.room
  have hno2 := hnotin G hnG hF.roomG
  have e1 : ((n : Int) * 4096 + k) = addr (n, k) := rfl
  rw [e1]
  have hatn : addr (n, k) = ((n * 4096 + k : Nat) : Int) := by unfold addr; simp only; omega
  (refine j_nm rfl ?_; repeat (first | refine jo_cons ?_ | (refine jo_iso ?_; first | (refine jo_isbin ?_; first | refine jo_v (by first | exact pv_add rfl rfl (by omega) | exact pv_sub rfl rfl (by omega)) rfl ?_ | refine jo_pure tab_ok rfl rfl ?_ | refine jo_v (by first | exact pv_add64 rfl rfl | exact pv_ptr_eq tab_ok rfl rfl rfl | exact pv_ptr_ne tab_ok rfl rfl rfl | exact pv_if_eq tab_ok rfl rfl rfl (.inl rfl) | exact pv_if_eq tab_ok rfl rfl rfl (.inr ⟨_, _, rfl⟩) | exact pv_if_ne tab_ok rfl rfl rfl (.inl rfl) | exact pv_if_ne tab_ok rfl rfl rfl (.inr ⟨_, _, rfl⟩)) rfl ?_) | refine jo_pure tab_ok rfl rfl ?_ | refine jo_want rfl ?_ | refine jo_skip rfl rfl ?_ | refine jo_load tab_ok rfl rfl rfl (by first | ((repeat first | exact Rd.here rfl | refine Rd.there ?_); done) | assumption) rfl ?_) | refine jo_nil ?_ | refine jc_seq ?_ | refine jc_skip ?_ | refine jc_region ?_ | refine jc_block ?_ | refine jc_ret ?_ | refine jc_exit ?_ | refine jx_then ?_ | refine jx_then_exit ?_ | refine jx_then_ret ?_ | refine jx_block ?_ | refine jx_block_ret ?_ | refine jx_block_hit ?_ | refine jx_block_miss rfl ?_ | refine jc_true rfl ?_ | refine jc_false rfl ?_))
  refine jo_call [] (at_tri (addr (n, k))) ent9 rfl ⟨rfl, rfl⟩ rfl ?_
  rintro v B ⟨rfl, rfl⟩
  rw [ha1, ha2]
  (refine j_nm rfl ?_; repeat (first | refine jo_cons ?_ | (refine jo_iso ?_; first | (refine jo_isbin ?_; first | refine jo_v (by first | exact pv_add rfl rfl (by omega) | exact pv_sub rfl rfl (by omega)) rfl ?_ | refine jo_pure tab_ok rfl rfl ?_ | refine jo_v (by first | exact pv_add64 rfl rfl | exact pv_ptr_eq tab_ok rfl rfl rfl | exact pv_ptr_ne tab_ok rfl rfl rfl | exact pv_if_eq tab_ok rfl rfl rfl (.inl rfl) | exact pv_if_eq tab_ok rfl rfl rfl (.inr ⟨_, _, rfl⟩) | exact pv_if_ne tab_ok rfl rfl rfl (.inl rfl) | exact pv_if_ne tab_ok rfl rfl rfl (.inr ⟨_, _, rfl⟩)) rfl ?_) | refine jo_pure tab_ok rfl rfl ?_ | refine jo_want rfl ?_ | refine jo_skip rfl rfl ?_ | refine jo_load tab_ok rfl rfl rfl (by first | ((repeat first | exact Rd.here rfl | refine Rd.there ?_); done) | assumption) rfl ?_) | refine jo_nil ?_ | refine jc_seq ?_ | refine jc_skip ?_ | refine jc_region ?_ | refine jc_block ?_ | refine jc_ret ?_ | refine jc_exit ?_ | refine jx_then ?_ | refine jx_then_exit ?_ | refine jx_then_ret ?_ | refine jx_block ?_ | refine jx_block_ret ?_ | refine jx_block_hit ?_ | refine jx_block_miss rfl ?_ | refine jc_true rfl ?_ | refine jc_false rfl ?_))
  refine jo_call [0] (roster_tri h8) ent18 rfl ⟨rfl, rfl⟩ rfl ?_
  rintro v B ⟨rv, rfl, rfl⟩
  refine j_nm rfl ?_
  refine j_sl_ro fun hrr => ?_
  obtain ⟨rb, rn, rc, rfl, hr1, hr2, hr3⟩ := hrr
  rw [ecells_len] at hr1
  have hnr : n < rn := by omega
  obtain ⟨bb, o, rfl, hrd⟩ := hr3.resolve_left (by omega)
  (refine j_nm rfl ?_; repeat (first | refine jo_cons ?_ | (refine jo_iso ?_; first | (refine jo_isbin ?_; first | refine jo_v (by first | exact pv_add rfl rfl (by omega) | exact pv_sub rfl rfl (by omega)) rfl ?_ | refine jo_pure tab_ok rfl rfl ?_ | refine jo_v (by first | exact pv_add64 rfl rfl | exact pv_ptr_eq tab_ok rfl rfl rfl | exact pv_ptr_ne tab_ok rfl rfl rfl | exact pv_if_eq tab_ok rfl rfl rfl (.inl rfl) | exact pv_if_eq tab_ok rfl rfl rfl (.inr ⟨_, _, rfl⟩) | exact pv_if_ne tab_ok rfl rfl rfl (.inl rfl) | exact pv_if_ne tab_ok rfl rfl rfl (.inr ⟨_, _, rfl⟩)) rfl ?_) | refine jo_pure tab_ok rfl rfl ?_ | refine jo_want rfl ?_ | refine jo_skip rfl rfl ?_ | refine jo_load tab_ok rfl rfl rfl (by first | ((repeat first | exact Rd.here rfl | refine Rd.there ?_); done) | assumption) rfl ?_) | refine jo_nil ?_ | refine jc_seq ?_ | refine jc_skip ?_ | refine jc_region ?_ | refine jc_block ?_ | refine jc_ret ?_ | refine jc_exit ?_ | refine jx_then ?_ | refine jx_then_exit ?_ | refine jx_then_ret ?_ | refine jx_block ?_ | refine jx_block_ret ?_ | refine jx_block_hit ?_ | refine jx_block_miss rfl ?_ | refine jc_true rfl ?_ | refine jc_false rfl ?_))
  refine jo_alloc tab_ok rfl rfl fun r => ?_
  (refine j_nm rfl ?_; repeat (first | refine jo_cons ?_ | (refine jo_iso ?_; first | (refine jo_isbin ?_; first | refine jo_v (by first | exact pv_add rfl rfl (by omega) | exact pv_sub rfl rfl (by omega)) rfl ?_ | refine jo_pure tab_ok rfl rfl ?_ | refine jo_v (by first | exact pv_add64 rfl rfl | exact pv_ptr_eq tab_ok rfl rfl rfl | exact pv_ptr_ne tab_ok rfl rfl rfl | exact pv_if_eq tab_ok rfl rfl rfl (.inl rfl) | exact pv_if_eq tab_ok rfl rfl rfl (.inr ⟨_, _, rfl⟩) | exact pv_if_ne tab_ok rfl rfl rfl (.inl rfl) | exact pv_if_ne tab_ok rfl rfl rfl (.inr ⟨_, _, rfl⟩)) rfl ?_) | refine jo_pure tab_ok rfl rfl ?_ | refine jo_want rfl ?_ | refine jo_skip rfl rfl ?_ | refine jo_load tab_ok rfl rfl rfl (by first | ((repeat first | exact Rd.here rfl | refine Rd.there ?_); done) | assumption) rfl ?_) | refine jo_nil ?_ | refine jc_seq ?_ | refine jc_skip ?_ | refine jc_region ?_ | refine jc_block ?_ | refine jc_ret ?_ | refine jc_exit ?_ | refine jx_then ?_ | refine jx_then_exit ?_ | refine jx_then_ret ?_ | refine jx_block ?_ | refine jx_block_ret ?_ | refine jx_block_hit ?_ | refine jx_block_miss rfl ?_ | refine jc_true rfl ?_ | refine jc_false rfl ?_))
  refine jo_store1 tab_ok 0 rfl rfl rfl rfl rfl ⟨rfl, rfl⟩ (by simp) ?_
  refine j_nm rfl ?_
  refine j_front [4] (j_sl_ro fun hrh => ?_)
  refine j_front [5] (j_sl_ro fun hro => ?_)
  (refine j_nm rfl ?_; repeat (first | refine jo_cons ?_ | (refine jo_iso ?_; first | (refine jo_isbin ?_; first | refine jo_v (by first | exact pv_add rfl rfl (by omega) | exact pv_sub rfl rfl (by omega)) rfl ?_ | refine jo_pure tab_ok rfl rfl ?_ | refine jo_v (by first | exact pv_add64 rfl rfl | exact pv_ptr_eq tab_ok rfl rfl rfl | exact pv_ptr_ne tab_ok rfl rfl rfl | exact pv_if_eq tab_ok rfl rfl rfl (.inl rfl) | exact pv_if_eq tab_ok rfl rfl rfl (.inr ⟨_, _, rfl⟩) | exact pv_if_ne tab_ok rfl rfl rfl (.inl rfl) | exact pv_if_ne tab_ok rfl rfl rfl (.inr ⟨_, _, rfl⟩)) rfl ?_) | refine jo_pure tab_ok rfl rfl ?_ | refine jo_want rfl ?_ | refine jo_skip rfl rfl ?_ | refine jo_load tab_ok rfl rfl rfl (by first | ((repeat first | exact Rd.here rfl | refine Rd.there ?_); done) | assumption) rfl ?_) | refine jo_nil ?_ | refine jc_seq ?_ | refine jc_skip ?_ | refine jc_region ?_ | refine jc_block ?_ | refine jc_ret ?_ | refine jc_exit ?_ | refine jx_then ?_ | refine jx_then_exit ?_ | refine jx_then_ret ?_ | refine jx_block ?_ | refine jx_block_ret ?_ | refine jx_block_hit ?_ | refine jx_block_miss rfl ?_ | refine jc_true rfl ?_ | refine jc_false rfl ?_))
  refine j_dec 80 rfl (fun h => absurd h (by omega)) (fun _ => ?_)
  (refine j_nm rfl ?_; repeat (first | refine jo_cons ?_ | (refine jo_iso ?_; first | (refine jo_isbin ?_; first | refine jo_v (by first | exact pv_add rfl rfl (by omega) | exact pv_sub rfl rfl (by omega)) rfl ?_ | refine jo_pure tab_ok rfl rfl ?_ | refine jo_v (by first | exact pv_add64 rfl rfl | exact pv_ptr_eq tab_ok rfl rfl rfl | exact pv_ptr_ne tab_ok rfl rfl rfl | exact pv_if_eq tab_ok rfl rfl rfl (.inl rfl) | exact pv_if_eq tab_ok rfl rfl rfl (.inr ⟨_, _, rfl⟩) | exact pv_if_ne tab_ok rfl rfl rfl (.inl rfl) | exact pv_if_ne tab_ok rfl rfl rfl (.inr ⟨_, _, rfl⟩)) rfl ?_) | refine jo_pure tab_ok rfl rfl ?_ | refine jo_want rfl ?_ | refine jo_skip rfl rfl ?_ | refine jo_load tab_ok rfl rfl rfl (by first | ((repeat first | exact Rd.here rfl | refine Rd.there ?_); done) | assumption) rfl ?_) | refine jo_nil ?_ | refine jc_seq ?_ | refine jc_skip ?_ | refine jc_region ?_ | refine jc_block ?_ | refine jc_ret ?_ | refine jc_exit ?_ | refine jx_then ?_ | refine jx_then_exit ?_ | refine jx_then_ret ?_ | refine jx_block ?_ | refine jx_block_ret ?_ | refine jx_block_hit ?_ | refine jx_block_miss rfl ?_ | refine jc_true rfl ?_ | refine jc_false rfl ?_))
  refine j_dec 87 rfl (fun h => absurd h (by omega)) (fun _ => ?_)
  (refine j_nm rfl ?_; repeat (first | refine jo_cons ?_ | (refine jo_iso ?_; first | (refine jo_isbin ?_; first | refine jo_v (by first | exact pv_add rfl rfl (by omega) | exact pv_sub rfl rfl (by omega)) rfl ?_ | refine jo_pure tab_ok rfl rfl ?_ | refine jo_v (by first | exact pv_add64 rfl rfl | exact pv_ptr_eq tab_ok rfl rfl rfl | exact pv_ptr_ne tab_ok rfl rfl rfl | exact pv_if_eq tab_ok rfl rfl rfl (.inl rfl) | exact pv_if_eq tab_ok rfl rfl rfl (.inr ⟨_, _, rfl⟩) | exact pv_if_ne tab_ok rfl rfl rfl (.inl rfl) | exact pv_if_ne tab_ok rfl rfl rfl (.inr ⟨_, _, rfl⟩)) rfl ?_) | refine jo_pure tab_ok rfl rfl ?_ | refine jo_want rfl ?_ | refine jo_skip rfl rfl ?_ | refine jo_load tab_ok rfl rfl rfl (by first | ((repeat first | exact Rd.here rfl | refine Rd.there ?_); done) | assumption) rfl ?_) | refine jo_nil ?_ | refine jc_seq ?_ | refine jc_skip ?_ | refine jc_region ?_ | refine jc_block ?_ | refine jc_ret ?_ | refine jc_exit ?_ | refine jx_then ?_ | refine jx_then_exit ?_ | refine jx_then_ret ?_ | refine jx_block ?_ | refine jx_block_ret ?_ | refine jx_block_hit ?_ | refine jx_block_miss rfl ?_ | refine jc_true rfl ?_ | refine jc_false rfl ?_))
  refine jo_v (pv_index tab_ok n rfl rfl rfl rfl rfl rfl hnr) rfl ?_
  (refine j_nm rfl ?_; repeat (first | refine jo_cons ?_ | (refine jo_iso ?_; first | (refine jo_isbin ?_; first | refine jo_v (by first | exact pv_add rfl rfl (by omega) | exact pv_sub rfl rfl (by omega)) rfl ?_ | refine jo_pure tab_ok rfl rfl ?_ | refine jo_v (by first | exact pv_add64 rfl rfl | exact pv_ptr_eq tab_ok rfl rfl rfl | exact pv_ptr_ne tab_ok rfl rfl rfl | exact pv_if_eq tab_ok rfl rfl rfl (.inl rfl) | exact pv_if_eq tab_ok rfl rfl rfl (.inr ⟨_, _, rfl⟩) | exact pv_if_ne tab_ok rfl rfl rfl (.inl rfl) | exact pv_if_ne tab_ok rfl rfl rfl (.inr ⟨_, _, rfl⟩)) rfl ?_) | refine jo_pure tab_ok rfl rfl ?_ | refine jo_want rfl ?_ | refine jo_skip rfl rfl ?_ | refine jo_load tab_ok rfl rfl rfl (by first | ((repeat first | exact Rd.here rfl | refine Rd.there ?_); done) | assumption) rfl ?_) | refine jo_nil ?_ | refine jc_seq ?_ | refine jc_skip ?_ | refine jc_region ?_ | refine jc_block ?_ | refine jc_ret ?_ | refine jc_exit ?_ | refine jx_then ?_ | refine jx_then_exit ?_ | refine jx_then_ret ?_ | refine jx_block ?_ | refine jx_block_ret ?_ | refine jx_block_hit ?_ | refine jx_block_miss rfl ?_ | refine jc_true rfl ?_ | refine jc_false rfl ?_))
  refine jo_load tab_ok rfl rfl rfl (Rd.there (Rd.there (Rd.there ((hrd _).one d1)))) rfl ?_
  (refine j_nm rfl ?_; repeat (first | refine jo_cons ?_ | (refine jo_iso ?_; first | (refine jo_isbin ?_; first | refine jo_v (by first | exact pv_add rfl rfl (by omega) | exact pv_sub rfl rfl (by omega)) rfl ?_ | refine jo_pure tab_ok rfl rfl ?_ | refine jo_v (by first | exact pv_add64 rfl rfl | exact pv_ptr_eq tab_ok rfl rfl rfl | exact pv_ptr_ne tab_ok rfl rfl rfl | exact pv_if_eq tab_ok rfl rfl rfl (.inl rfl) | exact pv_if_eq tab_ok rfl rfl rfl (.inr ⟨_, _, rfl⟩) | exact pv_if_ne tab_ok rfl rfl rfl (.inl rfl) | exact pv_if_ne tab_ok rfl rfl rfl (.inr ⟨_, _, rfl⟩)) rfl ?_) | refine jo_pure tab_ok rfl rfl ?_ | refine jo_want rfl ?_ | refine jo_skip rfl rfl ?_ | refine jo_load tab_ok rfl rfl rfl (by first | ((repeat first | exact Rd.here rfl | refine Rd.there ?_); done) | assumption) rfl ?_) | refine jo_nil ?_ | refine jc_seq ?_ | refine jc_skip ?_ | refine jc_region ?_ | refine jc_block ?_ | refine jc_ret ?_ | refine jc_exit ?_ | refine jx_then ?_ | refine jx_then_exit ?_ | refine jx_then_ret ?_ | refine jx_block ?_ | refine jx_block_ret ?_ | refine jx_block_hit ?_ | refine jx_block_miss rfl ?_ | refine jc_true rfl ?_ | refine jc_false rfl ?_))
  refine j_dec 100 rfl (fun h => absurd h (by omega)) (fun _ => ?_)
  (refine j_nm rfl ?_; repeat (first | refine jo_cons ?_ | (refine jo_iso ?_; first | (refine jo_isbin ?_; first | refine jo_v (by first | exact pv_add rfl rfl (by omega) | exact pv_sub rfl rfl (by omega)) rfl ?_ | refine jo_pure tab_ok rfl rfl ?_ | refine jo_v (by first | exact pv_add64 rfl rfl | exact pv_ptr_eq tab_ok rfl rfl rfl | exact pv_ptr_ne tab_ok rfl rfl rfl | exact pv_if_eq tab_ok rfl rfl rfl (.inl rfl) | exact pv_if_eq tab_ok rfl rfl rfl (.inr ⟨_, _, rfl⟩) | exact pv_if_ne tab_ok rfl rfl rfl (.inl rfl) | exact pv_if_ne tab_ok rfl rfl rfl (.inr ⟨_, _, rfl⟩)) rfl ?_) | refine jo_pure tab_ok rfl rfl ?_ | refine jo_want rfl ?_ | refine jo_skip rfl rfl ?_ | refine jo_load tab_ok rfl rfl rfl (by first | ((repeat first | exact Rd.here rfl | refine Rd.there ?_); done) | assumption) rfl ?_) | refine jo_nil ?_ | refine jc_seq ?_ | refine jc_skip ?_ | refine jc_region ?_ | refine jc_block ?_ | refine jc_ret ?_ | refine jc_exit ?_ | refine jx_then ?_ | refine jx_then_exit ?_ | refine jx_then_ret ?_ | refine jx_block ?_ | refine jx_block_ret ?_ | refine jx_block_hit ?_ | refine jx_block_miss rfl ?_ | refine jc_true rfl ?_ | refine jc_false rfl ?_))
  refine jo_v (pv_index tab_ok n rfl rfl rfl rfl rfl rfl hnr) rfl ?_
  (refine j_nm rfl ?_; repeat (first | refine jo_cons ?_ | (refine jo_iso ?_; first | (refine jo_isbin ?_; first | refine jo_v (by first | exact pv_add rfl rfl (by omega) | exact pv_sub rfl rfl (by omega)) rfl ?_ | refine jo_pure tab_ok rfl rfl ?_ | refine jo_v (by first | exact pv_add64 rfl rfl | exact pv_ptr_eq tab_ok rfl rfl rfl | exact pv_ptr_ne tab_ok rfl rfl rfl | exact pv_if_eq tab_ok rfl rfl rfl (.inl rfl) | exact pv_if_eq tab_ok rfl rfl rfl (.inr ⟨_, _, rfl⟩) | exact pv_if_ne tab_ok rfl rfl rfl (.inl rfl) | exact pv_if_ne tab_ok rfl rfl rfl (.inr ⟨_, _, rfl⟩)) rfl ?_) | refine jo_pure tab_ok rfl rfl ?_ | refine jo_want rfl ?_ | refine jo_skip rfl rfl ?_ | refine jo_load tab_ok rfl rfl rfl (by first | ((repeat first | exact Rd.here rfl | refine Rd.there ?_); done) | assumption) rfl ?_) | refine jo_nil ?_ | refine jc_seq ?_ | refine jc_skip ?_ | refine jc_region ?_ | refine jc_block ?_ | refine jc_ret ?_ | refine jc_exit ?_ | refine jx_then ?_ | refine jx_then_exit ?_ | refine jx_then_ret ?_ | refine jx_block ?_ | refine jx_block_ret ?_ | refine jx_block_hit ?_ | refine jx_block_miss rfl ?_ | refine jc_true rfl ?_ | refine jc_false rfl ?_))
  refine jo_load tab_ok rfl rfl rfl (Rd.there (Rd.there (Rd.there ((hrd _).one d2)))) rfl ?_
  (refine j_nm rfl ?_; repeat (first | refine jo_cons ?_ | (refine jo_iso ?_; first | (refine jo_isbin ?_; first | refine jo_v (by first | exact pv_add rfl rfl (by omega) | exact pv_sub rfl rfl (by omega)) rfl ?_ | refine jo_pure tab_ok rfl rfl ?_ | refine jo_v (by first | exact pv_add64 rfl rfl | exact pv_ptr_eq tab_ok rfl rfl rfl | exact pv_ptr_ne tab_ok rfl rfl rfl | exact pv_if_eq tab_ok rfl rfl rfl (.inl rfl) | exact pv_if_eq tab_ok rfl rfl rfl (.inr ⟨_, _, rfl⟩) | exact pv_if_ne tab_ok rfl rfl rfl (.inl rfl) | exact pv_if_ne tab_ok rfl rfl rfl (.inr ⟨_, _, rfl⟩)) rfl ?_) | refine jo_pure tab_ok rfl rfl ?_ | refine jo_want rfl ?_ | refine jo_skip rfl rfl ?_ | refine jo_load tab_ok rfl rfl rfl (by first | ((repeat first | exact Rd.here rfl | refine Rd.there ?_); done) | assumption) rfl ?_) | refine jo_nil ?_ | refine jc_seq ?_ | refine jc_skip ?_ | refine jc_region ?_ | refine jc_block ?_ | refine jc_ret ?_ | refine jc_exit ?_ | refine jx_then ?_ | refine jx_then_exit ?_ | refine jx_then_ret ?_ | refine jx_block ?_ | refine jx_block_ret ?_ | refine jx_block_hit ?_ | refine jx_block_miss rfl ?_ | refine jc_true rfl ?_ | refine jc_false rfl ?_))
  refine j_dec 110 rfl (fun h => absurd h (by omega)) (fun _ => ?_)
  (refine j_nm rfl ?_; repeat (first | refine jo_cons ?_ | (refine jo_iso ?_; first | (refine jo_isbin ?_; first | refine jo_v (by first | exact pv_add rfl rfl (by omega) | exact pv_sub rfl rfl (by omega)) rfl ?_ | refine jo_pure tab_ok rfl rfl ?_ | refine jo_v (by first | exact pv_add64 rfl rfl | exact pv_ptr_eq tab_ok rfl rfl rfl | exact pv_ptr_ne tab_ok rfl rfl rfl | exact pv_if_eq tab_ok rfl rfl rfl (.inl rfl) | exact pv_if_eq tab_ok rfl rfl rfl (.inr ⟨_, _, rfl⟩) | exact pv_if_ne tab_ok rfl rfl rfl (.inl rfl) | exact pv_if_ne tab_ok rfl rfl rfl (.inr ⟨_, _, rfl⟩)) rfl ?_) | refine jo_pure tab_ok rfl rfl ?_ | refine jo_want rfl ?_ | refine jo_skip rfl rfl ?_ | refine jo_load tab_ok rfl rfl rfl (by first | ((repeat first | exact Rd.here rfl | refine Rd.there ?_); done) | assumption) rfl ?_) | refine jo_nil ?_ | refine jc_seq ?_ | refine jc_skip ?_ | refine jc_region ?_ | refine jc_block ?_ | refine jc_ret ?_ | refine jc_exit ?_ | refine jx_then ?_ | refine jx_then_exit ?_ | refine jx_then_ret ?_ | refine jx_block ?_ | refine jx_block_ret ?_ | refine jx_block_hit ?_ | refine jx_block_miss rfl ?_ | refine jc_true rfl ?_ | refine jc_false rfl ?_))
  refine jo_call [1] (has_tri8 hrh (addr (n, k))) ent19 rfl ⟨rfl, rfl⟩ rfl ?_
  rintro v B ⟨rfl, rfl⟩
  rw [hno1]
  (refine j_nm rfl ?_; repeat (first | refine jo_cons ?_ | (refine jo_iso ?_; first | (refine jo_isbin ?_; first | refine jo_v (by first | exact pv_add rfl rfl (by omega) | exact pv_sub rfl rfl (by omega)) rfl ?_ | refine jo_pure tab_ok rfl rfl ?_ | refine jo_v (by first | exact pv_add64 rfl rfl | exact pv_ptr_eq tab_ok rfl rfl rfl | exact pv_ptr_ne tab_ok rfl rfl rfl | exact pv_if_eq tab_ok rfl rfl rfl (.inl rfl) | exact pv_if_eq tab_ok rfl rfl rfl (.inr ⟨_, _, rfl⟩) | exact pv_if_ne tab_ok rfl rfl rfl (.inl rfl) | exact pv_if_ne tab_ok rfl rfl rfl (.inr ⟨_, _, rfl⟩)) rfl ?_) | refine jo_pure tab_ok rfl rfl ?_ | refine jo_want rfl ?_ | refine jo_skip rfl rfl ?_ | refine jo_load tab_ok rfl rfl rfl (by first | ((repeat first | exact Rd.here rfl | refine Rd.there ?_); done) | assumption) rfl ?_) | refine jo_nil ?_ | refine jc_seq ?_ | refine jc_skip ?_ | refine jc_region ?_ | refine jc_block ?_ | refine jc_ret ?_ | refine jc_exit ?_ | refine jx_then ?_ | refine jx_then_exit ?_ | refine jx_then_ret ?_ | refine jx_block ?_ | refine jx_block_ret ?_ | refine jx_block_hit ?_ | refine jx_block_miss rfl ?_ | refine jc_true rfl ?_ | refine jc_false rfl ?_))
  refine jo_call [1] (has_tri8 hro (addr (n, k))) ent19 rfl ⟨rfl, rfl⟩ rfl ?_
  rintro v B ⟨rfl, rfl⟩
  rw [hno2]
  (refine j_nm rfl ?_; repeat (first | refine jo_cons ?_ | (refine jo_iso ?_; first | (refine jo_isbin ?_; first | refine jo_v (by first | exact pv_add rfl rfl (by omega) | exact pv_sub rfl rfl (by omega)) rfl ?_ | refine jo_pure tab_ok rfl rfl ?_ | refine jo_v (by first | exact pv_add64 rfl rfl | exact pv_ptr_eq tab_ok rfl rfl rfl | exact pv_ptr_ne tab_ok rfl rfl rfl | exact pv_if_eq tab_ok rfl rfl rfl (.inl rfl) | exact pv_if_eq tab_ok rfl rfl rfl (.inr ⟨_, _, rfl⟩) | exact pv_if_ne tab_ok rfl rfl rfl (.inl rfl) | exact pv_if_ne tab_ok rfl rfl rfl (.inr ⟨_, _, rfl⟩)) rfl ?_) | refine jo_pure tab_ok rfl rfl ?_ | refine jo_want rfl ?_ | refine jo_skip rfl rfl ?_ | refine jo_load tab_ok rfl rfl rfl (by first | ((repeat first | exact Rd.here rfl | refine Rd.there ?_); done) | assumption) rfl ?_) | refine jo_nil ?_ | refine jc_seq ?_ | refine jc_skip ?_ | refine jc_region ?_ | refine jc_block ?_ | refine jc_ret ?_ | refine jc_exit ?_ | refine jx_then ?_ | refine jx_then_exit ?_ | refine jx_then_ret ?_ | refine jx_block ?_ | refine jx_block_ret ?_ | refine jx_block_hit ?_ | refine jx_block_miss rfl ?_ | refine jc_true rfl ?_ | refine jc_false rfl ?_))
  refine jo_buildSlice tab_ok (cs := [I (addr (n, k))]) rfl rfl rfl rfl rfl rfl (by first | (simp [Instr.fill]; done) | simp [Instr.fill, Value.cells]) rfl fun bA => ?_
  (refine j_nm rfl ?_; repeat (first | refine jo_cons ?_ | (refine jo_iso ?_; first | (refine jo_isbin ?_; first | refine jo_v (by first | exact pv_add rfl rfl (by omega) | exact pv_sub rfl rfl (by omega)) rfl ?_ | refine jo_pure tab_ok rfl rfl ?_ | refine jo_v (by first | exact pv_add64 rfl rfl | exact pv_ptr_eq tab_ok rfl rfl rfl | exact pv_ptr_ne tab_ok rfl rfl rfl | exact pv_if_eq tab_ok rfl rfl rfl (.inl rfl) | exact pv_if_eq tab_ok rfl rfl rfl (.inr ⟨_, _, rfl⟩) | exact pv_if_ne tab_ok rfl rfl rfl (.inl rfl) | exact pv_if_ne tab_ok rfl rfl rfl (.inr ⟨_, _, rfl⟩)) rfl ?_) | refine jo_pure tab_ok rfl rfl ?_ | refine jo_want rfl ?_ | refine jo_skip rfl rfl ?_ | refine jo_load tab_ok rfl rfl rfl (by first | ((repeat first | exact Rd.here rfl | refine Rd.there ?_); done) | assumption) rfl ?_) | refine jo_nil ?_ | refine jc_seq ?_ | refine jc_skip ?_ | refine jc_region ?_ | refine jc_block ?_ | refine jc_ret ?_ | refine jc_exit ?_ | refine jx_then ?_ | refine jx_then_exit ?_ | refine jx_then_ret ?_ | refine jx_block ?_ | refine jx_block_ret ?_ | refine jx_block_hit ?_ | refine jx_block_miss rfl ?_ | refine jc_true rfl ?_ | refine jc_false rfl ?_))
  refine jo_append tab_ok 2 [I (addr (n, k))] rfl rfl rfl rfl rfl rfl ⟨rfl, rfl⟩ rfl (.inr ⟨bA, 0, rfl, Rd.all⟩) (by simp [one]) (by intro len' hl'; simp only [List.length_map, Nat.mul_one] at hl'; exact ⟨by show (len' + 1) * 8 ≤ _; omega, by simp only [maxLen]; omega⟩) rfl fun v2 => ?_
  have e2 : (L.map addr).map I ++ [I (addr (n, k))] = ((L ++ [(n, k)]).map addr).map I := by simp
  rw [e2]
  (refine j_nm rfl ?_; repeat (first | refine jo_cons ?_ | (refine jo_iso ?_; first | (refine jo_isbin ?_; first | refine jo_v (by first | exact pv_add rfl rfl (by omega) | exact pv_sub rfl rfl (by omega)) rfl ?_ | refine jo_pure tab_ok rfl rfl ?_ | refine jo_v (by first | exact pv_add64 rfl rfl | exact pv_ptr_eq tab_ok rfl rfl rfl | exact pv_ptr_ne tab_ok rfl rfl rfl | exact pv_if_eq tab_ok rfl rfl rfl (.inl rfl) | exact pv_if_eq tab_ok rfl rfl rfl (.inr ⟨_, _, rfl⟩) | exact pv_if_ne tab_ok rfl rfl rfl (.inl rfl) | exact pv_if_ne tab_ok rfl rfl rfl (.inr ⟨_, _, rfl⟩)) rfl ?_) | refine jo_pure tab_ok rfl rfl ?_ | refine jo_want rfl ?_ | refine jo_skip rfl rfl ?_ | refine jo_load tab_ok rfl rfl rfl (by first | ((repeat first | exact Rd.here rfl | refine Rd.there ?_); done) | assumption) rfl ?_) | refine jo_nil ?_ | refine jc_seq ?_ | refine jc_skip ?_ | refine jc_region ?_ | refine jc_block ?_ | refine jc_ret ?_ | refine jc_exit ?_ | refine jx_then ?_ | refine jx_then_exit ?_ | refine jx_then_ret ?_ | refine jx_block ?_ | refine jx_block_ret ?_ | refine jx_block_hit ?_ | refine jx_block_miss rfl ?_ | refine jc_true rfl ?_ | refine jc_false rfl ?_))
  refine jo_v (pv_index1 tab_ok (n * 4096 + k) rfl rfl rfl rfl rfl rfl hatn (by omega)) rfl (jo_cons ?_)
  refine jo_store tab_ok 7 rfl rfl rfl rfl rfl ⟨rfl, rfl⟩ (by simp; omega) ?_
  have e4 : (F.map Value.bool).set (0 + (n * 4096 + k)) (.bool true) = (F.set (n * 4096 + k) true).map Value.bool := by rw [Nat.zero_add, List.map_set]
  rw [e4]
  (refine j_nm rfl ?_; repeat (first | refine jo_cons ?_ | (refine jo_iso ?_; first | (refine jo_isbin ?_; first | refine jo_v (by first | exact pv_add rfl rfl (by omega) | exact pv_sub rfl rfl (by omega)) rfl ?_ | refine jo_pure tab_ok rfl rfl ?_ | refine jo_v (by first | exact pv_add64 rfl rfl | exact pv_ptr_eq tab_ok rfl rfl rfl | exact pv_ptr_ne tab_ok rfl rfl rfl | exact pv_if_eq tab_ok rfl rfl rfl (.inl rfl) | exact pv_if_eq tab_ok rfl rfl rfl (.inr ⟨_, _, rfl⟩) | exact pv_if_ne tab_ok rfl rfl rfl (.inl rfl) | exact pv_if_ne tab_ok rfl rfl rfl (.inr ⟨_, _, rfl⟩)) rfl ?_) | refine jo_pure tab_ok rfl rfl ?_ | refine jo_want rfl ?_ | refine jo_skip rfl rfl ?_ | refine jo_load tab_ok rfl rfl rfl (by first | ((repeat first | exact Rd.here rfl | refine Rd.there ?_); done) | assumption) rfl ?_) | refine jo_nil ?_ | refine jc_seq ?_ | refine jc_skip ?_ | refine jc_region ?_ | refine jc_block ?_ | refine jc_ret ?_ | refine jc_exit ?_ | refine jx_then ?_ | refine jx_then_exit ?_ | refine jx_then_ret ?_ | refine jx_block ?_ | refine jx_block_ret ?_ | refine jx_block_hit ?_ | refine jx_block_miss rfl ?_ | refine jc_true rfl ?_ | refine jc_false rfl ?_))
  exact jx_rnd (St.mk (i + 1) (ss.set n (tk sh k)) (L ++ [(n, k)]) G (F.set (n * 4096 + k) true) v2 ov fb) [3, 1, 1, 0] [2, 3, 3] ⟨hF', by simp only [List.length_append, List.length_cons, List.length_nil]; omega, hil⟩ hkk ⟨rfl, rfl, rfl, rfl, rfl, rfl, rfl, rfl, trivial⟩ rfl
end S19
end Go.Proofs.YtejaonodaplbhaaDoor
