import Derived.Test.YtejaonodaplbhaaDoorSt2
import Derived.Test.YtejaonodaplbhaaDoorSm
namespace Go.Proofs.YtejaonodaplbhaaDoor
namespace Sk1
open Go Go.Proofs.YtejaonodaplbhaaDoor.Hp Sp S2 S3 S4 S5 S6 S7 S8 S9 S10 S11 S14 S15 Rb1 Rb2 Rb3 Rb4 Rb5 Rb6 Pb Pc Pd
set_option maxRecDepth 10000
set_option linter.unusedVariables false
set_option linter.unusedSimpArgs false
attribute [local irreducible] wpList Code.wp wpAny wpAnyK
def tab : Tab := [
  ⟨43, .struct [(0, 3), (1, 3)], 2, 16, [.int .i64 0, .int .i64 0]⟩,
  ⟨27, .slice 43, 1, 24, [.slice none 0 0]⟩,
  ⟨94, .struct [(0, 3), (1, 3)], 2, 16, [.int .i64 0, .int .i64 0]⟩,
  ⟨59, .slice 94, 1, 24, [.slice none 0 0]⟩,
  ⟨61, .struct [(0, 27), (1, 59), (2, 27), (3, 59), (4, 4)], 5, 104, [.slice none 0 0, .slice none 0 0, .slice none 0 0, .slice none 0 0, .bool false]⟩,
  ⟨58, .pointer 61, 1, 8, [.pointer none]⟩,
  ⟨49, .struct [(0, 3), (1, 3), (2, 3), (3, 27)], 4, 48, [.int .i64 0, .int .i64 0, .int .i64 0, .slice none 0 0]⟩,
  ⟨46, .slice 49, 1, 24, [.slice none 0 0]⟩,
  ⟨3, .int .i64, 1, 8, [.int .i64 0]⟩,
  ⟨4, .bool, 1, 1, [.bool false]⟩,
  ⟨47, .slice 3, 1, 24, [.slice none 0 0]⟩,
  ⟨63, .slice 47, 1, 24, [.slice none 0 0]⟩,
  ⟨30, .iface, 1, 16, [.nilIface]⟩,
  ⟨35, .struct [(0, 33)], 1, 24, [.slice none 0 0]⟩,
  ⟨33, .slice 51, 1, 24, [.slice none 0 0]⟩,
  ⟨51, .struct [(0, 3), (1, 3)], 2, 16, [.int .i64 0, .int .i64 0]⟩,
  ⟨28, .pointer 73, 1, 8, [.pointer none]⟩,
  ⟨73, .struct [(0, 68), (1, 68)], 2, 16, [.pointer none, .pointer none]⟩,
  ⟨76, .int .i64, 1, 8, [.int .i64 0]⟩]
theorem tab_43 : TE.ok Tryd.prog ⟨43, .struct [(0, 3), (1, 3)], 2, 16, [.int .i64 0, .int .i64 0]⟩ := ⟨by kernel_rfl, by kernel_rfl, by kernel_rfl, by kernel_rfl⟩
theorem tab_27 : TE.ok Tryd.prog ⟨27, .slice 43, 1, 24, [.slice none 0 0]⟩ := ⟨by kernel_rfl, by kernel_rfl, by kernel_rfl, by kernel_rfl⟩
theorem tab_94 : TE.ok Tryd.prog ⟨94, .struct [(0, 3), (1, 3)], 2, 16, [.int .i64 0, .int .i64 0]⟩ := ⟨by kernel_rfl, by kernel_rfl, by kernel_rfl, by kernel_rfl⟩
theorem tab_59 : TE.ok Tryd.prog ⟨59, .slice 94, 1, 24, [.slice none 0 0]⟩ := ⟨by kernel_rfl, by kernel_rfl, by kernel_rfl, by kernel_rfl⟩
theorem tab_61 : TE.ok Tryd.prog ⟨61, .struct [(0, 27), (1, 59), (2, 27), (3, 59), (4, 4)], 5, 104, [.slice none 0 0, .slice none 0 0, .slice none 0 0, .slice none 0 0, .bool false]⟩ := ⟨by kernel_rfl, by kernel_rfl, by kernel_rfl, by kernel_rfl⟩
theorem tab_58 : TE.ok Tryd.prog ⟨58, .pointer 61, 1, 8, [.pointer none]⟩ := ⟨by kernel_rfl, by kernel_rfl, by kernel_rfl, by kernel_rfl⟩
theorem tab_49 : TE.ok Tryd.prog ⟨49, .struct [(0, 3), (1, 3), (2, 3), (3, 27)], 4, 48, [.int .i64 0, .int .i64 0, .int .i64 0, .slice none 0 0]⟩ := ⟨by kernel_rfl, by kernel_rfl, by kernel_rfl, by kernel_rfl⟩
theorem tab_46 : TE.ok Tryd.prog ⟨46, .slice 49, 1, 24, [.slice none 0 0]⟩ := ⟨by kernel_rfl, by kernel_rfl, by kernel_rfl, by kernel_rfl⟩
theorem tab_3 : TE.ok Tryd.prog ⟨3, .int .i64, 1, 8, [.int .i64 0]⟩ := ⟨by kernel_rfl, by kernel_rfl, by kernel_rfl, by kernel_rfl⟩
theorem tab_4 : TE.ok Tryd.prog ⟨4, .bool, 1, 1, [.bool false]⟩ := ⟨by kernel_rfl, by kernel_rfl, by kernel_rfl, by kernel_rfl⟩
theorem tab_47 : TE.ok Tryd.prog ⟨47, .slice 3, 1, 24, [.slice none 0 0]⟩ := ⟨by kernel_rfl, by kernel_rfl, by kernel_rfl, by kernel_rfl⟩
theorem tab_63 : TE.ok Tryd.prog ⟨63, .slice 47, 1, 24, [.slice none 0 0]⟩ := ⟨by kernel_rfl, by kernel_rfl, by kernel_rfl, by kernel_rfl⟩
theorem tab_30 : TE.ok Tryd.prog ⟨30, .iface, 1, 16, [.nilIface]⟩ := ⟨by kernel_rfl, by kernel_rfl, by kernel_rfl, by kernel_rfl⟩
theorem tab_35 : TE.ok Tryd.prog ⟨35, .struct [(0, 33)], 1, 24, [.slice none 0 0]⟩ := ⟨by kernel_rfl, by kernel_rfl, by kernel_rfl, by kernel_rfl⟩
theorem tab_33 : TE.ok Tryd.prog ⟨33, .slice 51, 1, 24, [.slice none 0 0]⟩ := ⟨by kernel_rfl, by kernel_rfl, by kernel_rfl, by kernel_rfl⟩
theorem tab_51 : TE.ok Tryd.prog ⟨51, .struct [(0, 3), (1, 3)], 2, 16, [.int .i64 0, .int .i64 0]⟩ := ⟨by kernel_rfl, by kernel_rfl, by kernel_rfl, by kernel_rfl⟩
theorem tab_28 : TE.ok Tryd.prog ⟨28, .pointer 73, 1, 8, [.pointer none]⟩ := ⟨by kernel_rfl, by kernel_rfl, by kernel_rfl, by kernel_rfl⟩
theorem tab_73 : TE.ok Tryd.prog ⟨73, .struct [(0, 68), (1, 68)], 2, 16, [.pointer none, .pointer none]⟩ := ⟨by kernel_rfl, by kernel_rfl, by kernel_rfl, by kernel_rfl⟩
theorem tab_76 : TE.ok Tryd.prog ⟨76, .int .i64, 1, 8, [.int .i64 0]⟩ := ⟨by kernel_rfl, by kernel_rfl, by kernel_rfl, by kernel_rfl⟩
theorem tab_ok : tab.ok Tryd.prog := by
  intro e he
  simp only [tab, List.mem_cons, List.not_mem_nil, or_false] at he
  rcases he with rfl | rfl | rfl | rfl | rfl | rfl | rfl | rfl | rfl | rfl | rfl | rfl | rfl | rfl | rfl | rfl | rfl | rfl | rfl
  · exact tab_43
  · exact tab_27
  · exact tab_94
  · exact tab_59
  · exact tab_61
  · exact tab_58
  · exact tab_49
  · exact tab_46
  · exact tab_3
  · exact tab_4
  · exact tab_47
  · exact tab_63
  · exact tab_30
  · exact tab_35
  · exact tab_33
  · exact tab_51
  · exact tab_28
  · exact tab_73
  · exact tab_76

theorem ent10 : Enters Tryd.prog 10 := ⟨_, _, Tryd.func10, by kernel_rfl, rfl⟩
theorem ent30 : Enters Tryd.prog 30 := ⟨_, _, Tryd.func30, by kernel_rfl, rfl⟩
theorem ent29 : Enters Tryd.prog 29 := ⟨_, _, Tryd.func29, by kernel_rfl, rfl⟩
theorem ent26 : Enters Tryd.prog 26 := ⟨_, _, Tryd.func26, by kernel_rfl, rfl⟩
theorem ent11 : Enters Tryd.prog 11 := ⟨_, _, Tryd.func11, by kernel_rfl, rfl⟩
theorem ent12 : Enters Tryd.prog 12 := ⟨_, _, Tryd.func12, by kernel_rfl, rfl⟩

abbrev OB (A : Assn) : Value → List Assn → Prop := fun v B => v = .bool true ∧ B = [A]
abbrev QB (E : World) (A : Assn) (F : List Assn) : Exit → Act → World → Prop := bodyPost Tryd.prog Tryd.f7 (ends E (OB A) F)
/-- a list of lists of numbers -/
def WL (v : Value) (ls : List (List Int)) : Assn := fun m => ∃ svs : List Value, svs.length = ls.length ∧ star [sl 47 1 v svs, many (fun sv l => sl 3 1 sv (l.map I)) svs ls] m
theorem j_wl {E : World} {X : Act → World → Prop} {n : Nat} {f : Fr} {L : List Assn} {v : Value} {ls : List (List Int)}
    (h : ∀ svs : List Value, svs.length = ls.length → J E X n f (sl 47 1 v svs :: many (fun sv l => sl 3 1 sv (l.map I)) svs ls :: L)) : J E X n f (WL v ls :: L) :=
  j_ex fun svs => j_and fun hl => j_star (h svs hl)
theorem wl_shut {v : Value} {ls : List (List Int)} {svs : List Value} (hl : svs.length = ls.length) : ∀ m, star [sl 47 1 v svs, many (fun sv l => sl 3 1 sv (l.map I)) svs ls] m → WL v ls m := fun _ h => ⟨svs, hl, h⟩
def ons (ss : List Shl) (k : Nat) : List (List Int) := (List.range k).map fun d : Nat => onS ss (d : Int)
theorem ons_len (ss : List Shl) (k : Nat) : (ons ss k).length = k := by simp [ons]
theorem ons_next (ss : List Shl) (k : Nat) : ons ss (k + 1) = ons ss k ++ [onS ss (k : Int)] := by simp [ons, List.range_succ]
theorem ons_at (ss : List Shl) {k n : Nat} (h : n < k) : (ons ss k)[n]? = some (onS ss (n : Int)) := by
  unfold ons
  rw [List.getElem?_map, List.getElem?_range h]
  rfl
set_option maxHeartbeats 4000000 in
theorem b54 {A : Assn} (hA : Tz A) (E : World) (X : Assn) {p x : Nat} {rv : Value} {es ms : List Ent} {ss : List Shl} (hro : Ro A 2 rv (ecells es)) (h : Rel es ss ms) (hb : ms.length ≤ 100000) :
    J E (here Tryd.prog [.r, .r, .r, .r, .r, .r, .r, .r, .r, .r, .r, .r] Tryd.f7 (QB E A [X])) 213 [(7, ptr p), (9, ptr x)] [Spc p es ss none, Rsp x rv ms, A, X] := by
  refine j_here rfl ?_
  (refine j_nm rfl ?_; repeat (first | refine jo_cons ?_ | (refine jo_iso ?_; first | (refine jo_isbin ?_; first | refine jo_v (by first | exact pv_add rfl rfl (by omega) | exact pv_sub rfl rfl (by omega)) rfl ?_ | refine jo_pure tab_ok rfl rfl ?_ | refine jo_v (by first | exact pv_if_eq tab_ok rfl rfl rfl (.inl rfl) | exact pv_if_eq tab_ok rfl rfl rfl (.inr ⟨_, _, rfl⟩) | exact pv_if_ne tab_ok rfl rfl rfl (.inl rfl) | exact pv_if_ne tab_ok rfl rfl rfl (.inr ⟨_, _, rfl⟩)) rfl ?_) | refine jo_pure tab_ok rfl rfl ?_ | refine jo_want rfl ?_ | refine jo_skip rfl rfl ?_ | refine jo_load tab_ok rfl rfl rfl (by first | ((repeat first | exact Rd.here rfl | refine Rd.there ?_); done) | assumption) rfl ?_) | refine jo_nil ?_ | refine jc_seq ?_ | refine jc_skip ?_ | refine jc_region ?_ | refine jc_block ?_ | refine jc_ret ?_ | refine jc_exit ?_ | refine jx_then ?_ | refine jx_then_exit ?_ | refine jx_then_ret ?_ | refine jx_block ?_ | refine jx_block_ret ?_ | refine jx_block_hit ?_ | refine jx_block_miss rfl ?_ | refine jc_true rfl ?_ | refine jc_false rfl ?_))
  refine jo_call [0, 0, 0] (St2.holds_tri hA hro h hb) ent30 rfl ⟨rfl, rfl⟩ rfl ?_
  rintro v B ⟨rfl, rfl⟩
  (refine j_nm rfl ?_; repeat (first | refine jo_cons ?_ | (refine jo_iso ?_; first | (refine jo_isbin ?_; first | refine jo_v (by first | exact pv_add rfl rfl (by omega) | exact pv_sub rfl rfl (by omega)) rfl ?_ | refine jo_pure tab_ok rfl rfl ?_ | refine jo_v (by first | exact pv_if_eq tab_ok rfl rfl rfl (.inl rfl) | exact pv_if_eq tab_ok rfl rfl rfl (.inr ⟨_, _, rfl⟩) | exact pv_if_ne tab_ok rfl rfl rfl (.inl rfl) | exact pv_if_ne tab_ok rfl rfl rfl (.inr ⟨_, _, rfl⟩)) rfl ?_) | refine jo_pure tab_ok rfl rfl ?_ | refine jo_want rfl ?_ | refine jo_skip rfl rfl ?_ | refine jo_load tab_ok rfl rfl rfl (by first | ((repeat first | exact Rd.here rfl | refine Rd.there ?_); done) | assumption) rfl ?_) | refine jo_nil ?_ | refine jc_seq ?_ | refine jc_skip ?_ | refine jc_region ?_ | refine jc_block ?_ | refine jc_ret ?_ | refine jc_exit ?_ | refine jx_then ?_ | refine jx_then_exit ?_ | refine jx_then_ret ?_ | refine jx_block ?_ | refine jx_block_ret ?_ | refine jx_block_hit ?_ | refine jx_block_miss rfl ?_ | refine jc_true rfl ?_ | refine jc_false rfl ?_))
  refine jo_call [2] (awake_tri hA) ent10 rfl ⟨rfl, rfl⟩ rfl ?_
  rintro v B ⟨rfl, rfl⟩
  (refine j_nm rfl ?_; repeat (first | refine jo_cons ?_ | (refine jo_iso ?_; first | (refine jo_isbin ?_; first | refine jo_v (by first | exact pv_add rfl rfl (by omega) | exact pv_sub rfl rfl (by omega)) rfl ?_ | refine jo_pure tab_ok rfl rfl ?_ | refine jo_v (by first | exact pv_if_eq tab_ok rfl rfl rfl (.inl rfl) | exact pv_if_eq tab_ok rfl rfl rfl (.inr ⟨_, _, rfl⟩) | exact pv_if_ne tab_ok rfl rfl rfl (.inl rfl) | exact pv_if_ne tab_ok rfl rfl rfl (.inr ⟨_, _, rfl⟩)) rfl ?_) | refine jo_pure tab_ok rfl rfl ?_ | refine jo_want rfl ?_ | refine jo_skip rfl rfl ?_ | refine jo_load tab_ok rfl rfl rfl (by first | ((repeat first | exact Rd.here rfl | refine Rd.there ?_); done) | assumption) rfl ?_) | refine jo_nil ?_ | refine jc_seq ?_ | refine jc_skip ?_ | refine jc_region ?_ | refine jc_block ?_ | refine jc_ret ?_ | refine jc_exit ?_ | refine jx_then ?_ | refine jx_then_exit ?_ | refine jx_then_ret ?_ | refine jx_block ?_ | refine jx_block_ret ?_ | refine jx_block_hit ?_ | refine jx_block_miss rfl ?_ | refine jc_true rfl ?_ | refine jc_false rfl ?_))
  exact j_ret [0] [1, 1] rfl ⟨rfl, rfl⟩ ⟨rfl, rfl⟩
set_option maxHeartbeats 4000000 in
theorem b41 {A : Assn} (hA : Tz A) (E : World) (X : Assn) {p x : Nat} {rv wv : Value} {es ms : List Ent} {ss : List Shl} (hro : Ro A 2 rv (ecells es)) (h : Rel es ss ms) (hb : ms.length ≤ 100000) :
    J E (here Tryd.prog [.r, .r, .r, .r, .r, .r, .r, .r, .r, .r, .r] Tryd.f7 (QB E A [X])) 213 [(0, rv), (7, ptr p), (9, ptr x), (12, wv)] [WL wv (ons ss es.length), Spc p es ss none, Rsp x rv ms, A, X] := by
  have hro' := hro
  obtain ⟨base, len, cap, rfl, hlen, hlm, hor⟩ := hro
  rw [ecells_len] at hlen
  have hlen : es.length = len := by omega
  have h8 := okR_len h.inv.right
  have hll := ons_len ss es.length
  refine j_here rfl ?_
  refine j_wl fun svs hs => ?_
  refine j_sl_ro fun hrw => ?_
  obtain ⟨wb, wn, wc, rfl, hwl, hwm, hwo⟩ := hrw
  simp only [Nat.mul_one, maxLen] at hwl hwm
  (refine j_nm rfl ?_; repeat (first | refine jo_cons ?_ | (refine jo_iso ?_; first | (refine jo_isbin ?_; first | refine jo_v (by first | exact pv_add rfl rfl (by omega) | exact pv_sub rfl rfl (by omega)) rfl ?_ | refine jo_pure tab_ok rfl rfl ?_ | refine jo_v (by first | exact pv_if_eq tab_ok rfl rfl rfl (.inl rfl) | exact pv_if_eq tab_ok rfl rfl rfl (.inr ⟨_, _, rfl⟩) | exact pv_if_ne tab_ok rfl rfl rfl (.inl rfl) | exact pv_if_ne tab_ok rfl rfl rfl (.inr ⟨_, _, rfl⟩)) rfl ?_) | refine jo_pure tab_ok rfl rfl ?_ | refine jo_want rfl ?_ | refine jo_skip rfl rfl ?_ | refine jo_load tab_ok rfl rfl rfl (by first | ((repeat first | exact Rd.here rfl | refine Rd.there ?_); done) | assumption) rfl ?_) | refine jo_nil ?_ | refine jc_seq ?_ | refine jc_skip ?_ | refine jc_region ?_ | refine jc_block ?_ | refine jc_ret ?_ | refine jc_exit ?_ | refine jx_then ?_ | refine jx_then_exit ?_ | refine jx_then_ret ?_ | refine jx_block ?_ | refine jx_block_ret ?_ | refine jx_block_hit ?_ | refine jx_block_miss rfl ?_ | refine jc_true rfl ?_ | refine jc_false rfl ?_))
  refine jc_loop (ι := Nat) (fun i => [(174, I i), (173, I len), (7, ptr p), (9, ptr x), (12, .slice wb wn wc)])
    (fun _ => sl 47 1 (.slice wb wn wc) svs :: many (fun sv l => sl 3 1 sv (l.map I)) svs (ons ss es.length) :: Spc p es ss none :: Rsp x (.slice base len cap) ms :: A :: [X]) (fun i => i ≤ len) (fun i => len - i) 0 [] [] (Nat.zero_le _) ⟨rfl, rfl, rfl, rfl, rfl, trivial⟩ rfl ?_
  intro i hi
  (refine j_nm rfl ?_; repeat (first | refine jo_cons ?_ | (refine jo_iso ?_; first | (refine jo_isbin ?_; first | refine jo_v (by first | exact pv_add rfl rfl (by omega) | exact pv_sub rfl rfl (by omega)) rfl ?_ | refine jo_pure tab_ok rfl rfl ?_ | refine jo_v (by first | exact pv_if_eq tab_ok rfl rfl rfl (.inl rfl) | exact pv_if_eq tab_ok rfl rfl rfl (.inr ⟨_, _, rfl⟩) | exact pv_if_ne tab_ok rfl rfl rfl (.inl rfl) | exact pv_if_ne tab_ok rfl rfl rfl (.inr ⟨_, _, rfl⟩)) rfl ?_) | refine jo_pure tab_ok rfl rfl ?_ | refine jo_want rfl ?_ | refine jo_skip rfl rfl ?_ | refine jo_load tab_ok rfl rfl rfl (by first | ((repeat first | exact Rd.here rfl | refine Rd.there ?_); done) | assumption) rfl ?_) | refine jo_nil ?_ | refine jc_seq ?_ | refine jc_skip ?_ | refine jc_region ?_ | refine jc_block ?_ | refine jc_ret ?_ | refine jc_exit ?_ | refine jx_then ?_ | refine jx_then_exit ?_ | refine jx_then_ret ?_ | refine jx_block ?_ | refine jx_block_ret ?_ | refine jx_block_hit ?_ | refine jx_block_miss rfl ?_ | refine jc_true rfl ?_ | refine jc_false rfl ?_))
  refine jc_dec rfl (fun h2 => ?_) (fun h2 => ?_)
  · have hi' : i < len := by omega
    have his : i < svs.length := by omega
    have hsv : svs[i]? = some svs[i] := List.getElem?_eq_getElem his
    generalize svs[i] = sv at hsv
    have hat := ons_at ss (k := es.length) (n := i) (by omega)
    obtain ⟨wp, wo, rfl, rw_⟩ := hwo.resolve_left (by omega)
    (refine j_nm rfl ?_; repeat (first | refine jo_cons ?_ | (refine jo_iso ?_; first | (refine jo_isbin ?_; first | refine jo_v (by first | exact pv_add rfl rfl (by omega) | exact pv_sub rfl rfl (by omega)) rfl ?_ | refine jo_pure tab_ok rfl rfl ?_ | refine jo_v (by first | exact pv_if_eq tab_ok rfl rfl rfl (.inl rfl) | exact pv_if_eq tab_ok rfl rfl rfl (.inr ⟨_, _, rfl⟩) | exact pv_if_ne tab_ok rfl rfl rfl (.inl rfl) | exact pv_if_ne tab_ok rfl rfl rfl (.inr ⟨_, _, rfl⟩)) rfl ?_) | refine jo_pure tab_ok rfl rfl ?_ | refine jo_want rfl ?_ | refine jo_skip rfl rfl ?_ | refine jo_load tab_ok rfl rfl rfl (by first | ((repeat first | exact Rd.here rfl | refine Rd.there ?_); done) | assumption) rfl ?_) | refine jo_nil ?_ | refine jc_seq ?_ | refine jc_skip ?_ | refine jc_region ?_ | refine jc_block ?_ | refine jc_ret ?_ | refine jc_exit ?_ | refine jx_then ?_ | refine jx_then_exit ?_ | refine jx_then_ret ?_ | refine jx_block ?_ | refine jx_block_ret ?_ | refine jx_block_hit ?_ | refine jx_block_miss rfl ?_ | refine jc_true rfl ?_ | refine jc_false rfl ?_))
    refine jo_call [2, 3] (So1.on_tri hA h.inv i) ent25 rfl ⟨rfl, rfl⟩ rfl ?_
    rintro ov B rfl
    generalize onS ss (i : Int) = l at hat
    refine j_nm rfl ?_
    refine j_sl_ro fun hrv => ?_
    obtain ⟨ob, on_, oc, rfl, hol, hom, hoo⟩ := hrv
    simp only [List.length_map, Nat.mul_one, maxLen] at hol hom
    refine j_nm rfl ?_
    refine j_front [4] (j_many i hsv hat ?_)
    refine j_sl_ro fun hrm => ?_
    obtain ⟨mb, mn, mc, rfl, hml, hmm, hmo⟩ := hrm
    simp only [List.length_map, Nat.mul_one, maxLen] at hml hmm
    have hnn : on_ = mn := by omega
    subst hnn
    (refine j_nm rfl ?_; repeat (first | refine jo_cons ?_ | (refine jo_iso ?_; first | (refine jo_isbin ?_; first | refine jo_v (by first | exact pv_add rfl rfl (by omega) | exact pv_sub rfl rfl (by omega)) rfl ?_ | refine jo_pure tab_ok rfl rfl ?_ | refine jo_v (by first | exact pv_if_eq tab_ok rfl rfl rfl (.inl rfl) | exact pv_if_eq tab_ok rfl rfl rfl (.inr ⟨_, _, rfl⟩) | exact pv_if_ne tab_ok rfl rfl rfl (.inl rfl) | exact pv_if_ne tab_ok rfl rfl rfl (.inr ⟨_, _, rfl⟩)) rfl ?_) | refine jo_pure tab_ok rfl rfl ?_ | refine jo_want rfl ?_ | refine jo_skip rfl rfl ?_ | refine jo_load tab_ok rfl rfl rfl (by first | ((repeat first | exact Rd.here rfl | refine Rd.there ?_); done) | assumption) rfl ?_) | refine jo_nil ?_ | refine jc_seq ?_ | refine jc_skip ?_ | refine jc_region ?_ | refine jc_block ?_ | refine jc_ret ?_ | refine jc_exit ?_ | refine jx_then ?_ | refine jx_then_exit ?_ | refine jx_then_ret ?_ | refine jx_block ?_ | refine jx_block_ret ?_ | refine jx_block_hit ?_ | refine jx_block_miss rfl ?_ | refine jc_true rfl ?_ | refine jc_false rfl ?_))
    refine jo_v (pv_index1 tab_ok i rfl rfl rfl rfl rfl rfl rfl (by omega)) rfl (jo_cons ?_)
    refine jo_load tab_ok rfl rfl rfl (Rd.there (Rd.there (Rd.there (Rd.there (Rd.there ((rw_ _).one hsv)))))) rfl ?_
    (refine j_nm rfl ?_; repeat (first | refine jo_cons ?_ | (refine jo_iso ?_; first | (refine jo_isbin ?_; first | refine jo_v (by first | exact pv_add rfl rfl (by omega) | exact pv_sub rfl rfl (by omega)) rfl ?_ | refine jo_pure tab_ok rfl rfl ?_ | refine jo_v (by first | exact pv_if_eq tab_ok rfl rfl rfl (.inl rfl) | exact pv_if_eq tab_ok rfl rfl rfl (.inr ⟨_, _, rfl⟩) | exact pv_if_ne tab_ok rfl rfl rfl (.inl rfl) | exact pv_if_ne tab_ok rfl rfl rfl (.inr ⟨_, _, rfl⟩)) rfl ?_) | refine jo_pure tab_ok rfl rfl ?_ | refine jo_want rfl ?_ | refine jo_skip rfl rfl ?_ | refine jo_load tab_ok rfl rfl rfl (by first | ((repeat first | exact Rd.here rfl | refine Rd.there ?_); done) | assumption) rfl ?_) | refine jo_nil ?_ | refine jc_seq ?_ | refine jc_skip ?_ | refine jc_region ?_ | refine jc_block ?_ | refine jc_ret ?_ | refine jc_exit ?_ | refine jx_then ?_ | refine jx_then_exit ?_ | refine jx_then_ret ?_ | refine jx_block ?_ | refine jx_block_ret ?_ | refine jx_block_hit ?_ | refine jx_block_miss rfl ?_ | refine jc_true rfl ?_ | refine jc_false rfl ?_))
    refine jc_bne rfl (fun h3 => absurd rfl h3) (fun _ => ?_)
    (refine j_nm rfl ?_; repeat (first | refine jo_cons ?_ | (refine jo_iso ?_; first | (refine jo_isbin ?_; first | refine jo_v (by first | exact pv_add rfl rfl (by omega) | exact pv_sub rfl rfl (by omega)) rfl ?_ | refine jo_pure tab_ok rfl rfl ?_ | refine jo_v (by first | exact pv_if_eq tab_ok rfl rfl rfl (.inl rfl) | exact pv_if_eq tab_ok rfl rfl rfl (.inr ⟨_, _, rfl⟩) | exact pv_if_ne tab_ok rfl rfl rfl (.inl rfl) | exact pv_if_ne tab_ok rfl rfl rfl (.inr ⟨_, _, rfl⟩)) rfl ?_) | refine jo_pure tab_ok rfl rfl ?_ | refine jo_want rfl ?_ | refine jo_skip rfl rfl ?_ | refine jo_load tab_ok rfl rfl rfl (by first | ((repeat first | exact Rd.here rfl | refine Rd.there ?_); done) | assumption) rfl ?_) | refine jo_nil ?_ | refine jc_seq ?_ | refine jc_skip ?_ | refine jc_region ?_ | refine jc_block ?_ | refine jc_ret ?_ | refine jc_exit ?_ | refine jx_then ?_ | refine jx_then_exit ?_ | refine jx_then_ret ?_ | refine jx_block ?_ | refine jx_block_ret ?_ | refine jx_block_hit ?_ | refine jx_block_miss rfl ?_ | refine jc_true rfl ?_ | refine jc_false rfl ?_))
    refine jc_loop (ι := Nat) (fun j => [(190, I j), (189, I on_), (21, .slice ob on_ oc), (20, I i), (174, I i), (173, I len), (7, ptr p), (9, ptr x), (12, .slice (some ⟨wp, wo, none⟩) wn wc)])
      (fun _ => sl 3 1 (.slice mb on_ mc) (l.map I) :: manyBut (fun sv l => sl 3 1 sv (l.map I)) svs (ons ss es.length) i :: sl 3 1 (.slice ob on_ oc) (l.map I) :: Spc p es ss none :: A :: sl 47 1 (.slice (some ⟨wp, wo, none⟩) wn wc) svs :: Rsp x (.slice base len cap) ms :: [X]) (fun j => j ≤ on_) (fun j => on_ - j) 0 [] [] (Nat.zero_le _) ⟨rfl, rfl, rfl, rfl, rfl, rfl, rfl, rfl, rfl, trivial⟩ rfl ?_
    intro j hj
    (refine j_nm rfl ?_; repeat (first | refine jo_cons ?_ | (refine jo_iso ?_; first | (refine jo_isbin ?_; first | refine jo_v (by first | exact pv_add rfl rfl (by omega) | exact pv_sub rfl rfl (by omega)) rfl ?_ | refine jo_pure tab_ok rfl rfl ?_ | refine jo_v (by first | exact pv_if_eq tab_ok rfl rfl rfl (.inl rfl) | exact pv_if_eq tab_ok rfl rfl rfl (.inr ⟨_, _, rfl⟩) | exact pv_if_ne tab_ok rfl rfl rfl (.inl rfl) | exact pv_if_ne tab_ok rfl rfl rfl (.inr ⟨_, _, rfl⟩)) rfl ?_) | refine jo_pure tab_ok rfl rfl ?_ | refine jo_want rfl ?_ | refine jo_skip rfl rfl ?_ | refine jo_load tab_ok rfl rfl rfl (by first | ((repeat first | exact Rd.here rfl | refine Rd.there ?_); done) | assumption) rfl ?_) | refine jo_nil ?_ | refine jc_seq ?_ | refine jc_skip ?_ | refine jc_region ?_ | refine jc_block ?_ | refine jc_ret ?_ | refine jc_exit ?_ | refine jx_then ?_ | refine jx_then_exit ?_ | refine jx_then_ret ?_ | refine jx_block ?_ | refine jx_block_ret ?_ | refine jx_block_hit ?_ | refine jx_block_miss rfl ?_ | refine jc_true rfl ?_ | refine jc_false rfl ?_))
    refine jc_dec rfl (fun h4 => ?_) (fun h4 => ?_)
    · have hj' : j < on_ := by omega
      have hjl : j < l.length := by omega
      have hcell : (l.map I)[j]? = some (I l[j]) := by rw [List.getElem?_map, List.getElem?_eq_getElem hjl]; rfl
      generalize l[j] = a at hcell
      obtain ⟨op, oo, rfl, ro⟩ := hoo.resolve_left (by omega)
      obtain ⟨mp, mq, rfl, rm⟩ := hmo.resolve_left (by omega)
      (refine j_nm rfl ?_; repeat (first | refine jo_cons ?_ | (refine jo_iso ?_; first | (refine jo_isbin ?_; first | refine jo_v (by first | exact pv_add rfl rfl (by omega) | exact pv_sub rfl rfl (by omega)) rfl ?_ | refine jo_pure tab_ok rfl rfl ?_ | refine jo_v (by first | exact pv_if_eq tab_ok rfl rfl rfl (.inl rfl) | exact pv_if_eq tab_ok rfl rfl rfl (.inr ⟨_, _, rfl⟩) | exact pv_if_ne tab_ok rfl rfl rfl (.inl rfl) | exact pv_if_ne tab_ok rfl rfl rfl (.inr ⟨_, _, rfl⟩)) rfl ?_) | refine jo_pure tab_ok rfl rfl ?_ | refine jo_want rfl ?_ | refine jo_skip rfl rfl ?_ | refine jo_load tab_ok rfl rfl rfl (by first | ((repeat first | exact Rd.here rfl | refine Rd.there ?_); done) | assumption) rfl ?_) | refine jo_nil ?_ | refine jc_seq ?_ | refine jc_skip ?_ | refine jc_region ?_ | refine jc_block ?_ | refine jc_ret ?_ | refine jc_exit ?_ | refine jx_then ?_ | refine jx_then_exit ?_ | refine jx_then_ret ?_ | refine jx_block ?_ | refine jx_block_ret ?_ | refine jx_block_hit ?_ | refine jx_block_miss rfl ?_ | refine jc_true rfl ?_ | refine jc_false rfl ?_))
      refine jc_drawh 99 [(op, oo + j, I a), (wp, wo + i, .slice (some ⟨mp, mq, none⟩) on_ mc), (mp, mq + j, I a)] mo (.cons (Rd.there (Rd.there ((ro _).one hcell))) (.cons (Rd.there (Rd.there (Rd.there (Rd.there (Rd.there ((rw_ _).one hsv)))))) (.cons ((rm _).one hcell) .nil))) fun hrd => ?_
      refine jh_pure tab_ok 0 rfl (by kernel_rfl) rfl rfl hrd ?_
      refine jh_pure tab_ok 1 rfl (by kernel_rfl) rfl rfl hrd ?_
      refine jh_s 2 rfl (by kernel_rfl) ((pv_index1 tab_ok j rfl rfl rfl rfl rfl rfl rfl hj').ps) rfl hrd ?_
      refine jh_s 3 rfl (by kernel_rfl) (ps_load tab_ok 0 rfl rfl rfl rfl) rfl hrd ?_
      refine jh_pure tab_ok 4 rfl (by kernel_rfl) rfl rfl hrd ?_
      refine jh_pure tab_ok 5 rfl (by kernel_rfl) rfl rfl hrd ?_
      refine jh_s 6 rfl (by kernel_rfl) ((pv_index1 tab_ok i rfl rfl rfl rfl rfl rfl rfl (by omega)).ps) rfl hrd ?_
      refine jh_s 7 rfl (by kernel_rfl) (ps_load tab_ok 1 rfl rfl rfl rfl) rfl hrd ?_
      refine jh_one 8 rfl (by kernel_rfl) (jo_pure tab_ok rfl rfl (jh_back hrd fun hrd => ?_))
      refine jh_s 9 rfl (by kernel_rfl) ((pv_index1 tab_ok j rfl rfl rfl rfl rfl rfl rfl hj').ps) rfl hrd ?_
      refine jh_s 10 rfl (by kernel_rfl) (ps_load tab_ok 2 rfl rfl rfl rfl) rfl hrd ?_
      refine jh_s 11 rfl (by kernel_rfl) ((St2.pv_neql_f rfl rfl rfl).ps) rfl hrd ?_
      refine jh_done (by kernel_rfl) ?_
      (refine j_nm rfl ?_; repeat (first | refine jo_cons ?_ | (refine jo_iso ?_; first | (refine jo_isbin ?_; first | refine jo_v (by first | exact pv_add rfl rfl (by omega) | exact pv_sub rfl rfl (by omega)) rfl ?_ | refine jo_pure tab_ok rfl rfl ?_ | refine jo_v (by first | exact pv_if_eq tab_ok rfl rfl rfl (.inl rfl) | exact pv_if_eq tab_ok rfl rfl rfl (.inr ⟨_, _, rfl⟩) | exact pv_if_ne tab_ok rfl rfl rfl (.inl rfl) | exact pv_if_ne tab_ok rfl rfl rfl (.inr ⟨_, _, rfl⟩)) rfl ?_) | refine jo_pure tab_ok rfl rfl ?_ | refine jo_want rfl ?_ | refine jo_skip rfl rfl ?_ | refine jo_load tab_ok rfl rfl rfl (by first | ((repeat first | exact Rd.here rfl | refine Rd.there ?_); done) | assumption) rfl ?_) | refine jo_nil ?_ | refine jc_seq ?_ | refine jc_skip ?_ | refine jc_region ?_ | refine jc_block ?_ | refine jc_ret ?_ | refine jc_exit ?_ | refine jx_then ?_ | refine jx_then_exit ?_ | refine jx_then_ret ?_ | refine jx_block ?_ | refine jx_block_ret ?_ | refine jx_block_hit ?_ | refine jx_block_miss rfl ?_ | refine jc_true rfl ?_ | refine jc_false rfl ?_))
      exact jx_round (j + 1) [] [] hj' (by omega) ⟨rfl, rfl, rfl, rfl, rfl, rfl, rfl, rfl, rfl, trivial⟩ rfl
    · (refine j_nm rfl ?_; repeat (first | refine jo_cons ?_ | (refine jo_iso ?_; first | (refine jo_isbin ?_; first | refine jo_v (by first | exact pv_add rfl rfl (by omega) | exact pv_sub rfl rfl (by omega)) rfl ?_ | refine jo_pure tab_ok rfl rfl ?_ | refine jo_v (by first | exact pv_if_eq tab_ok rfl rfl rfl (.inl rfl) | exact pv_if_eq tab_ok rfl rfl rfl (.inr ⟨_, _, rfl⟩) | exact pv_if_ne tab_ok rfl rfl rfl (.inl rfl) | exact pv_if_ne tab_ok rfl rfl rfl (.inr ⟨_, _, rfl⟩)) rfl ?_) | refine jo_pure tab_ok rfl rfl ?_ | refine jo_want rfl ?_ | refine jo_skip rfl rfl ?_ | refine jo_load tab_ok rfl rfl rfl (by first | ((repeat first | exact Rd.here rfl | refine Rd.there ?_); done) | assumption) rfl ?_) | refine jo_nil ?_ | refine jc_seq ?_ | refine jc_skip ?_ | refine jc_region ?_ | refine jc_block ?_ | refine jc_ret ?_ | refine jc_exit ?_ | refine jx_then ?_ | refine jx_then_exit ?_ | refine jx_then_ret ?_ | refine jx_block ?_ | refine jx_block_ret ?_ | refine jx_block_hit ?_ | refine jx_block_miss rfl ?_ | refine jc_true rfl ?_ | refine jc_false rfl ?_))
      refine j_close [0, 0] rfl (fun m h => (many_back (α := Value) (β := List Int) (A := fun sv l => sl 3 1 sv (l.map I)) (i := i) (a := .slice mb on_ mc) (b := l) hsv hat h : many (fun (sv : Value) (l : List Int) => sl 3 1 sv (l.map I)) svs (ons ss es.length) m)) ?_
      refine j_nm rfl ?_
      exact jx_round (i + 1) [3, 0, 0, 1, 0] [1] hi' (by omega) ⟨rfl, rfl, rfl, rfl, rfl, trivial⟩ rfl
  · (refine j_nm rfl ?_; repeat (first | refine jo_cons ?_ | (refine jo_iso ?_; first | (refine jo_isbin ?_; first | refine jo_v (by first | exact pv_add rfl rfl (by omega) | exact pv_sub rfl rfl (by omega)) rfl ?_ | refine jo_pure tab_ok rfl rfl ?_ | refine jo_v (by first | exact pv_if_eq tab_ok rfl rfl rfl (.inl rfl) | exact pv_if_eq tab_ok rfl rfl rfl (.inr ⟨_, _, rfl⟩) | exact pv_if_ne tab_ok rfl rfl rfl (.inl rfl) | exact pv_if_ne tab_ok rfl rfl rfl (.inr ⟨_, _, rfl⟩)) rfl ?_) | refine jo_pure tab_ok rfl rfl ?_ | refine jo_want rfl ?_ | refine jo_skip rfl rfl ?_ | refine jo_load tab_ok rfl rfl rfl (by first | ((repeat first | exact Rd.here rfl | refine Rd.there ?_); done) | assumption) rfl ?_) | refine jo_nil ?_ | refine jc_skip ?_ | refine jc_region ?_ | refine jc_block ?_ | refine jc_ret ?_ | refine jc_exit ?_ | refine jx_then ?_ | refine jx_then_exit ?_ | refine jx_then_ret ?_ | refine jx_block ?_ | refine jx_block_ret ?_ | refine jx_block_hit ?_ | refine jx_block_miss rfl ?_ | refine jc_true rfl ?_ | refine jc_false rfl ?_))
    exact j_go (b54 hA E X hro' h hb) [] [0, 0] ⟨rfl, rfl, trivial⟩ rfl
set_option maxHeartbeats 4000000 in
theorem b39 {A : Assn} (hA : Tz A) (E : World) (X : Assn) {p x : Nat} {rv wv : Value} {es ms : List Ent} {s0 ss : List Shl} (hro : Ro A 2 rv (ecells es)) (h : Rel es s0 ms) (hb : ms.length ≤ 100000) :
    J E (here Tryd.prog [.r, .r, .r, .r, .r, .r, .r, .r, .r, .r] Tryd.f7 (QB E A [X])) 213 [(0, rv), (7, ptr p), (9, ptr x), (12, wv), (14, I (sumF es s0 (acts es)))] [WL wv (ons s0 es.length), Spc p es ss (some (es, s0)), Rsp x rv ms, A, X] := by
  refine j_here rfl ?_
  (refine j_nm rfl ?_; repeat (first | refine jo_cons ?_ | (refine jo_iso ?_; first | (refine jo_isbin ?_; first | refine jo_v (by first | exact pv_add rfl rfl (by omega) | exact pv_sub rfl rfl (by omega)) rfl ?_ | refine jo_pure tab_ok rfl rfl ?_ | refine jo_v (by first | exact pv_if_eq tab_ok rfl rfl rfl (.inl rfl) | exact pv_if_eq tab_ok rfl rfl rfl (.inr ⟨_, _, rfl⟩) | exact pv_if_ne tab_ok rfl rfl rfl (.inl rfl) | exact pv_if_ne tab_ok rfl rfl rfl (.inr ⟨_, _, rfl⟩)) rfl ?_) | refine jo_pure tab_ok rfl rfl ?_ | refine jo_want rfl ?_ | refine jo_skip rfl rfl ?_ | refine jo_load tab_ok rfl rfl rfl (by first | ((repeat first | exact Rd.here rfl | refine Rd.there ?_); done) | assumption) rfl ?_) | refine jo_nil ?_ | refine jc_seq ?_ | refine jc_skip ?_ | refine jc_region ?_ | refine jc_block ?_ | refine jc_ret ?_ | refine jc_exit ?_ | refine jx_then ?_ | refine jx_then_exit ?_ | refine jx_then_ret ?_ | refine jx_block ?_ | refine jx_block_ret ?_ | refine jx_block_hit ?_ | refine jx_block_miss rfl ?_ | refine jc_true rfl ?_ | refine jc_false rfl ?_))
  refine jo_call [1] (Sb1.back_tri) ent29 rfl ⟨rfl, rfl⟩ rfl ?_
  rintro v B ⟨rfl, rfl⟩
  (refine j_nm rfl ?_; repeat (first | refine jo_cons ?_ | (refine jo_iso ?_; first | (refine jo_isbin ?_; first | refine jo_v (by first | exact pv_add rfl rfl (by omega) | exact pv_sub rfl rfl (by omega)) rfl ?_ | refine jo_pure tab_ok rfl rfl ?_ | refine jo_v (by first | exact pv_if_eq tab_ok rfl rfl rfl (.inl rfl) | exact pv_if_eq tab_ok rfl rfl rfl (.inr ⟨_, _, rfl⟩) | exact pv_if_ne tab_ok rfl rfl rfl (.inl rfl) | exact pv_if_ne tab_ok rfl rfl rfl (.inr ⟨_, _, rfl⟩)) rfl ?_) | refine jo_pure tab_ok rfl rfl ?_ | refine jo_want rfl ?_ | refine jo_skip rfl rfl ?_ | refine jo_load tab_ok rfl rfl rfl (by first | ((repeat first | exact Rd.here rfl | refine Rd.there ?_); done) | assumption) rfl ?_) | refine jo_nil ?_ | refine jc_seq ?_ | refine jc_skip ?_ | refine jc_region ?_ | refine jc_block ?_ | refine jc_ret ?_ | refine jc_exit ?_ | refine jx_then ?_ | refine jx_then_exit ?_ | refine jx_then_ret ?_ | refine jx_block ?_ | refine jx_block_ret ?_ | refine jx_block_hit ?_ | refine jx_block_miss rfl ?_ | refine jc_true rfl ?_ | refine jc_false rfl ?_))
  refine jo_call [0] (S9.free8_tri h.inv) ent14 rfl ⟨rfl, rfl⟩ rfl ?_
  rintro v B ⟨rfl, rfl⟩
  (refine j_nm rfl ?_; repeat (first | refine jo_cons ?_ | (refine jo_iso ?_; first | (refine jo_isbin ?_; first | refine jo_v (by first | exact pv_add rfl rfl (by omega) | exact pv_sub rfl rfl (by omega)) rfl ?_ | refine jo_pure tab_ok rfl rfl ?_ | refine jo_v (by first | exact pv_if_eq tab_ok rfl rfl rfl (.inl rfl) | exact pv_if_eq tab_ok rfl rfl rfl (.inr ⟨_, _, rfl⟩) | exact pv_if_ne tab_ok rfl rfl rfl (.inl rfl) | exact pv_if_ne tab_ok rfl rfl rfl (.inr ⟨_, _, rfl⟩)) rfl ?_) | refine jo_pure tab_ok rfl rfl ?_ | refine jo_want rfl ?_ | refine jo_skip rfl rfl ?_ | refine jo_load tab_ok rfl rfl rfl (by first | ((repeat first | exact Rd.here rfl | refine Rd.there ?_); done) | assumption) rfl ?_) | refine jo_nil ?_ | refine jc_skip ?_ | refine jc_region ?_ | refine jc_block ?_ | refine jc_ret ?_ | refine jc_exit ?_ | refine jx_then ?_ | refine jx_then_exit ?_ | refine jx_then_ret ?_ | refine jx_block ?_ | refine jx_block_ret ?_ | refine jx_block_hit ?_ | refine jx_block_miss rfl ?_ | refine jc_true rfl ?_ | refine jc_false rfl ?_))
  refine jc_bne rfl (fun h3 => absurd rfl h3) (fun _ => ?_)
  (refine j_nm rfl ?_; repeat (first | refine jo_cons ?_ | (refine jo_iso ?_; first | (refine jo_isbin ?_; first | refine jo_v (by first | exact pv_add rfl rfl (by omega) | exact pv_sub rfl rfl (by omega)) rfl ?_ | refine jo_pure tab_ok rfl rfl ?_ | refine jo_v (by first | exact pv_if_eq tab_ok rfl rfl rfl (.inl rfl) | exact pv_if_eq tab_ok rfl rfl rfl (.inr ⟨_, _, rfl⟩) | exact pv_if_ne tab_ok rfl rfl rfl (.inl rfl) | exact pv_if_ne tab_ok rfl rfl rfl (.inr ⟨_, _, rfl⟩)) rfl ?_) | refine jo_pure tab_ok rfl rfl ?_ | refine jo_want rfl ?_ | refine jo_skip rfl rfl ?_ | refine jo_load tab_ok rfl rfl rfl (by first | ((repeat first | exact Rd.here rfl | refine Rd.there ?_); done) | assumption) rfl ?_) | refine jo_nil ?_ | refine jc_skip ?_ | refine jc_region ?_ | refine jc_block ?_ | refine jc_ret ?_ | refine jc_exit ?_ | refine jx_then ?_ | refine jx_then_exit ?_ | refine jx_then_ret ?_ | refine jx_block ?_ | refine jx_block_ret ?_ | refine jx_block_hit ?_ | refine jx_block_miss rfl ?_ | refine jc_true rfl ?_ | refine jc_false rfl ?_))
  exact j_go (b41 hA E X hro h hb) [1, 0] [] ⟨rfl, rfl, rfl, rfl, trivial⟩ rfl
end Sk1
end Go.Proofs.YtejaonodaplbhaaDoor
