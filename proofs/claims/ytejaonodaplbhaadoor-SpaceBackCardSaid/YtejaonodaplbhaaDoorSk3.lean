import Derived.Test.YtejaonodaplbhaaDoorSk2
namespace Go.Proofs.YtejaonodaplbhaaDoor
namespace Sk3
open Go Go.Proofs.YtejaonodaplbhaaDoor.Hp Sp S2 S3 S4 S5 S6 S7 S8 S9 S10 S11 S14 S15 Rb1 Rb2 Rb3 Rb4 Rb5 Rb6 Pb Pc Pd Sk1 Sk2
set_option maxRecDepth 10000
set_option linter.unusedVariables false
set_option linter.unusedSimpArgs false
attribute [local irreducible] wpList Code.wp wpAny wpAnyK
def tab : Tab := [
  ⟨43, .struct [(0, 3), (1, 3)], 2, 16, [.int .i64 0, .int .i64 0]⟩,
  ⟨27, .slice 43, 1, 24, [.slice none 0 0]⟩,
  ⟨94, .struct [(0, 3), (1, 3)], 2, 16, [.int .i64 0, .int .i64 0]⟩,
  ⟨59, .slice 94, 1, 24, [.slice none 0 0]⟩,
  ⟨61, .struct [(0, 27), (1, 59), (2, 27), (3, 59), (4, 4)], 5, 104, [.slice none 0 0, .slice none 0 0, .slice none 0 0, .slice none 0 0, .bool false]⟩,
  ⟨58, .pointer 61, 1, 8, [.pointer none]⟩,
  ⟨49, .struct [(0, 3), (1, 3), (2, 3), (3, 27)], 4, 48, [.int .i64 0, .int .i64 0, .int .i64 0, .slice none 0 0]⟩,
  ⟨46, .slice 49, 1, 24, [.slice none 0 0]⟩,
  ⟨3, .int .i64, 1, 8, [.int .i64 0]⟩,
  ⟨4, .bool, 1, 1, [.bool false]⟩,
  ⟨47, .slice 3, 1, 24, [.slice none 0 0]⟩,
  ⟨63, .slice 47, 1, 24, [.slice none 0 0]⟩,
  ⟨30, .iface, 1, 16, [.nilIface]⟩,
  ⟨35, .struct [(0, 33)], 1, 24, [.slice none 0 0]⟩,
  ⟨33, .slice 51, 1, 24, [.slice none 0 0]⟩,
  ⟨51, .struct [(0, 3), (1, 3)], 2, 16, [.int .i64 0, .int .i64 0]⟩,
  ⟨79, .pointer 104, 1, 8, [.pointer none]⟩,
  ⟨28, .pointer 73, 1, 8, [.pointer none]⟩,
  ⟨73, .struct [(0, 68), (1, 68)], 2, 16, [.pointer none, .pointer none]⟩,
  ⟨115, .array 3 79, 3, 24, [.pointer none, .pointer none, .pointer none]⟩,
  ⟨116, .slice 79, 1, 24, [.slice none 0 0]⟩,
  ⟨76, .int .i64, 1, 8, [.int .i64 0]⟩]
theorem tab_43 : TE.ok Tryd.prog ⟨43, .struct [(0, 3), (1, 3)], 2, 16, [.int .i64 0, .int .i64 0]⟩ := ⟨by kernel_rfl, by kernel_rfl, by kernel_rfl, by kernel_rfl⟩
theorem tab_27 : TE.ok Tryd.prog ⟨27, .slice 43, 1, 24, [.slice none 0 0]⟩ := ⟨by kernel_rfl, by kernel_rfl, by kernel_rfl, by kernel_rfl⟩
theorem tab_94 : TE.ok Tryd.prog ⟨94, .struct [(0, 3), (1, 3)], 2, 16, [.int .i64 0, .int .i64 0]⟩ := ⟨by kernel_rfl, by kernel_rfl, by kernel_rfl, by kernel_rfl⟩
theorem tab_59 : TE.ok Tryd.prog ⟨59, .slice 94, 1, 24, [.slice none 0 0]⟩ := ⟨by kernel_rfl, by kernel_rfl, by kernel_rfl, by kernel_rfl⟩
theorem tab_61 : TE.ok Tryd.prog ⟨61, .struct [(0, 27), (1, 59), (2, 27), (3, 59), (4, 4)], 5, 104, [.slice none 0 0, .slice none 0 0, .slice none 0 0, .slice none 0 0, .bool false]⟩ := ⟨by kernel_rfl, by kernel_rfl, by kernel_rfl, by kernel_rfl⟩
theorem tab_58 : TE.ok Tryd.prog ⟨58, .pointer 61, 1, 8, [.pointer none]⟩ := ⟨by kernel_rfl, by kernel_rfl, by kernel_rfl, by kernel_rfl⟩
theorem tab_49 : TE.ok Tryd.prog ⟨49, .struct [(0, 3), (1, 3), (2, 3), (3, 27)], 4, 48, [.int .i64 0, .int .i64 0, .int .i64 0, .slice none 0 0]⟩ := ⟨by kernel_rfl, by kernel_rfl, by kernel_rfl, by kernel_rfl⟩
theorem tab_46 : TE.ok Tryd.prog ⟨46, .slice 49, 1, 24, [.slice none 0 0]⟩ := ⟨by kernel_rfl, by kernel_rfl, by kernel_rfl, by kernel_rfl⟩
theorem tab_3 : TE.ok Tryd.prog ⟨3, .int .i64, 1, 8, [.int .i64 0]⟩ := ⟨by kernel_rfl, by kernel_rfl, by kernel_rfl, by kernel_rfl⟩
theorem tab_4 : TE.ok Tryd.prog ⟨4, .bool, 1, 1, [.bool false]⟩ := ⟨by kernel_rfl, by kernel_rfl, by kernel_rfl, by kernel_rfl⟩
theorem tab_47 : TE.ok Tryd.prog ⟨47, .slice 3, 1, 24, [.slice none 0 0]⟩ := ⟨by kernel_rfl, by kernel_rfl, by kernel_rfl, by kernel_rfl⟩
theorem tab_63 : TE.ok Tryd.prog ⟨63, .slice 47, 1, 24, [.slice none 0 0]⟩ := ⟨by kernel_rfl, by kernel_rfl, by kernel_rfl, by kernel_rfl⟩
theorem tab_30 : TE.ok Tryd.prog ⟨30, .iface, 1, 16, [.nilIface]⟩ := ⟨by kernel_rfl, by kernel_rfl, by kernel_rfl, by kernel_rfl⟩
theorem tab_35 : TE.ok Tryd.prog ⟨35, .struct [(0, 33)], 1, 24, [.slice none 0 0]⟩ := ⟨by kernel_rfl, by kernel_rfl, by kernel_rfl, by kernel_rfl⟩
theorem tab_33 : TE.ok Tryd.prog ⟨33, .slice 51, 1, 24, [.slice none 0 0]⟩ := ⟨by kernel_rfl, by kernel_rfl, by kernel_rfl, by kernel_rfl⟩
theorem tab_51 : TE.ok Tryd.prog ⟨51, .struct [(0, 3), (1, 3)], 2, 16, [.int .i64 0, .int .i64 0]⟩ := ⟨by kernel_rfl, by kernel_rfl, by kernel_rfl, by kernel_rfl⟩
theorem tab_79 : TE.ok Tryd.prog ⟨79, .pointer 104, 1, 8, [.pointer none]⟩ := ⟨by kernel_rfl, by kernel_rfl, by kernel_rfl, by kernel_rfl⟩
theorem tab_28 : TE.ok Tryd.prog ⟨28, .pointer 73, 1, 8, [.pointer none]⟩ := ⟨by kernel_rfl, by kernel_rfl, by kernel_rfl, by kernel_rfl⟩
theorem tab_73 : TE.ok Tryd.prog ⟨73, .struct [(0, 68), (1, 68)], 2, 16, [.pointer none, .pointer none]⟩ := ⟨by kernel_rfl, by kernel_rfl, by kernel_rfl, by kernel_rfl⟩
theorem tab_115 : TE.ok Tryd.prog ⟨115, .array 3 79, 3, 24, [.pointer none, .pointer none, .pointer none]⟩ := ⟨by kernel_rfl, by kernel_rfl, by kernel_rfl, by kernel_rfl⟩
theorem tab_116 : TE.ok Tryd.prog ⟨116, .slice 79, 1, 24, [.slice none 0 0]⟩ := ⟨by kernel_rfl, by kernel_rfl, by kernel_rfl, by kernel_rfl⟩
theorem tab_76 : TE.ok Tryd.prog ⟨76, .int .i64, 1, 8, [.int .i64 0]⟩ := ⟨by kernel_rfl, by kernel_rfl, by kernel_rfl, by kernel_rfl⟩
theorem tab_ok : tab.ok Tryd.prog := by
  intro e he
  simp only [tab, List.mem_cons, List.not_mem_nil, or_false] at he
  rcases he with rfl | rfl | rfl | rfl | rfl | rfl | rfl | rfl | rfl | rfl | rfl | rfl | rfl | rfl | rfl | rfl | rfl | rfl | rfl | rfl | rfl | rfl
  · exact tab_43
  · exact tab_27
  · exact tab_94
  · exact tab_59
  · exact tab_61
  · exact tab_58
  · exact tab_49
  · exact tab_46
  · exact tab_3
  · exact tab_4
  · exact tab_47
  · exact tab_63
  · exact tab_30
  · exact tab_35
  · exact tab_33
  · exact tab_51
  · exact tab_79
  · exact tab_28
  · exact tab_73
  · exact tab_115
  · exact tab_116
  · exact tab_76

theorem ent25 : Enters Tryd.prog 25 := ⟨_, _, Tryd.func25, by kernel_rfl, rfl⟩
theorem ent14 : Enters Tryd.prog 14 := ⟨_, _, Tryd.func14, by kernel_rfl, rfl⟩
theorem ent26 : Enters Tryd.prog 26 := ⟨_, _, Tryd.func26, by kernel_rfl, rfl⟩

set_option maxHeartbeats 8000000 in
theorem b12 {A : Assn} (hA : Tz A) (E : World) (X : Assn) {p x : Nat} {rv v2 : Value} {es ms : List Ent} {ss : List Shl} {os : List Os.Call} (hro : Ro A 2 rv (ecells es)) (hros : Ro A 4 v2 (Os.ocells os)) (hone : ∀ o ∈ os, one o.sl = true) (hR : Rel es ss ms) (hb : ms.length ≤ 100000) :
    J E (here Tryd.prog [.r, .r, .r, .r, .r] Tryd.f7 (QB E A [X])) 213 [(0, rv), (2, v2), (7, ptr p), (9, ptr x)] [Spc p es ss none, Rsp x rv ms, A, X] := by
  have hro' := hro
  obtain ⟨base, len, cap, rfl, hlen, hlm, hor⟩ := hro
  rw [ecells_len] at hlen
  have hlen : es.length = len := by omega
  have h8 := okR_len hR.inv.right
  refine j_here rfl ?_
  (refine j_nm rfl ?_; repeat (first | refine jo_cons ?_ | (refine jo_iso ?_; first | (refine jo_isbin ?_; first | refine jo_v (by first | exact pv_add rfl rfl (by omega) | exact pv_sub rfl rfl (by omega)) rfl ?_ | refine jo_pure tab_ok rfl rfl ?_ | refine jo_v (by first | exact pv_if_eq tab_ok rfl rfl rfl (.inl rfl) | exact pv_if_eq tab_ok rfl rfl rfl (.inr ⟨_, _, rfl⟩) | exact pv_if_ne tab_ok rfl rfl rfl (.inl rfl) | exact pv_if_ne tab_ok rfl rfl rfl (.inr ⟨_, _, rfl⟩)) rfl ?_) | refine jo_pure tab_ok rfl rfl ?_ | refine jo_want rfl ?_ | refine jo_skip rfl rfl ?_ | refine jo_load tab_ok rfl rfl rfl (by first | ((repeat first | exact Rd.here rfl | refine Rd.there ?_); done) | assumption) rfl ?_) | refine jo_nil ?_ | refine jc_seq ?_ | refine jc_skip ?_ | refine jc_region ?_ | refine jc_block ?_ | refine jc_ret ?_ | refine jc_exit ?_ | refine jx_then ?_ | refine jx_then_exit ?_ | refine jx_then_ret ?_ | refine jx_block ?_ | refine jx_block_ret ?_ | refine jx_block_hit ?_ | refine jx_block_miss rfl ?_ | refine jc_true rfl ?_ | refine jc_false rfl ?_))
  refine j_close [] rfl (fun m _ => sl_nil (t := 47) (size := 1) m) ?_
  refine j_close [] rfl (fun m _ => (many_nil : many (fun (sv : Value) (l : List Int) => sl 3 1 sv (l.map I)) [] [] m)) ?_
  refine j_close [1, 0] rfl (wl_shut (ls := ons ss 0) rfl) ?_
  refine j_nm rfl ?_
  refine jc_loop (ι := Nat × Value) (fun x1 => [(87, I x1.1), (86, I len), (12, x1.2), (0, .slice base len cap), (2, v2), (7, ptr p), (9, ptr x)])
    (fun x1 => [WL x1.2 (ons ss x1.1), Spc p es ss none, Rsp x (.slice base len cap) ms, A, X]) (fun x1 => x1.1 ≤ len) (fun x1 => len - x1.1) (0, .slice none 0 0) [] [] (Nat.zero_le _) ⟨rfl, rfl, rfl, rfl, rfl, rfl, rfl, trivial⟩ rfl ?_
  rintro ⟨i, wv⟩ hi
  simp only at hi
  dsimp only
  (refine j_nm rfl ?_; repeat (first | refine jo_cons ?_ | (refine jo_iso ?_; first | (refine jo_isbin ?_; first | refine jo_v (by first | exact pv_add rfl rfl (by omega) | exact pv_sub rfl rfl (by omega)) rfl ?_ | refine jo_pure tab_ok rfl rfl ?_ | refine jo_v (by first | exact pv_if_eq tab_ok rfl rfl rfl (.inl rfl) | exact pv_if_eq tab_ok rfl rfl rfl (.inr ⟨_, _, rfl⟩) | exact pv_if_ne tab_ok rfl rfl rfl (.inl rfl) | exact pv_if_ne tab_ok rfl rfl rfl (.inr ⟨_, _, rfl⟩)) rfl ?_) | refine jo_pure tab_ok rfl rfl ?_ | refine jo_want rfl ?_ | refine jo_skip rfl rfl ?_ | refine jo_load tab_ok rfl rfl rfl (by first | ((repeat first | exact Rd.here rfl | refine Rd.there ?_); done) | assumption) rfl ?_) | refine jo_nil ?_ | refine jc_seq ?_ | refine jc_skip ?_ | refine jc_region ?_ | refine jc_block ?_ | refine jc_ret ?_ | refine jc_exit ?_ | refine jx_then ?_ | refine jx_then_exit ?_ | refine jx_then_ret ?_ | refine jx_block ?_ | refine jx_block_ret ?_ | refine jx_block_hit ?_ | refine jx_block_miss rfl ?_ | refine jc_true rfl ?_ | refine jc_false rfl ?_))
  refine jc_dec rfl (fun h => ?_) (fun h => ?_)
  · have hi' : i < len := by have h' : (i : Int) < len := h; omega
    (refine j_nm rfl ?_; repeat (first | refine jo_cons ?_ | (refine jo_iso ?_; first | (refine jo_isbin ?_; first | refine jo_v (by first | exact pv_add rfl rfl (by omega) | exact pv_sub rfl rfl (by omega)) rfl ?_ | refine jo_pure tab_ok rfl rfl ?_ | refine jo_v (by first | exact pv_if_eq tab_ok rfl rfl rfl (.inl rfl) | exact pv_if_eq tab_ok rfl rfl rfl (.inr ⟨_, _, rfl⟩) | exact pv_if_ne tab_ok rfl rfl rfl (.inl rfl) | exact pv_if_ne tab_ok rfl rfl rfl (.inr ⟨_, _, rfl⟩)) rfl ?_) | refine jo_pure tab_ok rfl rfl ?_ | refine jo_want rfl ?_ | refine jo_skip rfl rfl ?_ | refine jo_load tab_ok rfl rfl rfl (by first | ((repeat first | exact Rd.here rfl | refine Rd.there ?_); done) | assumption) rfl ?_) | refine jo_nil ?_ | refine jc_seq ?_ | refine jc_skip ?_ | refine jc_region ?_ | refine jc_block ?_ | refine jc_ret ?_ | refine jc_exit ?_ | refine jx_then ?_ | refine jx_then_exit ?_ | refine jx_then_ret ?_ | refine jx_block ?_ | refine jx_block_ret ?_ | refine jx_block_hit ?_ | refine jx_block_miss rfl ?_ | refine jc_true rfl ?_ | refine jc_false rfl ?_))
    refine jo_call [1, 2] (So1.on_tri hA hR.inv i) ent25 rfl ⟨rfl, rfl⟩ rfl ?_
    rintro ov B rfl
    have hnx := ons_next ss i
    have hln := ons_len ss i
    generalize onS ss (i : Int) = l at hnx ⊢
    refine j_sl_ro fun hrv => ?_
    obtain ⟨ob, on_, oc, rfl, hol, hom, hoo⟩ := hrv
    refine j_nm rfl ?_
    refine j_front [3] (j_wl fun svs hs => ?_)
    refine j_sl_len ?_
    rintro wb wn wc rfl hwl
    (refine j_nm rfl ?_; repeat (first | refine jo_cons ?_ | (refine jo_iso ?_; first | (refine jo_isbin ?_; first | refine jo_v (by first | exact pv_add rfl rfl (by omega) | exact pv_sub rfl rfl (by omega)) rfl ?_ | refine jo_pure tab_ok rfl rfl ?_ | refine jo_v (by first | exact pv_if_eq tab_ok rfl rfl rfl (.inl rfl) | exact pv_if_eq tab_ok rfl rfl rfl (.inr ⟨_, _, rfl⟩) | exact pv_if_ne tab_ok rfl rfl rfl (.inl rfl) | exact pv_if_ne tab_ok rfl rfl rfl (.inr ⟨_, _, rfl⟩)) rfl ?_) | refine jo_pure tab_ok rfl rfl ?_ | refine jo_want rfl ?_ | refine jo_skip rfl rfl ?_ | refine jo_load tab_ok rfl rfl rfl (by first | ((repeat first | exact Rd.here rfl | refine Rd.there ?_); done) | assumption) rfl ?_) | refine jo_nil ?_ | refine jc_seq ?_ | refine jc_skip ?_ | refine jc_region ?_ | refine jc_block ?_ | refine jc_ret ?_ | refine jc_exit ?_ | refine jx_then ?_ | refine jx_then_exit ?_ | refine jx_then_ret ?_ | refine jx_block ?_ | refine jx_block_ret ?_ | refine jx_block_hit ?_ | refine jx_block_miss rfl ?_ | refine jc_true rfl ?_ | refine jc_false rfl ?_))
    refine jo_buildSlice tab_ok (cs := [.slice ob on_ oc]) rfl rfl rfl rfl rfl rfl (by first | (simp [Instr.fill]; done) | simp [Instr.fill, Value.cells]) rfl fun bA => ?_
    (refine j_nm rfl ?_; repeat (first | refine jo_cons ?_ | (refine jo_iso ?_; first | (refine jo_isbin ?_; first | refine jo_v (by first | exact pv_add rfl rfl (by omega) | exact pv_sub rfl rfl (by omega)) rfl ?_ | refine jo_pure tab_ok rfl rfl ?_ | refine jo_v (by first | exact pv_if_eq tab_ok rfl rfl rfl (.inl rfl) | exact pv_if_eq tab_ok rfl rfl rfl (.inr ⟨_, _, rfl⟩) | exact pv_if_ne tab_ok rfl rfl rfl (.inl rfl) | exact pv_if_ne tab_ok rfl rfl rfl (.inr ⟨_, _, rfl⟩)) rfl ?_) | refine jo_pure tab_ok rfl rfl ?_ | refine jo_want rfl ?_ | refine jo_skip rfl rfl ?_ | refine jo_load tab_ok rfl rfl rfl (by first | ((repeat first | exact Rd.here rfl | refine Rd.there ?_); done) | assumption) rfl ?_) | refine jo_nil ?_ | refine jc_seq ?_ | refine jc_skip ?_ | refine jc_region ?_ | refine jc_block ?_ | refine jc_ret ?_ | refine jc_exit ?_ | refine jx_then ?_ | refine jx_then_exit ?_ | refine jx_then_ret ?_ | refine jx_block ?_ | refine jx_block_ret ?_ | refine jx_block_hit ?_ | refine jx_block_miss rfl ?_ | refine jc_true rfl ?_ | refine jc_false rfl ?_))
    refine jo_append tab_ok 1 [.slice ob on_ oc] rfl rfl rfl rfl rfl rfl ⟨rfl, rfl⟩ rfl (.inr ⟨bA, 0, rfl, Rd.all⟩) (by simp [Hp.one]) (by intro len' hl'; simp only [Nat.mul_one] at hl'; exact ⟨by show (len' + 1) * 24 ≤ _; omega, by simp only [maxLen]; omega⟩) rfl fun v' => ?_
    refine j_sl_len ?_
    rintro ab an ac rfl hal
    refine j_nm rfl ?_
    refine j_close [2, 2] rfl (fun m h => (many_snoc (A := fun (sv : Value) (l : List Int) => sl 3 1 sv (l.map I)) hs h : many (fun (sv : Value) (l : List Int) => sl 3 1 sv (l.map I)) (svs ++ [.slice ob on_ oc]) (ons ss i ++ [l]) m)) ?_
    rw [← hnx]
    refine j_close [1, 0] rfl (wl_shut (by simp [hs, hln, ons_len])) ?_
    (refine j_nm rfl ?_; repeat (first | refine jo_cons ?_ | (refine jo_iso ?_; first | (refine jo_isbin ?_; first | refine jo_v (by first | exact pv_add rfl rfl (by omega) | exact pv_sub rfl rfl (by omega)) rfl ?_ | refine jo_pure tab_ok rfl rfl ?_ | refine jo_v (by first | exact pv_if_eq tab_ok rfl rfl rfl (.inl rfl) | exact pv_if_eq tab_ok rfl rfl rfl (.inr ⟨_, _, rfl⟩) | exact pv_if_ne tab_ok rfl rfl rfl (.inl rfl) | exact pv_if_ne tab_ok rfl rfl rfl (.inr ⟨_, _, rfl⟩)) rfl ?_) | refine jo_pure tab_ok rfl rfl ?_ | refine jo_want rfl ?_ | refine jo_skip rfl rfl ?_ | refine jo_load tab_ok rfl rfl rfl (by first | ((repeat first | exact Rd.here rfl | refine Rd.there ?_); done) | assumption) rfl ?_) | refine jo_nil ?_ | refine jc_seq ?_ | refine jc_skip ?_ | refine jc_region ?_ | refine jc_block ?_ | refine jc_ret ?_ | refine jc_exit ?_ | refine jx_then ?_ | refine jx_then_exit ?_ | refine jx_then_ret ?_ | refine jx_block ?_ | refine jx_block_ret ?_ | refine jx_block_hit ?_ | refine jx_block_miss rfl ?_ | refine jc_true rfl ?_ | refine jc_false rfl ?_))
    exact jx_round (i + 1, .slice ab an ac) [0, 0, 1, 0] [1] hi' (by simp only; omega) ⟨rfl, rfl, rfl, rfl, rfl, rfl, rfl, trivial⟩ rfl
  · have hil : i = es.length := by have h' : ¬ (i : Int) < len := h; omega
    rw [hil]
    (refine j_nm rfl ?_; repeat (first | refine jo_cons ?_ | (refine jo_iso ?_; first | (refine jo_isbin ?_; first | refine jo_v (by first | exact pv_add rfl rfl (by omega) | exact pv_sub rfl rfl (by omega)) rfl ?_ | refine jo_pure tab_ok rfl rfl ?_ | refine jo_v (by first | exact pv_if_eq tab_ok rfl rfl rfl (.inl rfl) | exact pv_if_eq tab_ok rfl rfl rfl (.inr ⟨_, _, rfl⟩) | exact pv_if_ne tab_ok rfl rfl rfl (.inl rfl) | exact pv_if_ne tab_ok rfl rfl rfl (.inr ⟨_, _, rfl⟩)) rfl ?_) | refine jo_pure tab_ok rfl rfl ?_ | refine jo_want rfl ?_ | refine jo_skip rfl rfl ?_ | refine jo_load tab_ok rfl rfl rfl (by first | ((repeat first | exact Rd.here rfl | refine Rd.there ?_); done) | assumption) rfl ?_) | refine jo_nil ?_ | refine jc_seq ?_ | refine jc_skip ?_ | refine jc_region ?_ | refine jc_block ?_ | refine jc_ret ?_ | refine jc_exit ?_ | refine jx_then ?_ | refine jx_then_exit ?_ | refine jx_then_ret ?_ | refine jx_block ?_ | refine jx_block_ret ?_ | refine jx_block_hit ?_ | refine jx_block_miss rfl ?_ | refine jc_true rfl ?_ | refine jc_false rfl ?_))
    refine jo_call [1] (S9.free8_tri hR.inv) ent14 rfl ⟨rfl, rfl⟩ rfl ?_
    rintro v B ⟨rfl, rfl⟩
    (refine j_nm rfl ?_; repeat (first | refine jo_cons ?_ | (refine jo_iso ?_; first | (refine jo_isbin ?_; first | refine jo_v (by first | exact pv_add rfl rfl (by omega) | exact pv_sub rfl rfl (by omega)) rfl ?_ | refine jo_pure tab_ok rfl rfl ?_ | refine jo_v (by first | exact pv_if_eq tab_ok rfl rfl rfl (.inl rfl) | exact pv_if_eq tab_ok rfl rfl rfl (.inr ⟨_, _, rfl⟩) | exact pv_if_ne tab_ok rfl rfl rfl (.inl rfl) | exact pv_if_ne tab_ok rfl rfl rfl (.inr ⟨_, _, rfl⟩)) rfl ?_) | refine jo_pure tab_ok rfl rfl ?_ | refine jo_want rfl ?_ | refine jo_skip rfl rfl ?_ | refine jo_load tab_ok rfl rfl rfl (by first | ((repeat first | exact Rd.here rfl | refine Rd.there ?_); done) | assumption) rfl ?_) | refine jo_nil ?_ | refine jc_seq ?_ | refine jc_skip ?_ | refine jc_region ?_ | refine jc_block ?_ | refine jc_ret ?_ | refine jc_exit ?_ | refine jx_then ?_ | refine jx_then_exit ?_ | refine jx_then_ret ?_ | refine jx_block ?_ | refine jx_block_ret ?_ | refine jx_block_hit ?_ | refine jx_block_miss rfl ?_ | refine jc_true rfl ?_ | refine jc_false rfl ?_))
    refine jo_call [0] (Sb1.begin_tri hR.inv) ent26 rfl ⟨rfl, rfl⟩ rfl ?_
    rintro v B ⟨rfl, rfl⟩
    (refine j_nm rfl ?_; repeat (first | refine jo_cons ?_ | (refine jo_iso ?_; first | (refine jo_isbin ?_; first | refine jo_v (by first | exact pv_add rfl rfl (by omega) | exact pv_sub rfl rfl (by omega)) rfl ?_ | refine jo_pure tab_ok rfl rfl ?_ | refine jo_v (by first | exact pv_if_eq tab_ok rfl rfl rfl (.inl rfl) | exact pv_if_eq tab_ok rfl rfl rfl (.inr ⟨_, _, rfl⟩) | exact pv_if_ne tab_ok rfl rfl rfl (.inl rfl) | exact pv_if_ne tab_ok rfl rfl rfl (.inr ⟨_, _, rfl⟩)) rfl ?_) | refine jo_pure tab_ok rfl rfl ?_ | refine jo_want rfl ?_ | refine jo_skip rfl rfl ?_ | refine jo_load tab_ok rfl rfl rfl (by first | ((repeat first | exact Rd.here rfl | refine Rd.there ?_); done) | assumption) rfl ?_) | refine jo_nil ?_ | refine jc_skip ?_ | refine jc_region ?_ | refine jc_block ?_ | refine jc_ret ?_ | refine jc_exit ?_ | refine jx_then ?_ | refine jx_then_exit ?_ | refine jx_then_ret ?_ | refine jx_block ?_ | refine jx_block_ret ?_ | refine jx_block_hit ?_ | refine jx_block_miss rfl ?_ | refine jc_true rfl ?_ | refine jc_false rfl ?_))
    exact j_go (b21 hA E X hro' hros hone hR hb) [1] [] ⟨rfl, rfl, rfl, rfl, rfl, rfl, trivial⟩ rfl
end Sk3
end Go.Proofs.YtejaonodaplbhaaDoor
