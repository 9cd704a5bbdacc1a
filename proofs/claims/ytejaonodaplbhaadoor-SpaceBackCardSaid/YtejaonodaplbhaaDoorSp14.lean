import Derived.Test.YtejaonodaplbhaaDoorSp9
namespace Go.Proofs.YtejaonodaplbhaaDoor
namespace S14
open Go Go.Proofs.YtejaonodaplbhaaDoor.Hp Sp S2 S3 S4 S5 S6 S7 S8 S9
set_option maxRecDepth 10000
set_option linter.unusedVariables false
set_option linter.unusedSimpArgs false
attribute [local irreducible] wpList Code.wp wpAny wpAnyK
def tab : Tab := [
  ⟨3, .int .i64, 1, 8, [.int .i64 0]⟩,
  ⟨4, .bool, 1, 1, [.bool false]⟩,
  ⟨47, .slice 3, 1, 24, [.slice none 0 0]⟩,
  ⟨30, .iface, 1, 16, [.nilIface]⟩,
  ⟨35, .struct [(0, 33)], 1, 24, [.slice none 0 0]⟩,
  ⟨33, .slice 51, 1, 24, [.slice none 0 0]⟩,
  ⟨51, .struct [(0, 3), (1, 3)], 2, 16, [.int .i64 0, .int .i64 0]⟩,
  ⟨43, .struct [(0, 3), (1, 3)], 2, 16, [.int .i64 0, .int .i64 0]⟩,
  ⟨27, .slice 43, 1, 24, [.slice none 0 0]⟩,
  ⟨79, .pointer 104, 1, 8, [.pointer none]⟩,
  ⟨81, .struct [(0, 79), (1, 79), (2, 79)], 3, 24, [.pointer none, .pointer none, .pointer none]⟩,
  ⟨77, .pointer 81, 1, 8, [.pointer none]⟩,
  ⟨69, .slice 77, 1, 24, [.slice none 0 0]⟩,
  ⟨71, .struct [(0, 35), (1, 69)], 2, 48, [.slice none 0 0, .slice none 0 0]⟩,
  ⟨68, .pointer 71, 1, 8, [.pointer none]⟩,
  ⟨73, .struct [(0, 68), (1, 68)], 2, 16, [.pointer none, .pointer none]⟩,
  ⟨28, .pointer 73, 1, 8, [.pointer none]⟩,
  ⟨115, .array 3 79, 3, 24, [.pointer none, .pointer none, .pointer none]⟩,
  ⟨116, .slice 79, 1, 24, [.slice none 0 0]⟩,
  ⟨76, .int .i64, 1, 8, [.int .i64 0]⟩]
theorem tab_3 : TE.ok Tryd.prog ⟨3, .int .i64, 1, 8, [.int .i64 0]⟩ := ⟨by kernel_rfl, by kernel_rfl, by kernel_rfl, by kernel_rfl⟩
theorem tab_4 : TE.ok Tryd.prog ⟨4, .bool, 1, 1, [.bool false]⟩ := ⟨by kernel_rfl, by kernel_rfl, by kernel_rfl, by kernel_rfl⟩
theorem tab_47 : TE.ok Tryd.prog ⟨47, .slice 3, 1, 24, [.slice none 0 0]⟩ := ⟨by kernel_rfl, by kernel_rfl, by kernel_rfl, by kernel_rfl⟩
theorem tab_30 : TE.ok Tryd.prog ⟨30, .iface, 1, 16, [.nilIface]⟩ := ⟨by kernel_rfl, by kernel_rfl, by kernel_rfl, by kernel_rfl⟩
theorem tab_35 : TE.ok Tryd.prog ⟨35, .struct [(0, 33)], 1, 24, [.slice none 0 0]⟩ := ⟨by kernel_rfl, by kernel_rfl, by kernel_rfl, by kernel_rfl⟩
theorem tab_33 : TE.ok Tryd.prog ⟨33, .slice 51, 1, 24, [.slice none 0 0]⟩ := ⟨by kernel_rfl, by kernel_rfl, by kernel_rfl, by kernel_rfl⟩
theorem tab_51 : TE.ok Tryd.prog ⟨51, .struct [(0, 3), (1, 3)], 2, 16, [.int .i64 0, .int .i64 0]⟩ := ⟨by kernel_rfl, by kernel_rfl, by kernel_rfl, by kernel_rfl⟩
theorem tab_43 : TE.ok Tryd.prog ⟨43, .struct [(0, 3), (1, 3)], 2, 16, [.int .i64 0, .int .i64 0]⟩ := ⟨by kernel_rfl, by kernel_rfl, by kernel_rfl, by kernel_rfl⟩
theorem tab_27 : TE.ok Tryd.prog ⟨27, .slice 43, 1, 24, [.slice none 0 0]⟩ := ⟨by kernel_rfl, by kernel_rfl, by kernel_rfl, by kernel_rfl⟩
theorem tab_79 : TE.ok Tryd.prog ⟨79, .pointer 104, 1, 8, [.pointer none]⟩ := ⟨by kernel_rfl, by kernel_rfl, by kernel_rfl, by kernel_rfl⟩
theorem tab_81 : TE.ok Tryd.prog ⟨81, .struct [(0, 79), (1, 79), (2, 79)], 3, 24, [.pointer none, .pointer none, .pointer none]⟩ := ⟨by kernel_rfl, by kernel_rfl, by kernel_rfl, by kernel_rfl⟩
theorem tab_77 : TE.ok Tryd.prog ⟨77, .pointer 81, 1, 8, [.pointer none]⟩ := ⟨by kernel_rfl, by kernel_rfl, by kernel_rfl, by kernel_rfl⟩
theorem tab_69 : TE.ok Tryd.prog ⟨69, .slice 77, 1, 24, [.slice none 0 0]⟩ := ⟨by kernel_rfl, by kernel_rfl, by kernel_rfl, by kernel_rfl⟩
theorem tab_71 : TE.ok Tryd.prog ⟨71, .struct [(0, 35), (1, 69)], 2, 48, [.slice none 0 0, .slice none 0 0]⟩ := ⟨by kernel_rfl, by kernel_rfl, by kernel_rfl, by kernel_rfl⟩
theorem tab_68 : TE.ok Tryd.prog ⟨68, .pointer 71, 1, 8, [.pointer none]⟩ := ⟨by kernel_rfl, by kernel_rfl, by kernel_rfl, by kernel_rfl⟩
theorem tab_73 : TE.ok Tryd.prog ⟨73, .struct [(0, 68), (1, 68)], 2, 16, [.pointer none, .pointer none]⟩ := ⟨by kernel_rfl, by kernel_rfl, by kernel_rfl, by kernel_rfl⟩
theorem tab_28 : TE.ok Tryd.prog ⟨28, .pointer 73, 1, 8, [.pointer none]⟩ := ⟨by kernel_rfl, by kernel_rfl, by kernel_rfl, by kernel_rfl⟩
theorem tab_115 : TE.ok Tryd.prog ⟨115, .array 3 79, 3, 24, [.pointer none, .pointer none, .pointer none]⟩ := ⟨by kernel_rfl, by kernel_rfl, by kernel_rfl, by kernel_rfl⟩
theorem tab_116 : TE.ok Tryd.prog ⟨116, .slice 79, 1, 24, [.slice none 0 0]⟩ := ⟨by kernel_rfl, by kernel_rfl, by kernel_rfl, by kernel_rfl⟩
theorem tab_76 : TE.ok Tryd.prog ⟨76, .int .i64, 1, 8, [.int .i64 0]⟩ := ⟨by kernel_rfl, by kernel_rfl, by kernel_rfl, by kernel_rfl⟩
theorem tab_ok : tab.ok Tryd.prog := by
  intro e he
  simp only [tab, List.mem_cons, List.not_mem_nil, or_false] at he
  rcases he with rfl | rfl | rfl | rfl | rfl | rfl | rfl | rfl | rfl | rfl | rfl | rfl | rfl | rfl | rfl | rfl | rfl | rfl | rfl | rfl
  · exact tab_3
  · exact tab_4
  · exact tab_47
  · exact tab_30
  · exact tab_35
  · exact tab_33
  · exact tab_51
  · exact tab_43
  · exact tab_27
  · exact tab_79
  · exact tab_81
  · exact tab_77
  · exact tab_69
  · exact tab_71
  · exact tab_68
  · exact tab_73
  · exact tab_28
  · exact tab_115
  · exact tab_116
  · exact tab_76


theorem ent42 : Enters Tryd.prog 42 := ⟨_, _, Tryd.func42, by kernel_rfl, rfl⟩
theorem ent20 : Enters Tryd.prog 20 := ⟨_, _, Tryd.func20, by kernel_rfl, rfl⟩
theorem ent21 : Enters Tryd.prog 21 := ⟨_, _, Tryd.func21, by kernel_rfl, rfl⟩
theorem ent19 : Enters Tryd.prog 19 := ⟨_, _, Tryd.func19, by kernel_rfl, rfl⟩
theorem ent44 : Enters Tryd.prog 44 := ⟨_, _, Tryd.func44, by kernel_rfl, rfl⟩

theorem j_was_none {E : World} {X : Act → World → Prop} {n : Nat} {f : Fr} {L : List Assn} {R : Assn} {wv : Value} (h : wv = .pointer none → J E X n f L) : J E X n f (Was R wv none :: L) := by
  unfold J at h ⊢
  intro a w hf hs
  obtain ⟨f', g, hsp, hA, hL⟩ := hs.heap
  exact h hA a w hf (hs.imp fun m hm => star_drop hm)
theorem j_was_some {E : World} {X : Act → World → Prop} {n : Nat} {f : Fr} {L : List Assn} {R : Assn} {wv : Value} {x : List Ent × List Shl}
    (h : ∀ w rv sv qs, wv = ptr w → Ro R 2 rv (ecells x.1) → qs.length = x.1.length → J E X n f (cl w [rv, sv] 71 :: Ss sv qs :: many Sh qs x.2 :: L)) : J E X n f (Was R wv (some x) :: L) :=
  j_ex fun w => j_ex fun rv => j_ex fun sv => j_ex fun qs => j_and fun hp => j_star (h w rv sv qs hp.1 hp.2.1 hp.2.2)
theorem was_shut {R : Assn} {w : Nat} {rv sv : Value} {qs : List Nat} {x : List Ent × List Shl} (hro : Ro R 2 rv (ecells x.1)) (hq : qs.length = x.1.length) :
    ∀ m, star [cl w [rv, sv] 71, Ss sv qs, many Sh qs x.2] m → Was R (ptr w) (some x) m := fun _ h => ⟨w, rv, sv, qs, ⟨rfl, hro, hq⟩, h⟩
theorem was_none_shut {R : Assn} : ∀ m, star [] m → Was R (.pointer none) none m := fun _ _ => rfl
/-- was a fresh one taken ahead of Begin? -/
def eldB (was : Option (List Ent × List Shl)) (n k : Nat) : Bool := match was with
  | none => false
  | some x => match x.2[n]? with
    | none => false
    | some sh => (sh.t[k]?).getD false && (sh.f[k]?).getD false
def okWas (was : Option (List Ent × List Shl)) : Prop := match was with
  | none => True
  | some x => x.2.length = x.1.length
set_option maxHeartbeats 2000000 in
theorem elder_tri {R : Assn} {p s : Nat} {wv : Value} {was : Option (List Ent × List Shl)} (hw : okWas was) (n k : Nat) (hn : n < 8) (hk : k < 4096) :
    Tri Tryd.prog 42 [ptr p, I ((n : Int) * 4096 + k)] [cl p [ptr s, wv] 73, Was R wv was] fun v B => v = .bool (eldB was n k) ∧ B = [cl p [ptr s, wv] 73, Was R wv was] := by
  have e1 : atD ((n : Int) * 4096 + k) = n := by unfold atD; rw [if_neg (by omega)]; omega
  have e2 : atK ((n : Int) * 4096 + k) = k := by unfold atK; rw [if_neg (by omega)]; omega
  refine tri_introX Tryd.func42 rfl Tryd.ntmps42 rfl fun E X => ?_
  (refine j_nm rfl ?_; repeat (first | refine jo_cons ?_ | (refine jo_iso ?_; first | (refine jo_isbin ?_; first | refine jo_v (by first | exact pv_add rfl rfl (by omega) | exact pv_sub rfl rfl (by omega)) rfl ?_ | refine jo_pure tab_ok rfl rfl ?_ | refine jo_v (by first | exact pv_ptr_eq tab_ok rfl rfl rfl | exact pv_ptr_ne tab_ok rfl rfl rfl) rfl ?_) | refine jo_pure tab_ok rfl rfl ?_ | refine jo_want rfl ?_ | refine jo_skip rfl rfl ?_ | refine jo_load tab_ok rfl rfl rfl (by first | ((repeat first | exact Rd.here rfl | refine Rd.there ?_); done) | assumption) rfl ?_) | refine jo_nil ?_ | refine jc_seq ?_ | refine jc_skip ?_ | refine jc_region ?_ | refine jc_block ?_ | refine jc_ret ?_ | refine jc_exit ?_ | refine jx_then ?_ | refine jx_then_exit ?_ | refine jx_then_ret ?_ | refine jx_block ?_ | refine jx_block_ret ?_ | refine jx_block_hit ?_ | refine jx_block_miss rfl ?_ | refine jc_true rfl ?_ | refine jc_false rfl ?_))
  refine jo_call [] (at_tri ((n : Int) * 4096 + k)) ent9 rfl ⟨rfl, rfl⟩ rfl ?_
  rintro v B ⟨rfl, rfl⟩
  rw [e1, e2]
  cases was with
  | none =>
    refine j_nm rfl ?_
    refine j_front [1] (j_was_none fun hwv => ?_)
    subst hwv
    (refine j_nm rfl ?_; repeat (first | refine jo_cons ?_ | (refine jo_iso ?_; first | (refine jo_isbin ?_; first | refine jo_v (by first | exact pv_add rfl rfl (by omega) | exact pv_sub rfl rfl (by omega)) rfl ?_ | refine jo_pure tab_ok rfl rfl ?_ | refine jo_v (by first | exact pv_ptr_eq tab_ok rfl rfl rfl | exact pv_ptr_ne tab_ok rfl rfl rfl) rfl ?_) | refine jo_pure tab_ok rfl rfl ?_ | refine jo_want rfl ?_ | refine jo_skip rfl rfl ?_ | refine jo_load tab_ok rfl rfl rfl (by first | ((repeat first | exact Rd.here rfl | refine Rd.there ?_); done) | assumption) rfl ?_) | refine jo_nil ?_ | refine jc_seq ?_ | refine jc_skip ?_ | refine jc_region ?_ | refine jc_block ?_ | refine jc_ret ?_ | refine jc_exit ?_ | refine jx_then ?_ | refine jx_then_exit ?_ | refine jx_then_ret ?_ | refine jx_block ?_ | refine jx_block_ret ?_ | refine jx_block_hit ?_ | refine jx_block_miss rfl ?_ | refine jc_true rfl ?_ | refine jc_false rfl ?_))
    refine j_close [] rfl (was_none_shut (R := R)) ?_
    exact j_ret [1, 0] [] rfl ⟨rfl, rfl⟩ ⟨rfl, rfl⟩
  | some x =>
    obtain ⟨es2, ss2⟩ := x
    have hw : ss2.length = es2.length := hw
    refine j_nm rfl ?_
    refine j_front [1] (j_was_some fun w rv sv qs hwv hro hq => ?_)
    subst hwv
    simp only at hro hq
    refine j_nm rfl ?_
    refine j_front [1] (j_sl_ro fun hrs => ?_)
    obtain ⟨qb, qn, qc, rfl, hqn, hqm, hqor⟩ := hrs
    simp only [List.length_map, Nat.mul_one] at hqn
    (refine j_nm rfl ?_; repeat (first | refine jo_cons ?_ | (refine jo_iso ?_; first | (refine jo_isbin ?_; first | refine jo_v (by first | exact pv_add rfl rfl (by omega) | exact pv_sub rfl rfl (by omega)) rfl ?_ | refine jo_pure tab_ok rfl rfl ?_ | refine jo_v (by first | exact pv_ptr_eq tab_ok rfl rfl rfl | exact pv_ptr_ne tab_ok rfl rfl rfl) rfl ?_) | refine jo_pure tab_ok rfl rfl ?_ | refine jo_want rfl ?_ | refine jo_skip rfl rfl ?_ | refine jo_load tab_ok rfl rfl rfl (by first | ((repeat first | exact Rd.here rfl | refine Rd.there ?_); done) | assumption) rfl ?_) | refine jo_nil ?_ | refine jc_seq ?_ | refine jc_skip ?_ | refine jc_region ?_ | refine jc_block ?_ | refine jc_ret ?_ | refine jc_exit ?_ | refine jx_then ?_ | refine jx_then_exit ?_ | refine jx_then_ret ?_ | refine jx_block ?_ | refine jx_block_ret ?_ | refine jx_block_hit ?_ | refine jx_block_miss rfl ?_ | refine jc_true rfl ?_ | refine jc_false rfl ?_))
    refine jc_dec rfl (fun h => ?_) (fun h => ?_)
    · (refine j_nm rfl ?_; repeat (first | refine jo_cons ?_ | (refine jo_iso ?_; first | (refine jo_isbin ?_; first | refine jo_v (by first | exact pv_add rfl rfl (by omega) | exact pv_sub rfl rfl (by omega)) rfl ?_ | refine jo_pure tab_ok rfl rfl ?_ | refine jo_v (by first | exact pv_ptr_eq tab_ok rfl rfl rfl | exact pv_ptr_ne tab_ok rfl rfl rfl) rfl ?_) | refine jo_pure tab_ok rfl rfl ?_ | refine jo_want rfl ?_ | refine jo_skip rfl rfl ?_ | refine jo_load tab_ok rfl rfl rfl (by first | ((repeat first | exact Rd.here rfl | refine Rd.there ?_); done) | assumption) rfl ?_) | refine jo_nil ?_ | refine jc_seq ?_ | refine jc_skip ?_ | refine jc_region ?_ | refine jc_block ?_ | refine jc_ret ?_ | refine jc_exit ?_ | refine jx_then ?_ | refine jx_then_exit ?_ | refine jx_then_ret ?_ | refine jx_block ?_ | refine jx_block_ret ?_ | refine jx_block_hit ?_ | refine jx_block_miss rfl ?_ | refine jc_true rfl ?_ | refine jc_false rfl ?_))
      refine j_close [1, 0, 0] rfl (was_shut hro hq) ?_
      refine j_ret [1, 0] [] rfl ⟨?_, rfl⟩ ⟨rfl, rfl⟩
      have : ss2[n]? = none := List.getElem?_eq_none (by omega)
      simp only [eldB, this]
    · have hne : n < es2.length := by omega
      have hsn : ss2[n]? = some ss2[n] := List.getElem?_eq_getElem (by omega)
      have hqq : qs[n]? = some qs[n] := List.getElem?_eq_getElem (by omega)
      obtain ⟨b, o, rfl, hrd⟩ := hqor.resolve_left (by omega)
      (refine j_nm rfl ?_; repeat (first | refine jo_cons ?_ | (refine jo_iso ?_; first | (refine jo_isbin ?_; first | refine jo_v (by first | exact pv_add rfl rfl (by omega) | exact pv_sub rfl rfl (by omega)) rfl ?_ | refine jo_pure tab_ok rfl rfl ?_ | refine jo_v (by first | exact pv_ptr_eq tab_ok rfl rfl rfl | exact pv_ptr_ne tab_ok rfl rfl rfl) rfl ?_) | refine jo_pure tab_ok rfl rfl ?_ | refine jo_want rfl ?_ | refine jo_skip rfl rfl ?_ | refine jo_load tab_ok rfl rfl rfl (by first | ((repeat first | exact Rd.here rfl | refine Rd.there ?_); done) | assumption) rfl ?_) | refine jo_nil ?_ | refine jc_seq ?_ | refine jc_skip ?_ | refine jc_region ?_ | refine jc_block ?_ | refine jc_ret ?_ | refine jc_exit ?_ | refine jx_then ?_ | refine jx_then_exit ?_ | refine jx_then_ret ?_ | refine jx_block ?_ | refine jx_block_ret ?_ | refine jx_block_hit ?_ | refine jx_block_miss rfl ?_ | refine jc_true rfl ?_ | refine jc_false rfl ?_))
      refine jo_v (pv_index1 tab_ok n rfl rfl rfl rfl rfl rfl rfl (by omega)) rfl (jo_cons ?_)
      refine jo_load tab_ok rfl rfl rfl ((hrd _).one (k := n) (v := ptr qs[n]) (by rw [List.getElem?_map, hqq]; rfl)) rfl ?_
      refine j_front [2] (j_shelf n hqq hsn fun a1 b1 c1 => ?_)
      (refine j_nm rfl ?_; repeat (first | refine jo_cons ?_ | (refine jo_iso ?_; first | (refine jo_isbin ?_; first | refine jo_v (by first | exact pv_add rfl rfl (by omega) | exact pv_sub rfl rfl (by omega)) rfl ?_ | refine jo_pure tab_ok rfl rfl ?_ | refine jo_v (by first | exact pv_ptr_eq tab_ok rfl rfl rfl | exact pv_ptr_ne tab_ok rfl rfl rfl) rfl ?_) | refine jo_pure tab_ok rfl rfl ?_ | refine jo_want rfl ?_ | refine jo_skip rfl rfl ?_ | refine jo_load tab_ok rfl rfl rfl (by first | ((repeat first | exact Rd.here rfl | refine Rd.there ?_); done) | assumption) rfl ?_) | refine jo_nil ?_ | refine jc_seq ?_ | refine jc_skip ?_ | refine jc_region ?_ | refine jc_block ?_ | refine jc_ret ?_ | refine jc_exit ?_ | refine jx_then ?_ | refine jx_then_exit ?_ | refine jx_then_ret ?_ | refine jx_block ?_ | refine jx_block_ret ?_ | refine jx_block_hit ?_ | refine jx_block_miss rfl ?_ | refine jc_true rfl ?_ | refine jc_false rfl ?_))
      refine jo_call [1] (has_tri a1 ss2[n].t k) ent35 rfl ⟨rfl, rfl⟩ rfl ?_
      rintro v B ⟨hv, rfl⟩
      rw [hasB_nat] at hv
      cases ht : (ss2[n].t[k]?).getD false with
      | false =>
        rw [ht] at hv
        subst hv
        (refine j_nm rfl ?_; repeat (first | refine jo_cons ?_ | (refine jo_iso ?_; first | (refine jo_isbin ?_; first | refine jo_v (by first | exact pv_add rfl rfl (by omega) | exact pv_sub rfl rfl (by omega)) rfl ?_ | refine jo_pure tab_ok rfl rfl ?_ | refine jo_v (by first | exact pv_ptr_eq tab_ok rfl rfl rfl | exact pv_ptr_ne tab_ok rfl rfl rfl) rfl ?_) | refine jo_pure tab_ok rfl rfl ?_ | refine jo_want rfl ?_ | refine jo_skip rfl rfl ?_ | refine jo_load tab_ok rfl rfl rfl (by first | ((repeat first | exact Rd.here rfl | refine Rd.there ?_); done) | assumption) rfl ?_) | refine jo_nil ?_ | refine jc_seq ?_ | refine jc_skip ?_ | refine jc_region ?_ | refine jc_block ?_ | refine jc_ret ?_ | refine jc_exit ?_ | refine jx_then ?_ | refine jx_then_exit ?_ | refine jx_then_ret ?_ | refine jx_block ?_ | refine jx_block_ret ?_ | refine jx_block_hit ?_ | refine jx_block_miss rfl ?_ | refine jc_true rfl ?_ | refine jc_false rfl ?_))
        refine j_close [1, 0, 0, 0, 0] rfl (shelf_back hqq hsn) ?_
        refine j_nm rfl ?_
        refine j_close [2, 1, 0] rfl (was_shut (x := (es2, ss2)) hro hq) ?_
        refine j_ret [1, 0] [] rfl ⟨?_, rfl⟩ ⟨rfl, rfl⟩
        simp only [eldB, hsn, ht, Bool.false_and]
      | true =>
        rw [ht] at hv
        subst hv
        (refine j_nm rfl ?_; repeat (first | refine jo_cons ?_ | (refine jo_iso ?_; first | (refine jo_isbin ?_; first | refine jo_v (by first | exact pv_add rfl rfl (by omega) | exact pv_sub rfl rfl (by omega)) rfl ?_ | refine jo_pure tab_ok rfl rfl ?_ | refine jo_v (by first | exact pv_ptr_eq tab_ok rfl rfl rfl | exact pv_ptr_ne tab_ok rfl rfl rfl) rfl ?_) | refine jo_pure tab_ok rfl rfl ?_ | refine jo_want rfl ?_ | refine jo_skip rfl rfl ?_ | refine jo_load tab_ok rfl rfl rfl (by first | ((repeat first | exact Rd.here rfl | refine Rd.there ?_); done) | assumption) rfl ?_) | refine jo_nil ?_ | refine jc_seq ?_ | refine jc_skip ?_ | refine jc_region ?_ | refine jc_block ?_ | refine jc_ret ?_ | refine jc_exit ?_ | refine jx_then ?_ | refine jx_then_exit ?_ | refine jx_then_ret ?_ | refine jx_block ?_ | refine jx_block_ret ?_ | refine jx_block_hit ?_ | refine jx_block_miss rfl ?_ | refine jc_true rfl ?_ | refine jc_false rfl ?_))
        refine jo_call [2] (has_tri b1 ss2[n].f k) ent35 rfl ⟨rfl, rfl⟩ rfl ?_
        rintro v B ⟨hv, rfl⟩
        rw [hasB_nat] at hv
        subst hv
        (refine j_nm rfl ?_; repeat (first | refine jo_cons ?_ | (refine jo_iso ?_; first | (refine jo_isbin ?_; first | refine jo_v (by first | exact pv_add rfl rfl (by omega) | exact pv_sub rfl rfl (by omega)) rfl ?_ | refine jo_pure tab_ok rfl rfl ?_ | refine jo_v (by first | exact pv_ptr_eq tab_ok rfl rfl rfl | exact pv_ptr_ne tab_ok rfl rfl rfl) rfl ?_) | refine jo_pure tab_ok rfl rfl ?_ | refine jo_want rfl ?_ | refine jo_skip rfl rfl ?_ | refine jo_load tab_ok rfl rfl rfl (by first | ((repeat first | exact Rd.here rfl | refine Rd.there ?_); done) | assumption) rfl ?_) | refine jo_nil ?_ | refine jc_seq ?_ | refine jc_skip ?_ | refine jc_region ?_ | refine jc_block ?_ | refine jc_ret ?_ | refine jc_exit ?_ | refine jx_then ?_ | refine jx_then_exit ?_ | refine jx_then_ret ?_ | refine jx_block ?_ | refine jx_block_ret ?_ | refine jx_block_hit ?_ | refine jx_block_miss rfl ?_ | refine jc_true rfl ?_ | refine jc_false rfl ?_))
        refine j_close [2, 1, 0, 0, 0] rfl (shelf_back hqq hsn) ?_
        refine j_nm rfl ?_
        refine j_close [2, 1, 0] rfl (was_shut (x := (es2, ss2)) hro hq) ?_
        refine j_ret [1, 0] [] rfl ⟨?_, rfl⟩ ⟨rfl, rfl⟩
        simp only [eldB, hsn, ht, Bool.true_and]
/-- a sector behind Give -/
def giveS (sh : Shl) (k : Nat) (eld : Bool) : Shl := if (sh.f[k]?).getD false && !eld then ⟨sh.t.set k false, sh.f.set k false, sh.g⟩ else ⟨sh.t.set k false, sh.f, sh.g.set k true⟩
set_option maxHeartbeats 4000000 in
theorem give_tri {es : List Ent} {p : Nat} {ss : List Shl} {was : Option (List Ent × List Shl)} (hI : Inv es ss) (hw : okWas was) (a : Int) :
    Tri Tryd.prog 20 [ptr p, I a] [Spc p es ss was] fun v B =>
      (roomAt es a = none ∧ v = err 20 ∧ B = [Spc p es ss was]) ∨
      (∃ (n k : Nat) (sh : Shl), roomAt es a = some (n, k) ∧ ss[n]? = some sh ∧ sh.t[k]? = some false ∧ v = err 51 ∧ B = [Spc p es ss was]) ∨
      (∃ (n k : Nat) (sh : Shl), roomAt es a = some (n, k) ∧ ss[n]? = some sh ∧ sh.t[k]? = some true ∧ v = .nilIface ∧ B = [Spc p es (ss.set n (giveS sh k (eldB was n k))) was]) := by
  refine tri_introX Tryd.func20 rfl Tryd.ntmps20 rfl fun E X => ?_
  refine j_spc fun s wv rv sv qs R hro hq => ?_
  (refine j_nm rfl ?_; repeat (first | refine jo_cons ?_ | (refine jo_iso ?_; first | (refine jo_isbin ?_; first | refine jo_v (by first | exact pv_add rfl rfl (by omega) | exact pv_sub rfl rfl (by omega)) rfl ?_ | refine jo_pure tab_ok rfl rfl ?_ | refine jo_v (by first | exact pv_ptr_eq tab_ok rfl rfl rfl | exact pv_ptr_ne tab_ok rfl rfl rfl) rfl ?_) | refine jo_pure tab_ok rfl rfl ?_ | refine jo_want rfl ?_ | refine jo_skip rfl rfl ?_ | refine jo_load tab_ok rfl rfl rfl (by first | ((repeat first | exact Rd.here rfl | refine Rd.there ?_); done) | assumption) rfl ?_) | refine jo_nil ?_ | refine jc_seq ?_ | refine jc_skip ?_ | refine jc_region ?_ | refine jc_block ?_ | refine jc_ret ?_ | refine jc_exit ?_ | refine jx_then ?_ | refine jx_then_exit ?_ | refine jx_then_ret ?_ | refine jx_block ?_ | refine jx_block_ret ?_ | refine jx_block_hit ?_ | refine jx_block_miss rfl ?_ | refine jc_true rfl ?_ | refine jc_false rfl ?_))
  refine jo_call [0, 0, 0, 0] (S2.find_tri hro hq a) ent40 rfl ⟨rfl, rfl⟩ rfl ?_
  rintro v B ⟨rfl, rfl⟩
  cases hr : roomAt es a with
  | none =>
    show J _ _ _ ((_, .tuple #[.pointer none, I 0]) :: _) _
    (refine j_nm rfl ?_; repeat (first | refine jo_cons ?_ | (refine jo_iso ?_; first | (refine jo_isbin ?_; first | refine jo_v (by first | exact pv_add rfl rfl (by omega) | exact pv_sub rfl rfl (by omega)) rfl ?_ | refine jo_pure tab_ok rfl rfl ?_ | refine jo_v (by first | exact pv_ptr_eq tab_ok rfl rfl rfl | exact pv_ptr_ne tab_ok rfl rfl rfl) rfl ?_) | refine jo_pure tab_ok rfl rfl ?_ | refine jo_want rfl ?_ | refine jo_skip rfl rfl ?_ | refine jo_load tab_ok rfl rfl rfl (by first | ((repeat first | exact Rd.here rfl | refine Rd.there ?_); done) | assumption) rfl ?_) | refine jo_nil ?_ | refine jc_seq ?_ | refine jc_skip ?_ | refine jc_region ?_ | refine jc_block ?_ | refine jc_ret ?_ | refine jc_exit ?_ | refine jx_then ?_ | refine jx_then_exit ?_ | refine jx_then_ret ?_ | refine jx_block ?_ | refine jx_block_ret ?_ | refine jx_block_hit ?_ | refine jx_block_miss rfl ?_ | refine jc_true rfl ?_ | refine jc_false rfl ?_))
    refine j_close [0, 0, 0, 0, 0, 0] rfl (spc_shut hro hq) ?_
    exact j_ret [0] [] rfl (.inl ⟨rfl, rfl, rfl⟩) ⟨rfl, rfl⟩
  | some nk =>
    obtain ⟨n, k⟩ := nk
    obtain ⟨e, he, h3, hk2, hkz, hae, hk⟩ := roomAt_some hr
    have hn8 : n < 8 := by have := (List.getElem?_eq_some_iff.1 he).1; have := okR_len hI.right; omega
    obtain ⟨sh, hsh, hok⟩ := sh_of hI he
    obtain ⟨q, hqn, hqd⟩ := qs_of hq he
    have hkt : k < sh.t.length := by have := hok.t; omega
    have hkf : k < sh.f.length := by have := hok.f; omega
    have hkg : k < sh.g.length := by have := hok.g; omega
    show J _ _ _ ((_, .tuple #[ptr (qs.getD n 0), I k]) :: _) _
    rw [hqd]
    refine j_nm rfl ?_
    refine j_front [4] (j_shelf n hqn hsh fun a1 b1 c1 => ?_)
    (refine j_nm rfl ?_; repeat (first | refine jo_cons ?_ | (refine jo_iso ?_; first | (refine jo_isbin ?_; first | refine jo_v (by first | exact pv_add rfl rfl (by omega) | exact pv_sub rfl rfl (by omega)) rfl ?_ | refine jo_pure tab_ok rfl rfl ?_ | refine jo_v (by first | exact pv_ptr_eq tab_ok rfl rfl rfl | exact pv_ptr_ne tab_ok rfl rfl rfl) rfl ?_) | refine jo_pure tab_ok rfl rfl ?_ | refine jo_want rfl ?_ | refine jo_skip rfl rfl ?_ | refine jo_load tab_ok rfl rfl rfl (by first | ((repeat first | exact Rd.here rfl | refine Rd.there ?_); done) | assumption) rfl ?_) | refine jo_nil ?_ | refine jc_seq ?_ | refine jc_skip ?_ | refine jc_region ?_ | refine jc_block ?_ | refine jc_ret ?_ | refine jc_exit ?_ | refine jx_then ?_ | refine jx_then_exit ?_ | refine jx_then_ret ?_ | refine jx_block ?_ | refine jx_block_ret ?_ | refine jx_block_hit ?_ | refine jx_block_miss rfl ?_ | refine jc_true rfl ?_ | refine jc_false rfl ?_))
    refine jo_call [1] (has_tri a1 sh.t k) ent35 rfl ⟨rfl, rfl⟩ rfl ?_
    rintro v B ⟨hv, rfl⟩
    rw [hasB_nat, List.getElem?_eq_getElem hkt] at hv
    simp only [Option.getD_some] at hv
    cases ht : sh.t[k] with
    | false =>
      rw [ht] at hv
      subst hv
      (refine j_nm rfl ?_; repeat (first | refine jo_cons ?_ | (refine jo_iso ?_; first | (refine jo_isbin ?_; first | refine jo_v (by first | exact pv_add rfl rfl (by omega) | exact pv_sub rfl rfl (by omega)) rfl ?_ | refine jo_pure tab_ok rfl rfl ?_ | refine jo_v (by first | exact pv_ptr_eq tab_ok rfl rfl rfl | exact pv_ptr_ne tab_ok rfl rfl rfl) rfl ?_) | refine jo_pure tab_ok rfl rfl ?_ | refine jo_want rfl ?_ | refine jo_skip rfl rfl ?_ | refine jo_load tab_ok rfl rfl rfl (by first | ((repeat first | exact Rd.here rfl | refine Rd.there ?_); done) | assumption) rfl ?_) | refine jo_nil ?_ | refine jc_seq ?_ | refine jc_skip ?_ | refine jc_region ?_ | refine jc_block ?_ | refine jc_ret ?_ | refine jc_exit ?_ | refine jx_then ?_ | refine jx_then_exit ?_ | refine jx_then_ret ?_ | refine jx_block ?_ | refine jx_block_ret ?_ | refine jx_block_hit ?_ | refine jx_block_miss rfl ?_ | refine jc_true rfl ?_ | refine jc_false rfl ?_))
      refine j_close [1, 0, 0, 0, 0] rfl (shelf_back hqn hsh) ?_
      refine j_nm rfl ?_
      refine j_close [1, 1, 1, 1, 0, 0] rfl (spc_shut hro hq) ?_
      exact j_ret [0] [] rfl (.inr (.inl ⟨n, k, sh, rfl, hsh, by rw [List.getElem?_eq_getElem hkt, ht], rfl, rfl⟩)) ⟨rfl, rfl⟩
    | true =>
      rw [ht] at hv
      subst hv
      have ht' : sh.t[k]? = some true := by rw [List.getElem?_eq_getElem hkt, ht]
      (refine j_nm rfl ?_; repeat (first | refine jo_cons ?_ | (refine jo_iso ?_; first | (refine jo_isbin ?_; first | refine jo_v (by first | exact pv_add rfl rfl (by omega) | exact pv_sub rfl rfl (by omega)) rfl ?_ | refine jo_pure tab_ok rfl rfl ?_ | refine jo_v (by first | exact pv_ptr_eq tab_ok rfl rfl rfl | exact pv_ptr_ne tab_ok rfl rfl rfl) rfl ?_) | refine jo_pure tab_ok rfl rfl ?_ | refine jo_want rfl ?_ | refine jo_skip rfl rfl ?_ | refine jo_load tab_ok rfl rfl rfl (by first | ((repeat first | exact Rd.here rfl | refine Rd.there ?_); done) | assumption) rfl ?_) | refine jo_nil ?_ | refine jc_seq ?_ | refine jc_skip ?_ | refine jc_region ?_ | refine jc_block ?_ | refine jc_ret ?_ | refine jc_exit ?_ | refine jx_then ?_ | refine jx_then_exit ?_ | refine jx_then_ret ?_ | refine jx_block ?_ | refine jx_block_ret ?_ | refine jx_block_hit ?_ | refine jx_block_miss rfl ?_ | refine jc_true rfl ?_ | refine jc_false rfl ?_))
      refine jo_buildSlice tab_ok (cs := [I k]) rfl rfl rfl rfl rfl rfl (by first | (simp [Instr.fill]; done) | simp [Instr.fill, Value.cells]) rfl fun bA => ?_
      (refine j_nm rfl ?_; repeat (first | refine jo_cons ?_ | (refine jo_iso ?_; first | (refine jo_isbin ?_; first | refine jo_v (by first | exact pv_add rfl rfl (by omega) | exact pv_sub rfl rfl (by omega)) rfl ?_ | refine jo_pure tab_ok rfl rfl ?_ | refine jo_v (by first | exact pv_ptr_eq tab_ok rfl rfl rfl | exact pv_ptr_ne tab_ok rfl rfl rfl) rfl ?_) | refine jo_pure tab_ok rfl rfl ?_ | refine jo_want rfl ?_ | refine jo_skip rfl rfl ?_ | refine jo_load tab_ok rfl rfl rfl (by first | ((repeat first | exact Rd.here rfl | refine Rd.there ?_); done) | assumption) rfl ?_) | refine jo_nil ?_ | refine jc_seq ?_ | refine jc_skip ?_ | refine jc_region ?_ | refine jc_block ?_ | refine jc_ret ?_ | refine jc_exit ?_ | refine jx_then ?_ | refine jx_then_exit ?_ | refine jx_then_ret ?_ | refine jx_block ?_ | refine jx_block_ret ?_ | refine jx_block_hit ?_ | refine jx_block_miss rfl ?_ | refine jc_true rfl ?_ | refine jc_false rfl ?_))
      refine jo_call [1, 0] (clear_one hkt) ent41 rfl ⟨rfl, rfl⟩ rfl ?_
      rintro v B ⟨rfl, rfl⟩
      (refine j_nm rfl ?_; repeat (first | refine jo_cons ?_ | (refine jo_iso ?_; first | (refine jo_isbin ?_; first | refine jo_v (by first | exact pv_add rfl rfl (by omega) | exact pv_sub rfl rfl (by omega)) rfl ?_ | refine jo_pure tab_ok rfl rfl ?_ | refine jo_v (by first | exact pv_ptr_eq tab_ok rfl rfl rfl | exact pv_ptr_ne tab_ok rfl rfl rfl) rfl ?_) | refine jo_pure tab_ok rfl rfl ?_ | refine jo_want rfl ?_ | refine jo_skip rfl rfl ?_ | refine jo_load tab_ok rfl rfl rfl (by first | ((repeat first | exact Rd.here rfl | refine Rd.there ?_); done) | assumption) rfl ?_) | refine jo_nil ?_ | refine jc_seq ?_ | refine jc_skip ?_ | refine jc_region ?_ | refine jc_block ?_ | refine jc_ret ?_ | refine jc_exit ?_ | refine jx_then ?_ | refine jx_then_exit ?_ | refine jx_then_ret ?_ | refine jx_block ?_ | refine jx_block_ret ?_ | refine jx_block_hit ?_ | refine jx_block_miss rfl ?_ | refine jc_true rfl ?_ | refine jc_false rfl ?_))
      refine jo_call [3] (has_tri b1 sh.f k) ent35 rfl ⟨rfl, rfl⟩ rfl ?_
      rintro v B ⟨hv, rfl⟩
      rw [hasB_nat] at hv
      cases hf : (sh.f[k]?).getD false with
      | false =>
        rw [hf] at hv
        subst hv
        (refine j_nm rfl ?_; repeat (first | refine jo_cons ?_ | (refine jo_iso ?_; first | (refine jo_isbin ?_; first | refine jo_v (by first | exact pv_add rfl rfl (by omega) | exact pv_sub rfl rfl (by omega)) rfl ?_ | refine jo_pure tab_ok rfl rfl ?_ | refine jo_v (by first | exact pv_ptr_eq tab_ok rfl rfl rfl | exact pv_ptr_ne tab_ok rfl rfl rfl) rfl ?_) | refine jo_pure tab_ok rfl rfl ?_ | refine jo_want rfl ?_ | refine jo_skip rfl rfl ?_ | refine jo_load tab_ok rfl rfl rfl (by first | ((repeat first | exact Rd.here rfl | refine Rd.there ?_); done) | assumption) rfl ?_) | refine jo_nil ?_ | refine jc_seq ?_ | refine jc_skip ?_ | refine jc_region ?_ | refine jc_block ?_ | refine jc_ret ?_ | refine jc_exit ?_ | refine jx_then ?_ | refine jx_then_exit ?_ | refine jx_then_ret ?_ | refine jx_block ?_ | refine jx_block_ret ?_ | refine jx_block_hit ?_ | refine jx_block_miss rfl ?_ | refine jc_true rfl ?_ | refine jc_false rfl ?_))
        refine jo_buildSlice tab_ok (cs := [I k]) rfl rfl rfl rfl rfl rfl (by first | (simp [Instr.fill]; done) | simp [Instr.fill, Value.cells]) rfl fun bB => ?_
        (refine j_nm rfl ?_; repeat (first | refine jo_cons ?_ | (refine jo_iso ?_; first | (refine jo_isbin ?_; first | refine jo_v (by first | exact pv_add rfl rfl (by omega) | exact pv_sub rfl rfl (by omega)) rfl ?_ | refine jo_pure tab_ok rfl rfl ?_ | refine jo_v (by first | exact pv_ptr_eq tab_ok rfl rfl rfl | exact pv_ptr_ne tab_ok rfl rfl rfl) rfl ?_) | refine jo_pure tab_ok rfl rfl ?_ | refine jo_want rfl ?_ | refine jo_skip rfl rfl ?_ | refine jo_load tab_ok rfl rfl rfl (by first | ((repeat first | exact Rd.here rfl | refine Rd.there ?_); done) | assumption) rfl ?_) | refine jo_nil ?_ | refine jc_seq ?_ | refine jc_skip ?_ | refine jc_region ?_ | refine jc_block ?_ | refine jc_ret ?_ | refine jc_exit ?_ | refine jx_then ?_ | refine jx_then_exit ?_ | refine jx_then_ret ?_ | refine jx_block ?_ | refine jx_block_ret ?_ | refine jx_block_hit ?_ | refine jx_block_miss rfl ?_ | refine jc_true rfl ?_ | refine jc_false rfl ?_))
        refine jo_call [5, 0] (set_one hkg) ent36 rfl ⟨rfl, rfl⟩ rfl ?_
        rintro v B ⟨rfl, rfl⟩
        (refine j_nm rfl ?_; repeat (first | refine jo_cons ?_ | (refine jo_iso ?_; first | (refine jo_isbin ?_; first | refine jo_v (by first | exact pv_add rfl rfl (by omega) | exact pv_sub rfl rfl (by omega)) rfl ?_ | refine jo_pure tab_ok rfl rfl ?_ | refine jo_v (by first | exact pv_ptr_eq tab_ok rfl rfl rfl | exact pv_ptr_ne tab_ok rfl rfl rfl) rfl ?_) | refine jo_pure tab_ok rfl rfl ?_ | refine jo_want rfl ?_ | refine jo_skip rfl rfl ?_ | refine jo_load tab_ok rfl rfl rfl (by first | ((repeat first | exact Rd.here rfl | refine Rd.there ?_); done) | assumption) rfl ?_) | refine jo_nil ?_ | refine jc_seq ?_ | refine jc_skip ?_ | refine jc_region ?_ | refine jc_block ?_ | refine jc_ret ?_ | refine jc_exit ?_ | refine jx_then ?_ | refine jx_then_exit ?_ | refine jx_then_ret ?_ | refine jx_block ?_ | refine jx_block_ret ?_ | refine jx_block_hit ?_ | refine jx_block_miss rfl ?_ | refine jc_true rfl ?_ | refine jc_false rfl ?_))
        refine j_close [5, 3, 2, 0, 2] rfl (shelf_shut hqn hsh) ?_
        refine j_nm rfl ?_
        refine j_close [3, 3, 3, 3, 0, 2] rfl (spc_shut hro hq) ?_
        refine j_ret [0] [1, 1] rfl (.inr (.inr ⟨n, k, sh, rfl, hsh, ht', rfl, ?_⟩)) ⟨rfl, rfl⟩
        simp only [giveS, hf, Bool.false_and, Bool.false_eq_true, if_false]
        rfl
      | true =>
        rw [hf] at hv
        subst hv
        rw [hae]
        (refine j_nm rfl ?_; repeat (first | refine jo_cons ?_ | (refine jo_iso ?_; first | (refine jo_isbin ?_; first | refine jo_v (by first | exact pv_add rfl rfl (by omega) | exact pv_sub rfl rfl (by omega)) rfl ?_ | refine jo_pure tab_ok rfl rfl ?_ | refine jo_v (by first | exact pv_ptr_eq tab_ok rfl rfl rfl | exact pv_ptr_ne tab_ok rfl rfl rfl) rfl ?_) | refine jo_pure tab_ok rfl rfl ?_ | refine jo_want rfl ?_ | refine jo_skip rfl rfl ?_ | refine jo_load tab_ok rfl rfl rfl (by first | ((repeat first | exact Rd.here rfl | refine Rd.there ?_); done) | assumption) rfl ?_) | refine jo_nil ?_ | refine jc_seq ?_ | refine jc_skip ?_ | refine jc_region ?_ | refine jc_block ?_ | refine jc_ret ?_ | refine jc_exit ?_ | refine jx_then ?_ | refine jx_then_exit ?_ | refine jx_then_ret ?_ | refine jx_block ?_ | refine jx_block_ret ?_ | refine jx_block_hit ?_ | refine jx_block_miss rfl ?_ | refine jc_true rfl ?_ | refine jc_false rfl ?_))
        refine jo_call [6, 9] (elder_tri hw n k hn8 hk) ent42 rfl ⟨rfl, rfl⟩ rfl ?_
        rintro v B ⟨hv, rfl⟩
        cases hel : eldB was n k with
        | true =>
          rw [hel] at hv
          subst hv
          (refine j_nm rfl ?_; repeat (first | refine jo_cons ?_ | (refine jo_iso ?_; first | (refine jo_isbin ?_; first | refine jo_v (by first | exact pv_add rfl rfl (by omega) | exact pv_sub rfl rfl (by omega)) rfl ?_ | refine jo_pure tab_ok rfl rfl ?_ | refine jo_v (by first | exact pv_ptr_eq tab_ok rfl rfl rfl | exact pv_ptr_ne tab_ok rfl rfl rfl) rfl ?_) | refine jo_pure tab_ok rfl rfl ?_ | refine jo_want rfl ?_ | refine jo_skip rfl rfl ?_ | refine jo_load tab_ok rfl rfl rfl (by first | ((repeat first | exact Rd.here rfl | refine Rd.there ?_); done) | assumption) rfl ?_) | refine jo_nil ?_ | refine jc_seq ?_ | refine jc_skip ?_ | refine jc_region ?_ | refine jc_block ?_ | refine jc_ret ?_ | refine jc_exit ?_ | refine jx_then ?_ | refine jx_then_exit ?_ | refine jx_then_ret ?_ | refine jx_block ?_ | refine jx_block_ret ?_ | refine jx_block_hit ?_ | refine jx_block_miss rfl ?_ | refine jc_true rfl ?_ | refine jc_false rfl ?_))
          refine jo_buildSlice tab_ok (cs := [I k]) rfl rfl rfl rfl rfl rfl (by first | (simp [Instr.fill]; done) | simp [Instr.fill, Value.cells]) rfl fun bB => ?_
          (refine j_nm rfl ?_; repeat (first | refine jo_cons ?_ | (refine jo_iso ?_; first | (refine jo_isbin ?_; first | refine jo_v (by first | exact pv_add rfl rfl (by omega) | exact pv_sub rfl rfl (by omega)) rfl ?_ | refine jo_pure tab_ok rfl rfl ?_ | refine jo_v (by first | exact pv_ptr_eq tab_ok rfl rfl rfl | exact pv_ptr_ne tab_ok rfl rfl rfl) rfl ?_) | refine jo_pure tab_ok rfl rfl ?_ | refine jo_want rfl ?_ | refine jo_skip rfl rfl ?_ | refine jo_load tab_ok rfl rfl rfl (by first | ((repeat first | exact Rd.here rfl | refine Rd.there ?_); done) | assumption) rfl ?_) | refine jo_nil ?_ | refine jc_seq ?_ | refine jc_skip ?_ | refine jc_region ?_ | refine jc_block ?_ | refine jc_ret ?_ | refine jc_exit ?_ | refine jx_then ?_ | refine jx_then_exit ?_ | refine jx_then_ret ?_ | refine jx_block ?_ | refine jx_block_ret ?_ | refine jx_block_hit ?_ | refine jx_block_miss rfl ?_ | refine jc_true rfl ?_ | refine jc_false rfl ?_))
          refine jo_call [7, 0] (set_one hkg) ent36 rfl ⟨rfl, rfl⟩ rfl ?_
          rintro v B ⟨rfl, rfl⟩
          (refine j_nm rfl ?_; repeat (first | refine jo_cons ?_ | (refine jo_iso ?_; first | (refine jo_isbin ?_; first | refine jo_v (by first | exact pv_add rfl rfl (by omega) | exact pv_sub rfl rfl (by omega)) rfl ?_ | refine jo_pure tab_ok rfl rfl ?_ | refine jo_v (by first | exact pv_ptr_eq tab_ok rfl rfl rfl | exact pv_ptr_ne tab_ok rfl rfl rfl) rfl ?_) | refine jo_pure tab_ok rfl rfl ?_ | refine jo_want rfl ?_ | refine jo_skip rfl rfl ?_ | refine jo_load tab_ok rfl rfl rfl (by first | ((repeat first | exact Rd.here rfl | refine Rd.there ?_); done) | assumption) rfl ?_) | refine jo_nil ?_ | refine jc_seq ?_ | refine jc_skip ?_ | refine jc_region ?_ | refine jc_block ?_ | refine jc_ret ?_ | refine jc_exit ?_ | refine jx_then ?_ | refine jx_then_exit ?_ | refine jx_then_ret ?_ | refine jx_block ?_ | refine jx_block_ret ?_ | refine jx_block_hit ?_ | refine jx_block_miss rfl ?_ | refine jc_true rfl ?_ | refine jc_false rfl ?_))
          refine j_close [7, 5, 4, 0, 4] rfl (shelf_shut hqn hsh) ?_
          refine j_nm rfl ?_
          refine j_close [2, 4, 4, 4, 0, 1] rfl (spc_shut hro hq) ?_
          refine j_ret [0] [1, 1] rfl (.inr (.inr ⟨n, k, sh, rfl, hsh, ht', rfl, ?_⟩)) ⟨rfl, rfl⟩
          simp only [giveS, hf, hel, Bool.not_true, Bool.and_false, Bool.false_eq_true, if_false]
          rfl
        | false =>
          rw [hel] at hv
          subst hv
          (refine j_nm rfl ?_; repeat (first | refine jo_cons ?_ | (refine jo_iso ?_; first | (refine jo_isbin ?_; first | refine jo_v (by first | exact pv_add rfl rfl (by omega) | exact pv_sub rfl rfl (by omega)) rfl ?_ | refine jo_pure tab_ok rfl rfl ?_ | refine jo_v (by first | exact pv_ptr_eq tab_ok rfl rfl rfl | exact pv_ptr_ne tab_ok rfl rfl rfl) rfl ?_) | refine jo_pure tab_ok rfl rfl ?_ | refine jo_want rfl ?_ | refine jo_skip rfl rfl ?_ | refine jo_load tab_ok rfl rfl rfl (by first | ((repeat first | exact Rd.here rfl | refine Rd.there ?_); done) | assumption) rfl ?_) | refine jo_nil ?_ | refine jc_seq ?_ | refine jc_skip ?_ | refine jc_region ?_ | refine jc_block ?_ | refine jc_ret ?_ | refine jc_exit ?_ | refine jx_then ?_ | refine jx_then_exit ?_ | refine jx_then_ret ?_ | refine jx_block ?_ | refine jx_block_ret ?_ | refine jx_block_hit ?_ | refine jx_block_miss rfl ?_ | refine jc_true rfl ?_ | refine jc_false rfl ?_))
          refine jo_buildSlice tab_ok (cs := [I k]) rfl rfl rfl rfl rfl rfl (by first | (simp [Instr.fill]; done) | simp [Instr.fill, Value.cells]) rfl fun bB => ?_
          (refine j_nm rfl ?_; repeat (first | refine jo_cons ?_ | (refine jo_iso ?_; first | (refine jo_isbin ?_; first | refine jo_v (by first | exact pv_add rfl rfl (by omega) | exact pv_sub rfl rfl (by omega)) rfl ?_ | refine jo_pure tab_ok rfl rfl ?_ | refine jo_v (by first | exact pv_ptr_eq tab_ok rfl rfl rfl | exact pv_ptr_ne tab_ok rfl rfl rfl) rfl ?_) | refine jo_pure tab_ok rfl rfl ?_ | refine jo_want rfl ?_ | refine jo_skip rfl rfl ?_ | refine jo_load tab_ok rfl rfl rfl (by first | ((repeat first | exact Rd.here rfl | refine Rd.there ?_); done) | assumption) rfl ?_) | refine jo_nil ?_ | refine jc_seq ?_ | refine jc_skip ?_ | refine jc_region ?_ | refine jc_block ?_ | refine jc_ret ?_ | refine jc_exit ?_ | refine jx_then ?_ | refine jx_then_exit ?_ | refine jx_then_ret ?_ | refine jx_block ?_ | refine jx_block_ret ?_ | refine jx_block_hit ?_ | refine jx_block_miss rfl ?_ | refine jc_true rfl ?_ | refine jc_false rfl ?_))
          refine jo_call [3, 0] (clear_one hkf) ent41 rfl ⟨rfl, rfl⟩ rfl ?_
          rintro v B ⟨rfl, rfl⟩
          (refine j_nm rfl ?_; repeat (first | refine jo_cons ?_ | (refine jo_iso ?_; first | (refine jo_isbin ?_; first | refine jo_v (by first | exact pv_add rfl rfl (by omega) | exact pv_sub rfl rfl (by omega)) rfl ?_ | refine jo_pure tab_ok rfl rfl ?_ | refine jo_v (by first | exact pv_ptr_eq tab_ok rfl rfl rfl | exact pv_ptr_ne tab_ok rfl rfl rfl) rfl ?_) | refine jo_pure tab_ok rfl rfl ?_ | refine jo_want rfl ?_ | refine jo_skip rfl rfl ?_ | refine jo_load tab_ok rfl rfl rfl (by first | ((repeat first | exact Rd.here rfl | refine Rd.there ?_); done) | assumption) rfl ?_) | refine jo_nil ?_ | refine jc_seq ?_ | refine jc_skip ?_ | refine jc_region ?_ | refine jc_block ?_ | refine jc_ret ?_ | refine jc_exit ?_ | refine jx_then ?_ | refine jx_then_exit ?_ | refine jx_then_ret ?_ | refine jx_block ?_ | refine jx_block_ret ?_ | refine jx_block_hit ?_ | refine jx_block_miss rfl ?_ | refine jc_true rfl ?_ | refine jc_false rfl ?_))
          refine j_close [6, 4, 0, 4, 4] rfl (shelf_shut hqn hsh) ?_
          refine j_nm rfl ?_
          refine j_close [2, 4, 4, 4, 0, 1] rfl (spc_shut hro hq) ?_
          refine j_ret [0] [1, 1] rfl (.inr (.inr ⟨n, k, sh, rfl, hsh, ht', rfl, ?_⟩)) ⟨rfl, rfl⟩
          simp only [giveS, hf, hel, Bool.not_false, Bool.and_true, if_true]
          rfl
theorem has_tri8 {A : Assn} {xs : List Int} {v0 : Value} (hro : Ro A 1 v0 (xs.map I)) (a : Int) : Tri Tryd.prog 19 [v0, I a] [A] fun v B => v = .bool (decide (a ∈ xs)) ∧ B = [A] := by
  obtain ⟨base, len, cap, rfl, hlen, hlm, hor⟩ := hro
  simp only [List.length_map, Nat.mul_one, maxLen] at hlen hlm
  refine tri_introX Tryd.func19 rfl Tryd.ntmps19 rfl fun E X => ?_
  (refine j_nm rfl ?_; repeat (first | refine jo_cons ?_ | (refine jo_iso ?_; first | (refine jo_isbin ?_; first | refine jo_v (by first | exact pv_add rfl rfl (by omega) | exact pv_sub rfl rfl (by omega)) rfl ?_ | refine jo_pure tab_ok rfl rfl ?_ | refine jo_v (by first | exact pv_ptr_eq tab_ok rfl rfl rfl | exact pv_ptr_ne tab_ok rfl rfl rfl) rfl ?_) | refine jo_pure tab_ok rfl rfl ?_ | refine jo_want rfl ?_ | refine jo_skip rfl rfl ?_ | refine jo_load tab_ok rfl rfl rfl (by first | ((repeat first | exact Rd.here rfl | refine Rd.there ?_); done) | assumption) rfl ?_) | refine jo_nil ?_ | refine jc_seq ?_ | refine jc_skip ?_ | refine jc_region ?_ | refine jc_block ?_ | refine jc_ret ?_ | refine jc_exit ?_ | refine jx_then ?_ | refine jx_then_exit ?_ | refine jx_then_ret ?_ | refine jx_block ?_ | refine jx_block_ret ?_ | refine jx_block_hit ?_ | refine jx_block_miss rfl ?_ | refine jc_true rfl ?_ | refine jc_false rfl ?_))
  refine jc_loop (ι := Nat) (fun i => [(9, I i), (8, I len), (7, .slice base len cap), (1, I a)]) (fun _ => A :: [X]) (fun i => i ≤ len ∧ a ∉ xs.take i) (fun i => len - i) 0 [] [] ⟨Nat.zero_le _, by simp⟩ ⟨rfl, rfl, rfl, rfl, trivial⟩ rfl ?_
  rintro i ⟨hi, hno⟩
  (refine j_nm rfl ?_; repeat (first | refine jo_cons ?_ | (refine jo_iso ?_; first | (refine jo_isbin ?_; first | refine jo_v (by first | exact pv_add rfl rfl (by omega) | exact pv_sub rfl rfl (by omega)) rfl ?_ | refine jo_pure tab_ok rfl rfl ?_ | refine jo_v (by first | exact pv_ptr_eq tab_ok rfl rfl rfl | exact pv_ptr_ne tab_ok rfl rfl rfl) rfl ?_) | refine jo_pure tab_ok rfl rfl ?_ | refine jo_want rfl ?_ | refine jo_skip rfl rfl ?_ | refine jo_load tab_ok rfl rfl rfl (by first | ((repeat first | exact Rd.here rfl | refine Rd.there ?_); done) | assumption) rfl ?_) | refine jo_nil ?_ | refine jc_seq ?_ | refine jc_skip ?_ | refine jc_region ?_ | refine jc_block ?_ | refine jc_ret ?_ | refine jc_exit ?_ | refine jx_then ?_ | refine jx_then_exit ?_ | refine jx_then_ret ?_ | refine jx_block ?_ | refine jx_block_ret ?_ | refine jx_block_hit ?_ | refine jx_block_miss rfl ?_ | refine jc_true rfl ?_ | refine jc_false rfl ?_))
  refine jc_dec rfl (fun h => ?_) (fun h => ?_)
  · have hi' : i < len := by omega
    have hix : i < xs.length := by omega
    obtain ⟨b, o, rfl, hrd⟩ := hor.resolve_left (by omega)
    (refine j_nm rfl ?_; repeat (first | refine jo_cons ?_ | (refine jo_iso ?_; first | (refine jo_isbin ?_; first | refine jo_v (by first | exact pv_add rfl rfl (by omega) | exact pv_sub rfl rfl (by omega)) rfl ?_ | refine jo_pure tab_ok rfl rfl ?_ | refine jo_v (by first | exact pv_ptr_eq tab_ok rfl rfl rfl | exact pv_ptr_ne tab_ok rfl rfl rfl) rfl ?_) | refine jo_pure tab_ok rfl rfl ?_ | refine jo_want rfl ?_ | refine jo_skip rfl rfl ?_ | refine jo_load tab_ok rfl rfl rfl (by first | ((repeat first | exact Rd.here rfl | refine Rd.there ?_); done) | assumption) rfl ?_) | refine jo_nil ?_ | refine jc_seq ?_ | refine jc_skip ?_ | refine jc_region ?_ | refine jc_block ?_ | refine jc_ret ?_ | refine jc_exit ?_ | refine jx_then ?_ | refine jx_then_exit ?_ | refine jx_then_ret ?_ | refine jx_block ?_ | refine jx_block_ret ?_ | refine jx_block_hit ?_ | refine jx_block_miss rfl ?_ | refine jc_true rfl ?_ | refine jc_false rfl ?_))
    refine jo_v (pv_index1 tab_ok i rfl rfl rfl rfl rfl rfl rfl hi') rfl (jo_cons ?_)
    refine jo_load tab_ok rfl rfl rfl ((hrd _).one (k := i) (v := I xs[i]) (by rw [List.getElem?_map, List.getElem?_eq_getElem hix]; rfl)) rfl ?_
    (refine j_nm rfl ?_; repeat (first | refine jo_cons ?_ | (refine jo_iso ?_; first | (refine jo_isbin ?_; first | refine jo_v (by first | exact pv_add rfl rfl (by omega) | exact pv_sub rfl rfl (by omega)) rfl ?_ | refine jo_pure tab_ok rfl rfl ?_ | refine jo_v (by first | exact pv_ptr_eq tab_ok rfl rfl rfl | exact pv_ptr_ne tab_ok rfl rfl rfl) rfl ?_) | refine jo_pure tab_ok rfl rfl ?_ | refine jo_want rfl ?_ | refine jo_skip rfl rfl ?_ | refine jo_load tab_ok rfl rfl rfl (by first | ((repeat first | exact Rd.here rfl | refine Rd.there ?_); done) | assumption) rfl ?_) | refine jo_nil ?_ | refine jc_seq ?_ | refine jc_skip ?_ | refine jc_region ?_ | refine jc_block ?_ | refine jc_ret ?_ | refine jc_exit ?_ | refine jx_then ?_ | refine jx_then_exit ?_ | refine jx_then_ret ?_ | refine jx_block ?_ | refine jx_block_ret ?_ | refine jx_block_hit ?_ | refine jx_block_miss rfl ?_ | refine jc_true rfl ?_ | refine jc_false rfl ?_))
    refine jc_beq rfl (fun he => ?_) (fun hne => ?_)
    · (refine j_nm rfl ?_; repeat (first | refine jo_cons ?_ | (refine jo_iso ?_; first | (refine jo_isbin ?_; first | refine jo_v (by first | exact pv_add rfl rfl (by omega) | exact pv_sub rfl rfl (by omega)) rfl ?_ | refine jo_pure tab_ok rfl rfl ?_ | refine jo_v (by first | exact pv_ptr_eq tab_ok rfl rfl rfl | exact pv_ptr_ne tab_ok rfl rfl rfl) rfl ?_) | refine jo_pure tab_ok rfl rfl ?_ | refine jo_want rfl ?_ | refine jo_skip rfl rfl ?_ | refine jo_load tab_ok rfl rfl rfl (by first | ((repeat first | exact Rd.here rfl | refine Rd.there ?_); done) | assumption) rfl ?_) | refine jo_nil ?_ | refine jc_seq ?_ | refine jc_skip ?_ | refine jc_region ?_ | refine jc_block ?_ | refine jc_ret ?_ | refine jc_exit ?_ | refine jx_then ?_ | refine jx_then_exit ?_ | refine jx_then_ret ?_ | refine jx_block ?_ | refine jx_block_ret ?_ | refine jx_block_hit ?_ | refine jx_block_miss rfl ?_ | refine jc_true rfl ?_ | refine jc_false rfl ?_))
      refine j_ret [0] [] rfl ⟨?_, rfl⟩ ⟨rfl, rfl⟩
      have : a ∈ xs := by rw [← he]; exact List.getElem_mem hix
      simp [this]
    · (refine j_nm rfl ?_; repeat (first | refine jo_cons ?_ | (refine jo_iso ?_; first | (refine jo_isbin ?_; first | refine jo_v (by first | exact pv_add rfl rfl (by omega) | exact pv_sub rfl rfl (by omega)) rfl ?_ | refine jo_pure tab_ok rfl rfl ?_ | refine jo_v (by first | exact pv_ptr_eq tab_ok rfl rfl rfl | exact pv_ptr_ne tab_ok rfl rfl rfl) rfl ?_) | refine jo_pure tab_ok rfl rfl ?_ | refine jo_want rfl ?_ | refine jo_skip rfl rfl ?_ | refine jo_load tab_ok rfl rfl rfl (by first | ((repeat first | exact Rd.here rfl | refine Rd.there ?_); done) | assumption) rfl ?_) | refine jo_nil ?_ | refine jc_seq ?_ | refine jc_skip ?_ | refine jc_region ?_ | refine jc_block ?_ | refine jc_ret ?_ | refine jc_exit ?_ | refine jx_then ?_ | refine jx_then_exit ?_ | refine jx_then_ret ?_ | refine jx_block ?_ | refine jx_block_ret ?_ | refine jx_block_hit ?_ | refine jx_block_miss rfl ?_ | refine jc_true rfl ?_ | refine jc_false rfl ?_))
      refine jx_round (i + 1) [] [] ⟨hi', fun hm => ?_⟩ (by omega) ⟨rfl, rfl, rfl, rfl, trivial⟩ rfl
      rw [List.take_succ_eq_append_getElem hix] at hm
      rcases List.mem_append.1 hm with hm | hm
      · exact hno hm
      · simp only [List.mem_singleton] at hm
        exact hne hm.symm
  · (refine j_nm rfl ?_; repeat (first | refine jo_cons ?_ | (refine jo_iso ?_; first | (refine jo_isbin ?_; first | refine jo_v (by first | exact pv_add rfl rfl (by omega) | exact pv_sub rfl rfl (by omega)) rfl ?_ | refine jo_pure tab_ok rfl rfl ?_ | refine jo_v (by first | exact pv_ptr_eq tab_ok rfl rfl rfl | exact pv_ptr_ne tab_ok rfl rfl rfl) rfl ?_) | refine jo_pure tab_ok rfl rfl ?_ | refine jo_want rfl ?_ | refine jo_skip rfl rfl ?_ | refine jo_load tab_ok rfl rfl rfl (by first | ((repeat first | exact Rd.here rfl | refine Rd.there ?_); done) | assumption) rfl ?_) | refine jo_nil ?_ | refine jc_seq ?_ | refine jc_skip ?_ | refine jc_region ?_ | refine jc_block ?_ | refine jc_ret ?_ | refine jc_exit ?_ | refine jx_then ?_ | refine jx_then_exit ?_ | refine jx_then_ret ?_ | refine jx_block ?_ | refine jx_block_ret ?_ | refine jx_block_hit ?_ | refine jx_block_miss rfl ?_ | refine jc_true rfl ?_ | refine jc_false rfl ?_))
    refine j_ret [0] [] rfl ⟨?_, rfl⟩ ⟨rfl, rfl⟩
    have hkl : xs.take i = xs := List.take_of_length_le (by omega)
    rw [hkl] at hno
    simp [hno]
end S14
end Go.Proofs.YtejaonodaplbhaaDoor
