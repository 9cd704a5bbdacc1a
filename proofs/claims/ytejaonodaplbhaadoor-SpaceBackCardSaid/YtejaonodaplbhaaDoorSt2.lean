import Derived.Test.YtejaonodaplbhaaDoorSt1
namespace Go.Proofs.YtejaonodaplbhaaDoor
namespace St2
open Go Go.Proofs.YtejaonodaplbhaaDoor.Hp Sp S2 S3 S4 S5 S6 S7 S8 S9 S10 S14 S15 Rb1 Rb2 Rb3 Rb4 Rb5 Rb6 Pb Pc Pd
set_option maxRecDepth 10000
set_option linter.unusedVariables false
set_option linter.unusedSimpArgs false
attribute [local irreducible] wpList Code.wp wpAny wpAnyK
def tab : Tab := [
  ⟨43, .struct [(0, 3), (1, 3)], 2, 16, [.int .i64 0, .int .i64 0]⟩,
  ⟨27, .slice 43, 1, 24, [.slice none 0 0]⟩,
  ⟨94, .struct [(0, 3), (1, 3)], 2, 16, [.int .i64 0, .int .i64 0]⟩,
  ⟨59, .slice 94, 1, 24, [.slice none 0 0]⟩,
  ⟨61, .struct [(0, 27), (1, 59), (2, 27), (3, 59), (4, 4)], 5, 104, [.slice none 0 0, .slice none 0 0, .slice none 0 0, .slice none 0 0, .bool false]⟩,
  ⟨58, .pointer 61, 1, 8, [.pointer none]⟩,
  ⟨3, .int .i64, 1, 8, [.int .i64 0]⟩,
  ⟨4, .bool, 1, 1, [.bool false]⟩,
  ⟨47, .slice 3, 1, 24, [.slice none 0 0]⟩,
  ⟨30, .iface, 1, 16, [.nilIface]⟩,
  ⟨35, .struct [(0, 33)], 1, 24, [.slice none 0 0]⟩,
  ⟨33, .slice 51, 1, 24, [.slice none 0 0]⟩,
  ⟨51, .struct [(0, 3), (1, 3)], 2, 16, [.int .i64 0, .int .i64 0]⟩,
  ⟨28, .pointer 73, 1, 8, [.pointer none]⟩,
  ⟨73, .struct [(0, 68), (1, 68)], 2, 16, [.pointer none, .pointer none]⟩,
  ⟨76, .int .i64, 1, 8, [.int .i64 0]⟩]
theorem tab_43 : TE.ok Tryd.prog ⟨43, .struct [(0, 3), (1, 3)], 2, 16, [.int .i64 0, .int .i64 0]⟩ := ⟨by kernel_rfl, by kernel_rfl, by kernel_rfl, by kernel_rfl⟩
theorem tab_27 : TE.ok Tryd.prog ⟨27, .slice 43, 1, 24, [.slice none 0 0]⟩ := ⟨by kernel_rfl, by kernel_rfl, by kernel_rfl, by kernel_rfl⟩
theorem tab_94 : TE.ok Tryd.prog ⟨94, .struct [(0, 3), (1, 3)], 2, 16, [.int .i64 0, .int .i64 0]⟩ := ⟨by kernel_rfl, by kernel_rfl, by kernel_rfl, by kernel_rfl⟩
theorem tab_59 : TE.ok Tryd.prog ⟨59, .slice 94, 1, 24, [.slice none 0 0]⟩ := ⟨by kernel_rfl, by kernel_rfl, by kernel_rfl, by kernel_rfl⟩
theorem tab_61 : TE.ok Tryd.prog ⟨61, .struct [(0, 27), (1, 59), (2, 27), (3, 59), (4, 4)], 5, 104, [.slice none 0 0, .slice none 0 0, .slice none 0 0, .slice none 0 0, .bool false]⟩ := ⟨by kernel_rfl, by kernel_rfl, by kernel_rfl, by kernel_rfl⟩
theorem tab_58 : TE.ok Tryd.prog ⟨58, .pointer 61, 1, 8, [.pointer none]⟩ := ⟨by kernel_rfl, by kernel_rfl, by kernel_rfl, by kernel_rfl⟩
theorem tab_3 : TE.ok Tryd.prog ⟨3, .int .i64, 1, 8, [.int .i64 0]⟩ := ⟨by kernel_rfl, by kernel_rfl, by kernel_rfl, by kernel_rfl⟩
theorem tab_4 : TE.ok Tryd.prog ⟨4, .bool, 1, 1, [.bool false]⟩ := ⟨by kernel_rfl, by kernel_rfl, by kernel_rfl, by kernel_rfl⟩
theorem tab_47 : TE.ok Tryd.prog ⟨47, .slice 3, 1, 24, [.slice none 0 0]⟩ := ⟨by kernel_rfl, by kernel_rfl, by kernel_rfl, by kernel_rfl⟩
theorem tab_30 : TE.ok Tryd.prog ⟨30, .iface, 1, 16, [.nilIface]⟩ := ⟨by kernel_rfl, by kernel_rfl, by kernel_rfl, by kernel_rfl⟩
theorem tab_35 : TE.ok Tryd.prog ⟨35, .struct [(0, 33)], 1, 24, [.slice none 0 0]⟩ := ⟨by kernel_rfl, by kernel_rfl, by kernel_rfl, by kernel_rfl⟩
theorem tab_33 : TE.ok Tryd.prog ⟨33, .slice 51, 1, 24, [.slice none 0 0]⟩ := ⟨by kernel_rfl, by kernel_rfl, by kernel_rfl, by kernel_rfl⟩
theorem tab_51 : TE.ok Tryd.prog ⟨51, .struct [(0, 3), (1, 3)], 2, 16, [.int .i64 0, .int .i64 0]⟩ := ⟨by kernel_rfl, by kernel_rfl, by kernel_rfl, by kernel_rfl⟩
theorem tab_28 : TE.ok Tryd.prog ⟨28, .pointer 73, 1, 8, [.pointer none]⟩ := ⟨by kernel_rfl, by kernel_rfl, by kernel_rfl, by kernel_rfl⟩
theorem tab_73 : TE.ok Tryd.prog ⟨73, .struct [(0, 68), (1, 68)], 2, 16, [.pointer none, .pointer none]⟩ := ⟨by kernel_rfl, by kernel_rfl, by kernel_rfl, by kernel_rfl⟩
theorem tab_76 : TE.ok Tryd.prog ⟨76, .int .i64, 1, 8, [.int .i64 0]⟩ := ⟨by kernel_rfl, by kernel_rfl, by kernel_rfl, by kernel_rfl⟩
theorem tab_ok : tab.ok Tryd.prog := by
  intro e he
  simp only [tab, List.mem_cons, List.not_mem_nil, or_false] at he
  rcases he with rfl | rfl | rfl | rfl | rfl | rfl | rfl | rfl | rfl | rfl | rfl | rfl | rfl | rfl | rfl | rfl
  · exact tab_43
  · exact tab_27
  · exact tab_94
  · exact tab_59
  · exact tab_61
  · exact tab_58
  · exact tab_3
  · exact tab_4
  · exact tab_47
  · exact tab_30
  · exact tab_35
  · exact tab_33
  · exact tab_51
  · exact tab_28
  · exact tab_73
  · exact tab_76

theorem ent30 : Enters Tryd.prog 30 := ⟨_, _, Tryd.func30, by kernel_rfl, rfl⟩
theorem ent18 : Enters Tryd.prog 18 := ⟨_, _, Tryd.func18, by kernel_rfl, rfl⟩
theorem ent25 : Enters Tryd.prog 25 := ⟨_, _, Tryd.func25, by kernel_rfl, rfl⟩

theorem pv_neql_f {P : Program} {l : Fr} {t u : TypeId} {x y : Operand} {a b : Int} (hx : ev l x = some (I a)) (hy : ev l y = some (I b)) (h : a = b) : PV P l (.binOp .neq t x y u) (.bool false) :=
  pv_bin hx hy fun w => binV_sound (show binV .neq (I a) (I b) = some (.bool false) by subst h; simp [binV]) t x y w
abbrev OH (A : Assn) (p x : Nat) (rv : Value) (es : List Ent) (ss : List Shl) (ms : List Ent) : Value → List Assn → Prop := fun v B => v = .bool true ∧ B = [Spc p es ss none, Rsp x rv ms, A]
abbrev QH (E : World) (A : Assn) (p x : Nat) (rv : Value) (es : List Ent) (ss : List Shl) (ms : List Ent) (F : List Assn) : Exit → Act → World → Prop := bodyPost Tryd.prog Tryd.f30 (ends E (OH A p x rv es ss ms) F)
abbrev IH (rb : Option Addr) (rn rc p x : Nat) (i : Nat) : Fr := [(30, I i), (29, I rn), (28, .slice rb rn rc), (0, ptr p), (1, ptr x)]
abbrev AH (A X : Assn) (p x : Nat) (rv : Value) (es : List Ent) (ss : List Shl) (ms : List Ent) (rb : Option Addr) (rn rc : Nat) (_ : Nat) : List Assn := [sl 51 2 (.slice rb rn rc) (ecells es), Spc p es ss none, Rsp x rv ms, A, X]
abbrev RH (E : World) (A X : Assn) (p x : Nat) (rv : Value) (es : List Ent) (ss : List Shl) (ms : List Ent) (rb : Option Addr) (rn rc kk : Nat) : Act → World → Prop :=
  Rnd E 104 (IH rb rn rc p x) (AH A X p x rv es ss ms rb rn rc) (fun i => i ≤ rn) (fun i => rn - i) kk
set_option maxHeartbeats 4000000 in
theorem q11 {A : Assn} (hA : Tz A) (E : World) (X : Assn) {p x : Nat} {rv : Value} {es ms : List Ent} {ss : List Shl} (hro : Ro A 2 rv (ecells es)) (h : Rel es ss ms) {rb : Option Addr} {rn rc kk i : Nat} (hrn : rn ≤ 1000) (hi : i < rn) (hkk : rn - (i + 1) < kk) :
    J E (here Tryd.prog [.r, .r, .r, .r, .l, .r, .b, .body (RH E A X p x rv es ss ms rb rn rc kk), .r, .r, .l, .b, .r, .r] Tryd.f30 (QH E A p x rv es ss ms [X])) 104 [(6, I i), (30, I i), (29, I rn), (28, .slice rb rn rc), (0, ptr p), (1, ptr x)]
      [Spc p es ss none, sl 51 2 (.slice rb rn rc) (ecells es), Rsp x rv ms, A, X] := by
  have hok := h.inv.right
  have htk : ∀ a ∈ onS ss (i : Int), takenB es ss a = true := fun a ha => taken_on h ha
  have hon := on_eq h (i : Int)
  refine j_here rfl ?_
  (refine j_nm rfl ?_; repeat (first | refine jo_cons ?_ | (refine jo_iso ?_; first | (refine jo_isbin ?_; first | refine jo_v (by first | exact pv_add rfl rfl (by omega) | exact pv_sub rfl rfl (by omega)) rfl ?_ | refine jo_pure tab_ok rfl rfl ?_) | refine jo_pure tab_ok rfl rfl ?_ | refine jo_want rfl ?_ | refine jo_skip rfl rfl ?_ | refine jo_load tab_ok rfl rfl rfl (by first | ((repeat first | exact Rd.here rfl | refine Rd.there ?_); done) | assumption) rfl ?_) | refine jo_nil ?_ | refine jc_seq ?_ | refine jc_skip ?_ | refine jc_region ?_ | refine jc_block ?_ | refine jc_ret ?_ | refine jc_exit ?_ | refine jx_then ?_ | refine jx_then_exit ?_ | refine jx_then_ret ?_ | refine jx_block ?_ | refine jx_block_ret ?_ | refine jx_block_hit ?_ | refine jx_block_miss rfl ?_ | refine jc_true rfl ?_ | refine jc_false rfl ?_))
  refine jo_call [0, 2] (So1.on_tri hA h.inv i) ent25 rfl ⟨rfl, rfl⟩ rfl ?_
  rintro ov B rfl
  (refine j_nm rfl ?_; repeat (first | refine jo_cons ?_ | (refine jo_iso ?_; first | (refine jo_isbin ?_; first | refine jo_v (by first | exact pv_add rfl rfl (by omega) | exact pv_sub rfl rfl (by omega)) rfl ?_ | refine jo_pure tab_ok rfl rfl ?_) | refine jo_pure tab_ok rfl rfl ?_ | refine jo_want rfl ?_ | refine jo_skip rfl rfl ?_ | refine jo_load tab_ok rfl rfl rfl (by first | ((repeat first | exact Rd.here rfl | refine Rd.there ?_); done) | assumption) rfl ?_) | refine jo_nil ?_ | refine jc_seq ?_ | refine jc_skip ?_ | refine jc_region ?_ | refine jc_block ?_ | refine jc_ret ?_ | refine jc_exit ?_ | refine jx_then ?_ | refine jx_then_exit ?_ | refine jx_then_ret ?_ | refine jx_block ?_ | refine jx_block_ret ?_ | refine jx_block_hit ?_ | refine jx_block_miss rfl ?_ | refine jc_true rfl ?_ | refine jc_false rfl ?_))
  refine jo_call [4, 2] (Rb5.on_tri hro hok i) ent56 rfl ⟨rfl, rfl⟩ rfl ?_
  rintro mv B rfl
  rw [hon]
  generalize onS ss (i : Int) = l at htk
  refine j_nm rfl ?_
  refine j_sl_ro fun hrm => ?_
  obtain ⟨mb, mn, mc, rfl, hml, hmm, hmo⟩ := hrm
  simp only [List.length_map, Nat.mul_one, maxLen] at hml hmm
  refine j_nm rfl ?_
  refine j_front [3] (j_sl_ro fun hrv => ?_)
  obtain ⟨ob, on_, oc, rfl, hol, hom, hoo⟩ := hrv
  simp only [List.length_map, Nat.mul_one, maxLen] at hol hom
  have hnn : on_ = mn := by omega
  subst hnn
  (refine j_nm rfl ?_; repeat (first | refine jo_cons ?_ | (refine jo_iso ?_; first | (refine jo_isbin ?_; first | refine jo_v (by first | exact pv_add rfl rfl (by omega) | exact pv_sub rfl rfl (by omega)) rfl ?_ | refine jo_pure tab_ok rfl rfl ?_) | refine jo_pure tab_ok rfl rfl ?_ | refine jo_want rfl ?_ | refine jo_skip rfl rfl ?_ | refine jo_load tab_ok rfl rfl rfl (by first | ((repeat first | exact Rd.here rfl | refine Rd.there ?_); done) | assumption) rfl ?_) | refine jo_nil ?_ | refine jc_seq ?_ | refine jc_skip ?_ | refine jc_region ?_ | refine jc_block ?_ | refine jc_ret ?_ | refine jc_exit ?_ | refine jx_then ?_ | refine jx_then_exit ?_ | refine jx_then_ret ?_ | refine jx_block ?_ | refine jx_block_ret ?_ | refine jx_block_hit ?_ | refine jx_block_miss rfl ?_ | refine jc_true rfl ?_ | refine jc_false rfl ?_))
  refine jc_bne rfl (fun h1 => absurd rfl h1) (fun _ => ?_)
  (refine j_nm rfl ?_; repeat (first | refine jo_cons ?_ | (refine jo_iso ?_; first | (refine jo_isbin ?_; first | refine jo_v (by first | exact pv_add rfl rfl (by omega) | exact pv_sub rfl rfl (by omega)) rfl ?_ | refine jo_pure tab_ok rfl rfl ?_) | refine jo_pure tab_ok rfl rfl ?_ | refine jo_want rfl ?_ | refine jo_skip rfl rfl ?_ | refine jo_load tab_ok rfl rfl rfl (by first | ((repeat first | exact Rd.here rfl | refine Rd.there ?_); done) | assumption) rfl ?_) | refine jo_nil ?_ | refine jc_seq ?_ | refine jc_skip ?_ | refine jc_region ?_ | refine jc_block ?_ | refine jc_ret ?_ | refine jc_exit ?_ | refine jx_then ?_ | refine jx_then_exit ?_ | refine jx_then_ret ?_ | refine jx_block ?_ | refine jx_block_ret ?_ | refine jx_block_hit ?_ | refine jx_block_miss rfl ?_ | refine jc_true rfl ?_ | refine jc_false rfl ?_))
  refine jc_loop (ι := Nat) (fun j => [(81, I j), (80, I on_), (8, .slice ob on_ oc), (9, .slice mb on_ mc), (30, I i), (29, I rn), (28, .slice rb rn rc), (0, ptr p), (1, ptr x)])
    (fun _ => sl 3 1 (.slice ob on_ oc) (l.map I) :: sl 3 1 (.slice mb on_ mc) (l.map I) :: Rsp x rv ms :: A :: Spc p es ss none :: sl 51 2 (.slice rb rn rc) (ecells es) :: [X]) (fun j => j ≤ on_) (fun j => on_ - j) 0 [] [] (Nat.zero_le _) ⟨rfl, rfl, rfl, rfl, rfl, rfl, rfl, rfl, rfl, trivial⟩ rfl ?_
  intro j hj
  (refine j_nm rfl ?_; repeat (first | refine jo_cons ?_ | (refine jo_iso ?_; first | (refine jo_isbin ?_; first | refine jo_v (by first | exact pv_add rfl rfl (by omega) | exact pv_sub rfl rfl (by omega)) rfl ?_ | refine jo_pure tab_ok rfl rfl ?_) | refine jo_pure tab_ok rfl rfl ?_ | refine jo_want rfl ?_ | refine jo_skip rfl rfl ?_ | refine jo_load tab_ok rfl rfl rfl (by first | ((repeat first | exact Rd.here rfl | refine Rd.there ?_); done) | assumption) rfl ?_) | refine jo_nil ?_ | refine jc_seq ?_ | refine jc_skip ?_ | refine jc_region ?_ | refine jc_block ?_ | refine jc_ret ?_ | refine jc_exit ?_ | refine jx_then ?_ | refine jx_then_exit ?_ | refine jx_then_ret ?_ | refine jx_block ?_ | refine jx_block_ret ?_ | refine jx_block_hit ?_ | refine jx_block_miss rfl ?_ | refine jc_true rfl ?_ | refine jc_false rfl ?_))
  refine jc_dec rfl (fun h2 => ?_) (fun h2 => ?_)
  · have hj' : j < on_ := by omega
    have hjl : j < l.length := by omega
    have ht := htk _ (List.getElem_mem hjl)
    have hcell : (l.map I)[j]? = some (I l[j]) := by rw [List.getElem?_map, List.getElem?_eq_getElem hjl]; rfl
    generalize l[j] = a at ht hcell
    obtain ⟨op, oo, rfl, ro⟩ := hoo.resolve_left (by omega)
    obtain ⟨mp, mq, rfl, rm⟩ := hmo.resolve_left (by omega)
    (refine j_nm rfl ?_; repeat (first | refine jo_cons ?_ | (refine jo_iso ?_; first | (refine jo_isbin ?_; first | refine jo_v (by first | exact pv_add rfl rfl (by omega) | exact pv_sub rfl rfl (by omega)) rfl ?_ | refine jo_pure tab_ok rfl rfl ?_) | refine jo_pure tab_ok rfl rfl ?_ | refine jo_want rfl ?_ | refine jo_skip rfl rfl ?_ | refine jo_load tab_ok rfl rfl rfl (by first | ((repeat first | exact Rd.here rfl | refine Rd.there ?_); done) | assumption) rfl ?_) | refine jo_nil ?_ | refine jc_seq ?_ | refine jc_skip ?_ | refine jc_region ?_ | refine jc_block ?_ | refine jc_ret ?_ | refine jc_exit ?_ | refine jx_then ?_ | refine jx_then_exit ?_ | refine jx_then_ret ?_ | refine jx_block ?_ | refine jx_block_ret ?_ | refine jx_block_hit ?_ | refine jx_block_miss rfl ?_ | refine jc_true rfl ?_ | refine jc_false rfl ?_))
    refine jc_drawh 99 [(op, oo + j, I a), (mp, mq + j, I a)] mo (.cons ((ro _).one hcell) (.cons (Rd.there ((rm _).one hcell)) .nil)) fun hrd => ?_
    refine jh_pure tab_ok 0 rfl (by kernel_rfl) rfl rfl hrd ?_
    refine jh_pure tab_ok 1 rfl (by kernel_rfl) rfl rfl hrd ?_
    refine jh_s 2 rfl (by kernel_rfl) ((pv_index1 tab_ok j rfl rfl rfl rfl rfl rfl rfl hj').ps) rfl hrd ?_
    refine jh_s 3 rfl (by kernel_rfl) (ps_load tab_ok 0 rfl rfl rfl rfl) rfl hrd ?_
    refine jh_pure tab_ok 4 rfl (by kernel_rfl) rfl rfl hrd ?_
    refine jh_one 5 rfl (by kernel_rfl) (jo_pure tab_ok rfl rfl (jh_back hrd fun hrd => ?_))
    refine jh_s 6 rfl (by kernel_rfl) ((pv_index1 tab_ok j rfl rfl rfl rfl rfl rfl rfl hj').ps) rfl hrd ?_
    refine jh_s 7 rfl (by kernel_rfl) (ps_load tab_ok 1 rfl rfl rfl rfl) rfl hrd ?_
    refine jh_s 8 rfl (by kernel_rfl) ((pv_neql_f rfl rfl rfl).ps) rfl hrd ?_
    refine jh_one 9 rfl (by kernel_rfl) (jo_pure tab_ok rfl rfl (jh_back hrd fun hrd => ?_))
    refine jh_pureg tab_ok 10 rfl (by kernel_rfl) rfl rfl rfl hrd ?_
    refine jh_pureg tab_ok 11 rfl (by kernel_rfl) rfl rfl rfl hrd ?_
    refine jh_pureg tab_ok 12 rfl (by kernel_rfl) rfl rfl rfl hrd ?_
    refine jh_sg 13 rfl (by kernel_rfl) rfl ((pv_index1 tab_ok j rfl rfl rfl rfl rfl rfl rfl hj').ps) rfl hrd ?_
    refine jh_sg 14 rfl (by kernel_rfl) rfl (ps_load tab_ok 0 rfl rfl rfl rfl) rfl hrd ?_
    refine jh_one 15 rfl (by kernel_rfl) ?_
    refine jo_want rfl ?_
    refine jo_call [4] (S9.taken_tri h.inv a) ent22 rfl ⟨rfl, rfl⟩ rfl ?_
    rintro v B ⟨rfl, rfl⟩
    rw [ht]
    refine j_nm rfl ?_
    refine jh_back (.cons (Rd.there ((ro _).one hcell)) (.cons (Rd.there (Rd.there ((rm _).one hcell))) .nil)) fun hrd => ?_
    refine jh_pureg tab_ok 16 rfl (by kernel_rfl) rfl rfl rfl hrd ?_
    refine jh_one 17 rfl (by kernel_rfl) (jo_pure tab_ok rfl rfl (jh_back hrd fun hrd => ?_))
    refine jh_done (by kernel_rfl) ?_
    (refine j_nm rfl ?_; repeat (first | refine jo_cons ?_ | (refine jo_iso ?_; first | (refine jo_isbin ?_; first | refine jo_v (by first | exact pv_add rfl rfl (by omega) | exact pv_sub rfl rfl (by omega)) rfl ?_ | refine jo_pure tab_ok rfl rfl ?_) | refine jo_pure tab_ok rfl rfl ?_ | refine jo_want rfl ?_ | refine jo_skip rfl rfl ?_ | refine jo_load tab_ok rfl rfl rfl (by first | ((repeat first | exact Rd.here rfl | refine Rd.there ?_); done) | assumption) rfl ?_) | refine jo_nil ?_ | refine jc_seq ?_ | refine jc_skip ?_ | refine jc_region ?_ | refine jc_block ?_ | refine jc_ret ?_ | refine jc_exit ?_ | refine jx_then ?_ | refine jx_then_exit ?_ | refine jx_then_ret ?_ | refine jx_block ?_ | refine jx_block_ret ?_ | refine jx_block_hit ?_ | refine jx_block_miss rfl ?_ | refine jc_true rfl ?_ | refine jc_false rfl ?_))
    exact jx_round (j + 1) [1, 1, 1, 1, 0, 0] [] hj' (by omega) ⟨rfl, rfl, rfl, rfl, rfl, rfl, rfl, rfl, rfl, trivial⟩ rfl
  · (refine j_nm rfl ?_; repeat (first | refine jo_cons ?_ | (refine jo_iso ?_; first | (refine jo_isbin ?_; first | refine jo_v (by first | exact pv_add rfl rfl (by omega) | exact pv_sub rfl rfl (by omega)) rfl ?_ | refine jo_pure tab_ok rfl rfl ?_) | refine jo_pure tab_ok rfl rfl ?_ | refine jo_want rfl ?_ | refine jo_skip rfl rfl ?_ | refine jo_load tab_ok rfl rfl rfl (by first | ((repeat first | exact Rd.here rfl | refine Rd.there ?_); done) | assumption) rfl ?_) | refine jo_nil ?_ | refine jc_seq ?_ | refine jc_skip ?_ | refine jc_region ?_ | refine jc_block ?_ | refine jc_ret ?_ | refine jc_exit ?_ | refine jx_then ?_ | refine jx_then_exit ?_ | refine jx_then_ret ?_ | refine jx_block ?_ | refine jx_block_ret ?_ | refine jx_block_hit ?_ | refine jx_block_miss rfl ?_ | refine jc_true rfl ?_ | refine jc_false rfl ?_))
    exact jx_rnd (i + 1) [3, 2, 0, 0] [0, 0] hi hkk ⟨rfl, rfl, rfl, rfl, rfl, trivial⟩ rfl
set_option maxHeartbeats 4000000 in
theorem holds_tri {A : Assn} (hA : Tz A) {p x : Nat} {rv : Value} {es ms : List Ent} {ss : List Shl} (hro : Ro A 2 rv (ecells es)) (h : Rel es ss ms) (hb : ms.length ≤ 100000) :
    Tri Tryd.prog 30 [ptr p, ptr x] [Spc p es ss none, Rsp x rv ms, A] (OH A p x rv es ss ms) := by
  have hok := h.inv.right
  have h8 := okR_len hok
  have hnn := h.nonneg
  have hro' := hro
  obtain ⟨base, len, cap, rfl, hlen, hlm, hor⟩ := hro
  rw [ecells_len] at hlen
  have hlen : es.length = len := by omega
  refine tri_introX Tryd.func30 rfl Tryd.ntmps30 rfl fun E X => ?_
  (refine j_nm rfl ?_; repeat (first | refine jo_cons ?_ | (refine jo_iso ?_; first | (refine jo_isbin ?_; first | refine jo_v (by first | exact pv_add rfl rfl (by omega) | exact pv_sub rfl rfl (by omega)) rfl ?_ | refine jo_pure tab_ok rfl rfl ?_) | refine jo_pure tab_ok rfl rfl ?_ | refine jo_want rfl ?_ | refine jo_skip rfl rfl ?_ | refine jo_load tab_ok rfl rfl rfl (by first | ((repeat first | exact Rd.here rfl | refine Rd.there ?_); done) | assumption) rfl ?_) | refine jo_nil ?_ | refine jc_seq ?_ | refine jc_skip ?_ | refine jc_region ?_ | refine jc_block ?_ | refine jc_ret ?_ | refine jc_exit ?_ | refine jx_then ?_ | refine jx_then_exit ?_ | refine jx_then_ret ?_ | refine jx_block ?_ | refine jx_block_ret ?_ | refine jx_block_hit ?_ | refine jx_block_miss rfl ?_ | refine jc_true rfl ?_ | refine jc_false rfl ?_))
  refine jo_call [0] (S9.free8_tri h.inv) ent14 rfl ⟨rfl, rfl⟩ rfl ?_
  rintro v B ⟨rfl, rfl⟩
  (refine j_nm rfl ?_; repeat (first | refine jo_cons ?_ | (refine jo_iso ?_; first | (refine jo_isbin ?_; first | refine jo_v (by first | exact pv_add rfl rfl (by omega) | exact pv_sub rfl rfl (by omega)) rfl ?_ | refine jo_pure tab_ok rfl rfl ?_) | refine jo_pure tab_ok rfl rfl ?_ | refine jo_want rfl ?_ | refine jo_skip rfl rfl ?_ | refine jo_load tab_ok rfl rfl rfl (by first | ((repeat first | exact Rd.here rfl | refine Rd.there ?_); done) | assumption) rfl ?_) | refine jo_nil ?_ | refine jc_seq ?_ | refine jc_skip ?_ | refine jc_region ?_ | refine jc_block ?_ | refine jc_ret ?_ | refine jc_exit ?_ | refine jx_then ?_ | refine jx_then_exit ?_ | refine jx_then_ret ?_ | refine jx_block ?_ | refine jx_block_ret ?_ | refine jx_block_hit ?_ | refine jx_block_miss rfl ?_ | refine jc_true rfl ?_ | refine jc_false rfl ?_))
  refine jo_call [1, 1] (Rb5.free_tri hro' hok (by omega) hnn) ent59 rfl ⟨rfl, rfl⟩ rfl ?_
  rintro v B ⟨rfl, rfl⟩
  rw [sum_eq h]
  (refine j_nm rfl ?_; repeat (first | refine jo_cons ?_ | (refine jo_iso ?_; first | (refine jo_isbin ?_; first | refine jo_v (by first | exact pv_add rfl rfl (by omega) | exact pv_sub rfl rfl (by omega)) rfl ?_ | refine jo_pure tab_ok rfl rfl ?_) | refine jo_pure tab_ok rfl rfl ?_ | refine jo_want rfl ?_ | refine jo_skip rfl rfl ?_ | refine jo_load tab_ok rfl rfl rfl (by first | ((repeat first | exact Rd.here rfl | refine Rd.there ?_); done) | assumption) rfl ?_) | refine jo_nil ?_ | refine jc_seq ?_ | refine jc_skip ?_ | refine jc_region ?_ | refine jc_block ?_ | refine jc_ret ?_ | refine jc_exit ?_ | refine jx_then ?_ | refine jx_then_exit ?_ | refine jx_then_ret ?_ | refine jx_block ?_ | refine jx_block_ret ?_ | refine jx_block_hit ?_ | refine jx_block_miss rfl ?_ | refine jc_true rfl ?_ | refine jc_false rfl ?_))
  refine jc_bne rfl (fun h1 => absurd rfl h1) (fun _ => ?_)
  (refine j_nm rfl ?_; repeat (first | refine jo_cons ?_ | (refine jo_iso ?_; first | (refine jo_isbin ?_; first | refine jo_v (by first | exact pv_add rfl rfl (by omega) | exact pv_sub rfl rfl (by omega)) rfl ?_ | refine jo_pure tab_ok rfl rfl ?_) | refine jo_pure tab_ok rfl rfl ?_ | refine jo_want rfl ?_ | refine jo_skip rfl rfl ?_ | refine jo_load tab_ok rfl rfl rfl (by first | ((repeat first | exact Rd.here rfl | refine Rd.there ?_); done) | assumption) rfl ?_) | refine jo_nil ?_ | refine jc_seq ?_ | refine jc_skip ?_ | refine jc_region ?_ | refine jc_block ?_ | refine jc_ret ?_ | refine jc_exit ?_ | refine jx_then ?_ | refine jx_then_exit ?_ | refine jx_then_ret ?_ | refine jx_block ?_ | refine jx_block_ret ?_ | refine jx_block_hit ?_ | refine jx_block_miss rfl ?_ | refine jc_true rfl ?_ | refine jc_false rfl ?_))
  refine jo_call [2] (S8.roster_tri h8) ent18 rfl ⟨rfl, rfl⟩ rfl ?_
  rintro v B ⟨rw_, rfl, rfl⟩
  refine j_nm rfl ?_
  refine j_sl_ro fun hre => ?_
  obtain ⟨rb, rn, rc, rfl, hrl, hrm, hrr⟩ := hre
  rw [ecells_len] at hrl
  have hrl : es.length = rn := by omega
  have hrn : rn = len := by omega
  subst hrn
  (refine j_nm rfl ?_; repeat (first | refine jo_cons ?_ | (refine jo_iso ?_; first | (refine jo_isbin ?_; first | refine jo_v (by first | exact pv_add rfl rfl (by omega) | exact pv_sub rfl rfl (by omega)) rfl ?_ | refine jo_pure tab_ok rfl rfl ?_) | refine jo_pure tab_ok rfl rfl ?_ | refine jo_want rfl ?_ | refine jo_skip rfl rfl ?_ | refine jo_load tab_ok rfl rfl rfl (by first | ((repeat first | exact Rd.here rfl | refine Rd.there ?_); done) | assumption) rfl ?_) | refine jo_nil ?_ | refine jc_seq ?_ | refine jc_skip ?_ | refine jc_region ?_ | refine jc_block ?_ | refine jc_ret ?_ | refine jc_exit ?_ | refine jx_then ?_ | refine jx_then_exit ?_ | refine jx_then_ret ?_ | refine jx_block ?_ | refine jx_block_ret ?_ | refine jx_block_hit ?_ | refine jx_block_miss rfl ?_ | refine jc_true rfl ?_ | refine jc_false rfl ?_))
  refine jo_alloc tab_ok rfl rfl fun r5 => jo_cons ?_
  refine jo_store1 tab_ok 0 rfl rfl rfl rfl rfl ⟨rfl, rfl⟩ (by simp) ?_
  (refine j_nm rfl ?_; repeat (first | refine jo_cons ?_ | (refine jo_iso ?_; first | (refine jo_isbin ?_; first | refine jo_v (by first | exact pv_add rfl rfl (by omega) | exact pv_sub rfl rfl (by omega)) rfl ?_ | refine jo_pure tab_ok rfl rfl ?_) | refine jo_pure tab_ok rfl rfl ?_ | refine jo_want rfl ?_ | refine jo_skip rfl rfl ?_ | refine jo_load tab_ok rfl rfl rfl (by first | ((repeat first | exact Rd.here rfl | refine Rd.there ?_); done) | assumption) rfl ?_) | refine jo_nil ?_ | refine jc_seq ?_ | refine jc_skip ?_ | refine jc_region ?_ | refine jc_block ?_ | refine jc_ret ?_ | refine jc_exit ?_ | refine jx_then ?_ | refine jx_then_exit ?_ | refine jx_then_ret ?_ | refine jx_block ?_ | refine jx_block_ret ?_ | refine jx_block_hit ?_ | refine jx_block_miss rfl ?_ | refine jc_true rfl ?_ | refine jc_false rfl ?_))
  refine jc_drawh 99 [(r5, 0, .slice rb rn rc), (x, 0, .slice base rn cap)] mo (.cons (by first | ((repeat first | exact Rd.here rfl | refine Rd.there ?_); done) | assumption) (.cons (Rd.there (Rd.there (Rd.there rd_rsp))) .nil)) fun hrd => ?_
  refine jh_pure tab_ok 0 rfl (by kernel_rfl) rfl rfl hrd ?_
  refine jh_s 1 rfl (by kernel_rfl) (ps_load tab_ok 0 rfl rfl rfl rfl) rfl hrd ?_
  refine jh_pure tab_ok 2 rfl (by kernel_rfl) rfl rfl hrd ?_
  refine jh_one 3 rfl (by kernel_rfl) (jo_pure tab_ok rfl rfl (jh_back hrd fun hrd => ?_))
  refine jh_one 4 rfl (by kernel_rfl) (jo_pure tab_ok rfl rfl (jh_back hrd fun hrd => ?_))
  refine jh_one 5 rfl (by kernel_rfl) (jo_pure tab_ok rfl rfl (jh_back hrd fun hrd => ?_))
  refine jh_s 6 rfl (by kernel_rfl) (ps_load tab_ok 1 rfl rfl rfl rfl) rfl hrd ?_
  refine jh_one 7 rfl (by kernel_rfl) (jo_pure tab_ok rfl rfl (jh_back hrd fun hrd => ?_))
  refine jh_one 8 rfl (by kernel_rfl) (jo_pure tab_ok rfl rfl (jh_back hrd fun hrd => ?_))
  refine jh_done (by kernel_rfl) ?_
  (refine j_nm rfl ?_; repeat (first | refine jo_cons ?_ | (refine jo_iso ?_; first | (refine jo_isbin ?_; first | refine jo_v (by first | exact pv_add rfl rfl (by omega) | exact pv_sub rfl rfl (by omega)) rfl ?_ | refine jo_pure tab_ok rfl rfl ?_) | refine jo_pure tab_ok rfl rfl ?_ | refine jo_want rfl ?_ | refine jo_skip rfl rfl ?_ | refine jo_load tab_ok rfl rfl rfl (by first | ((repeat first | exact Rd.here rfl | refine Rd.there ?_); done) | assumption) rfl ?_) | refine jo_nil ?_ | refine jc_seq ?_ | refine jc_skip ?_ | refine jc_region ?_ | refine jc_block ?_ | refine jc_ret ?_ | refine jc_exit ?_ | refine jx_then ?_ | refine jx_then_exit ?_ | refine jx_then_ret ?_ | refine jx_block ?_ | refine jx_block_ret ?_ | refine jx_block_hit ?_ | refine jx_block_miss rfl ?_ | refine jc_true rfl ?_ | refine jc_false rfl ?_))
  refine jc_bne rfl (fun h1 => absurd rfl h1) (fun _ => ?_)
  (refine j_nm rfl ?_; repeat (first | refine jo_cons ?_ | (refine jo_iso ?_; first | (refine jo_isbin ?_; first | refine jo_v (by first | exact pv_add rfl rfl (by omega) | exact pv_sub rfl rfl (by omega)) rfl ?_ | refine jo_pure tab_ok rfl rfl ?_) | refine jo_pure tab_ok rfl rfl ?_ | refine jo_want rfl ?_ | refine jo_skip rfl rfl ?_ | refine jo_load tab_ok rfl rfl rfl (by first | ((repeat first | exact Rd.here rfl | refine Rd.there ?_); done) | assumption) rfl ?_) | refine jo_nil ?_ | refine jc_seq ?_ | refine jc_skip ?_ | refine jc_region ?_ | refine jc_block ?_ | refine jc_ret ?_ | refine jc_exit ?_ | refine jx_then ?_ | refine jx_then_exit ?_ | refine jx_then_ret ?_ | refine jx_block ?_ | refine jx_block_ret ?_ | refine jx_block_hit ?_ | refine jx_block_miss rfl ?_ | refine jc_true rfl ?_ | refine jc_false rfl ?_))
  refine jc_loopd (IH rb rn rc p x) (AH A X p x (.slice base rn cap) es ss ms rb rn rc) (fun i => i ≤ rn) (fun i => rn - i) 0 [] [0] (Nat.zero_le _) ⟨rfl, rfl, rfl, rfl, rfl, trivial⟩ rfl ?_
  intro i hi
  (refine j_nm rfl ?_; repeat (first | refine jo_cons ?_ | (refine jo_iso ?_; first | (refine jo_isbin ?_; first | refine jo_v (by first | exact pv_add rfl rfl (by omega) | exact pv_sub rfl rfl (by omega)) rfl ?_ | refine jo_pure tab_ok rfl rfl ?_) | refine jo_pure tab_ok rfl rfl ?_ | refine jo_want rfl ?_ | refine jo_skip rfl rfl ?_ | refine jo_load tab_ok rfl rfl rfl (by first | ((repeat first | exact Rd.here rfl | refine Rd.there ?_); done) | assumption) rfl ?_) | refine jo_nil ?_ | refine jc_seq ?_ | refine jc_skip ?_ | refine jc_region ?_ | refine jc_block ?_ | refine jc_ret ?_ | refine jc_exit ?_ | refine jx_then ?_ | refine jx_then_exit ?_ | refine jx_then_ret ?_ | refine jx_block ?_ | refine jx_block_ret ?_ | refine jx_block_hit ?_ | refine jx_block_miss rfl ?_ | refine jc_true rfl ?_ | refine jc_false rfl ?_))
  refine jc_dec rfl (fun h2 => ?_) (fun h2 => ?_)
  · have hi' : i < rn := by omega
    have hie : i < es.length := by omega
    obtain ⟨c1, c2⟩ := ecells_at es i hie
    have hue := usedAt_eq h hie
    generalize es[i] = e at c1 c2
    obtain ⟨b, o, rfl, hrd0⟩ := hor.resolve_left (by omega)
    obtain ⟨b2, o2, rfl, hrd2⟩ := hrr.resolve_left (by omega)
    (refine j_nm rfl ?_; repeat (first | refine jo_cons ?_ | (refine jo_iso ?_; first | (refine jo_isbin ?_; first | refine jo_v (by first | exact pv_add rfl rfl (by omega) | exact pv_sub rfl rfl (by omega)) rfl ?_ | refine jo_pure tab_ok rfl rfl ?_) | refine jo_pure tab_ok rfl rfl ?_ | refine jo_want rfl ?_ | refine jo_skip rfl rfl ?_ | refine jo_load tab_ok rfl rfl rfl (by first | ((repeat first | exact Rd.here rfl | refine Rd.there ?_); done) | assumption) rfl ?_) | refine jo_nil ?_ | refine jc_seq ?_ | refine jc_skip ?_ | refine jc_region ?_ | refine jc_block ?_ | refine jc_ret ?_ | refine jc_exit ?_ | refine jx_then ?_ | refine jx_then_exit ?_ | refine jx_then_ret ?_ | refine jx_block ?_ | refine jx_block_ret ?_ | refine jx_block_hit ?_ | refine jx_block_miss rfl ?_ | refine jc_true rfl ?_ | refine jc_false rfl ?_))
    refine jo_v (pv_index tab_ok i rfl rfl rfl rfl rfl rfl hi') rfl (jo_cons ?_)
    refine jo_load_agg tab_ok (vs := [I e.1, I e.2]) rfl rfl rfl rfl (rd2 (hrd2 _) c1 c2) rfl (jo_cons ?_)
    refine jo_alloc tab_ok rfl rfl fun r7 => ?_
    (refine j_nm rfl ?_; repeat (first | refine jo_cons ?_ | (refine jo_iso ?_; first | (refine jo_isbin ?_; first | refine jo_v (by first | exact pv_add rfl rfl (by omega) | exact pv_sub rfl rfl (by omega)) rfl ?_ | refine jo_pure tab_ok rfl rfl ?_) | refine jo_pure tab_ok rfl rfl ?_ | refine jo_want rfl ?_ | refine jo_skip rfl rfl ?_ | refine jo_load tab_ok rfl rfl rfl (by first | ((repeat first | exact Rd.here rfl | refine Rd.there ?_); done) | assumption) rfl ?_) | refine jo_nil ?_ | refine jc_seq ?_ | refine jc_skip ?_ | refine jc_region ?_ | refine jc_block ?_ | refine jc_ret ?_ | refine jc_exit ?_ | refine jx_then ?_ | refine jx_then_exit ?_ | refine jx_then_ret ?_ | refine jx_block ?_ | refine jx_block_ret ?_ | refine jx_block_hit ?_ | refine jx_block_miss rfl ?_ | refine jc_true rfl ?_ | refine jc_false rfl ?_))
    refine jo_store_agg tab_ok (vs := [I e.1, I e.2]) 0 rfl rfl rfl rfl (by simp [one]) ⟨rfl, rfl⟩ rfl ?_
    (refine j_nm rfl ?_; repeat (first | refine jo_cons ?_ | (refine jo_iso ?_; first | (refine jo_isbin ?_; first | refine jo_v (by first | exact pv_add rfl rfl (by omega) | exact pv_sub rfl rfl (by omega)) rfl ?_ | refine jo_pure tab_ok rfl rfl ?_) | refine jo_pure tab_ok rfl rfl ?_ | refine jo_want rfl ?_ | refine jo_skip rfl rfl ?_ | refine jo_load tab_ok rfl rfl rfl (by first | ((repeat first | exact Rd.here rfl | refine Rd.there ?_); done) | assumption) rfl ?_) | refine jo_nil ?_ | refine jc_skip ?_ | refine jc_region ?_ | refine jc_block ?_ | refine jc_ret ?_ | refine jc_exit ?_ | refine jx_then ?_ | refine jx_then_exit ?_ | refine jx_then_ret ?_ | refine jx_block ?_ | refine jx_block_ret ?_ | refine jx_block_hit ?_ | refine jx_block_miss rfl ?_ | refine jc_true rfl ?_ | refine jc_false rfl ?_))
    refine jc_seq ?_
    refine jc_seq ?_
    refine jc_drawh 99 [(r7, 0, I e.1), (x, 0, .slice (some ⟨b, o, none⟩) rn cap), (b, o + i * 2, I e.1), (r7, 1, I e.2), (b, o + i * 2 + 1, I e.2)] mo
      (.cons (by first | ((repeat first | exact Rd.here rfl | refine Rd.there ?_); done) | assumption) (.cons (Rd.there (Rd.there (Rd.there rd_rsp))) (.cons (Rd.there (Rd.there (Rd.there (Rd.there ((hrd0 _).one c1))))) (.cons (by first | ((repeat first | exact Rd.here rfl | refine Rd.there ?_); done) | assumption) (.cons (Rd.there (Rd.there (Rd.there (Rd.there ((hrd0 _).one c2))))) .nil))))) fun hrd => ?_
    refine jh_pure tab_ok 0 rfl (by kernel_rfl) rfl rfl hrd ?_
    refine jh_s 1 rfl (by kernel_rfl) (ps_load tab_ok 0 rfl rfl rfl rfl) rfl hrd ?_
    refine jh_pure tab_ok 2 rfl (by kernel_rfl) rfl rfl hrd ?_
    refine jh_pure tab_ok 3 rfl (by kernel_rfl) rfl rfl hrd ?_
    refine jh_pure tab_ok 4 rfl (by kernel_rfl) rfl rfl hrd ?_
    refine jh_s 5 rfl (by kernel_rfl) (ps_load tab_ok 1 rfl rfl rfl rfl) rfl hrd ?_
    refine jh_one 6 rfl (by kernel_rfl) (jo_pure tab_ok rfl rfl (jh_back hrd fun hrd => ?_))
    refine jh_s 7 rfl (by kernel_rfl) ((pv_index tab_ok i rfl rfl rfl rfl rfl rfl hi').ps) rfl hrd ?_
    refine jh_one 8 rfl (by kernel_rfl) (jo_pure tab_ok rfl rfl (jh_back hrd fun hrd => ?_))
    refine jh_s 9 rfl (by kernel_rfl) (ps_load tab_ok 2 rfl rfl rfl rfl) rfl hrd ?_
    refine jh_s 10 rfl (by kernel_rfl) ((pv_neql_f rfl rfl rfl).ps) rfl hrd ?_
    refine jh_one 11 rfl (by kernel_rfl) (jo_pure tab_ok rfl rfl (jh_back hrd fun hrd => ?_))
    refine jh_pureg tab_ok 12 rfl (by kernel_rfl) rfl rfl rfl hrd ?_
    refine jh_sg 13 rfl (by kernel_rfl) rfl (ps_load tab_ok 3 rfl rfl rfl rfl) rfl hrd ?_
    refine jh_pureg tab_ok 14 rfl (by kernel_rfl) rfl rfl rfl hrd ?_
    refine jh_pureg tab_ok 15 rfl (by kernel_rfl) rfl rfl rfl hrd ?_
    refine jh_pureg tab_ok 16 rfl (by kernel_rfl) rfl rfl rfl hrd ?_
    refine jh_sg 17 rfl (by kernel_rfl) rfl (ps_load tab_ok 1 rfl rfl rfl rfl) rfl hrd ?_
    refine jh_pureg tab_ok 18 rfl (by kernel_rfl) rfl rfl rfl hrd ?_
    refine jh_sg 19 rfl (by kernel_rfl) rfl ((pv_index tab_ok i rfl rfl rfl rfl rfl rfl hi').ps) rfl hrd ?_
    refine jh_pureg tab_ok 20 rfl (by kernel_rfl) rfl rfl rfl hrd ?_
    refine jh_sg 21 rfl (by kernel_rfl) rfl (ps_load tab_ok 4 rfl rfl rfl rfl) rfl hrd ?_
    refine jh_sg 22 rfl (by kernel_rfl) rfl ((pv_neql_f rfl rfl rfl).ps) rfl hrd ?_
    refine jh_one 23 rfl (by kernel_rfl) (jo_pure tab_ok rfl rfl (jh_back hrd fun hrd => ?_))
    refine jh_one 24 rfl (by kernel_rfl) (jo_pure tab_ok rfl rfl (jh_back hrd fun hrd => ?_))
    refine jh_pureg tab_ok 25 rfl (by kernel_rfl) rfl rfl rfl hrd ?_
    refine jh_pureg tab_ok 26 rfl (by kernel_rfl) rfl rfl rfl hrd ?_
    refine jh_pureg tab_ok 28 rfl (by kernel_rfl) rfl rfl rfl hrd ?_
    refine jh_pureg tab_ok 29 rfl (by kernel_rfl) rfl rfl rfl hrd ?_
    refine jh_one 27 rfl (by kernel_rfl) ?_
    refine jo_want rfl ?_
    refine jo_call [2] (S9.used8_tri h.inv i) ent16 rfl ⟨rfl, rfl⟩ rfl ?_
    rintro v B ⟨rfl, rfl⟩
    refine j_nm rfl ?_
    refine jh_back (.cons (by first | ((repeat first | exact Rd.here rfl | refine Rd.there ?_); done) | assumption) (.cons (Rd.there (Rd.there (Rd.there rd_rsp))) (.cons (Rd.there (Rd.there (Rd.there (Rd.there ((hrd0 _).one c1))))) (.cons (by first | ((repeat first | exact Rd.here rfl | refine Rd.there ?_); done) | assumption) (.cons (Rd.there (Rd.there (Rd.there (Rd.there ((hrd0 _).one c2))))) .nil))))) fun hrd => ?_
    refine jh_one 30 rfl (by kernel_rfl) ?_
    refine jo_want rfl ?_
    refine jo_call [3] (Rb4.used_tri i hnn) ent60 rfl ⟨rfl, rfl⟩ rfl ?_
    rintro v B ⟨rfl, rfl⟩
    refine j_nm rfl ?_
    refine jh_back (.cons (by first | ((repeat first | exact Rd.here rfl | refine Rd.there ?_); done) | assumption) (.cons rd_rsp (.cons (Rd.there (Rd.there (Rd.there (Rd.there ((hrd0 _).one c1))))) (.cons (by first | ((repeat first | exact Rd.here rfl | refine Rd.there ?_); done) | assumption) (.cons (Rd.there (Rd.there (Rd.there (Rd.there ((hrd0 _).one c2))))) .nil))))) fun hrd => ?_
    refine jh_sg 31 rfl (by kernel_rfl) rfl ((pv_neql_f rfl rfl hue).ps) rfl hrd ?_
    refine jh_one 32 rfl (by kernel_rfl) (jo_pure tab_ok rfl rfl (jh_back hrd fun hrd => ?_))
    refine jh_done (by kernel_rfl) ?_
    (refine j_nm rfl ?_; repeat (first | refine jo_cons ?_ | (refine jo_iso ?_; first | (refine jo_isbin ?_; first | refine jo_v (by first | exact pv_add rfl rfl (by omega) | exact pv_sub rfl rfl (by omega)) rfl ?_ | refine jo_pure tab_ok rfl rfl ?_) | refine jo_pure tab_ok rfl rfl ?_ | refine jo_want rfl ?_ | refine jo_skip rfl rfl ?_ | refine jo_load tab_ok rfl rfl rfl (by first | ((repeat first | exact Rd.here rfl | refine Rd.there ?_); done) | assumption) rfl ?_) | refine jo_nil ?_ | refine jc_skip ?_ | refine jc_region ?_ | refine jc_block ?_ | refine jc_ret ?_ | refine jc_exit ?_ | refine jx_then ?_ | refine jx_then_exit ?_ | refine jx_then_ret ?_ | refine jx_block ?_ | refine jx_block_ret ?_ | refine jx_block_hit ?_ | refine jx_block_miss rfl ?_ | refine jc_true rfl ?_ | refine jc_false rfl ?_))
    exact j_go (q11 hA E X hro' h (by omega) hi' (by show rn - (i + 1) < rn - i; omega)) [1, 1, 0] [2] ⟨rfl, rfl, rfl, rfl, rfl, rfl, trivial⟩ rfl
  · (refine j_nm rfl ?_; repeat (first | refine jo_cons ?_ | (refine jo_iso ?_; first | (refine jo_isbin ?_; first | refine jo_v (by first | exact pv_add rfl rfl (by omega) | exact pv_sub rfl rfl (by omega)) rfl ?_ | refine jo_pure tab_ok rfl rfl ?_) | refine jo_pure tab_ok rfl rfl ?_ | refine jo_want rfl ?_ | refine jo_skip rfl rfl ?_ | refine jo_load tab_ok rfl rfl rfl (by first | ((repeat first | exact Rd.here rfl | refine Rd.there ?_); done) | assumption) rfl ?_) | refine jo_nil ?_ | refine jc_seq ?_ | refine jc_skip ?_ | refine jc_region ?_ | refine jc_block ?_ | refine jc_ret ?_ | refine jc_exit ?_ | refine jx_then ?_ | refine jx_then_exit ?_ | refine jx_then_ret ?_ | refine jx_block ?_ | refine jx_block_ret ?_ | refine jx_block_hit ?_ | refine jx_block_miss rfl ?_ | refine jc_true rfl ?_ | refine jc_false rfl ?_))
    exact j_ret [0, 0, 0] [0] rfl ⟨rfl, rfl⟩ ⟨rfl, rfl⟩
end St2
end Go.Proofs.YtejaonodaplbhaaDoor
