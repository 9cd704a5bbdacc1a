import Derived.Test.YtiikdofbaoidcaaRl
set_option linter.unusedVariables false
set_option linter.unusedSimpArgs false
namespace Go.Proofs.Ytiikdofbaoidcaa
namespace Rp
open Go Go.Proofs.Ytiikdofbaoidcaa.Hp Mp Mq Rs Rt Ru Rk Rl
set_option maxRecDepth 10000
attribute [local irreducible] wpList Code.wp wpAny wpAnyK
def tab : Tab := [
  ⟨3, .int .i64, 1, 8, [.int .i64 0]⟩,
  ⟨4, .bool, 1, 1, [.bool false]⟩,
  ⟨27, .struct [(0, 3), (1, 3), (2, 3)], 3, 24, [.int .i64 0, .int .i64 0, .int .i64 0]⟩,
  ⟨22, .slice 27, 1, 24, [.slice none 0 0]⟩,
  ⟨29, .iface, 1, 16, [.nilIface]⟩,
  ⟨66, .int .i64, 1, 8, [.int .i64 0]⟩]
theorem tab_3 : TE.ok Try.prog ⟨3, .int .i64, 1, 8, [.int .i64 0]⟩ := ⟨by kernel_rfl, by kernel_rfl, by kernel_rfl, by kernel_rfl⟩
theorem tab_4 : TE.ok Try.prog ⟨4, .bool, 1, 1, [.bool false]⟩ := ⟨by kernel_rfl, by kernel_rfl, by kernel_rfl, by kernel_rfl⟩
theorem tab_27 : TE.ok Try.prog ⟨27, .struct [(0, 3), (1, 3), (2, 3)], 3, 24, [.int .i64 0, .int .i64 0, .int .i64 0]⟩ := ⟨by kernel_rfl, by kernel_rfl, by kernel_rfl, by kernel_rfl⟩
theorem tab_22 : TE.ok Try.prog ⟨22, .slice 27, 1, 24, [.slice none 0 0]⟩ := ⟨by kernel_rfl, by kernel_rfl, by kernel_rfl, by kernel_rfl⟩
theorem tab_29 : TE.ok Try.prog ⟨29, .iface, 1, 16, [.nilIface]⟩ := ⟨by kernel_rfl, by kernel_rfl, by kernel_rfl, by kernel_rfl⟩
theorem tab_66 : TE.ok Try.prog ⟨66, .int .i64, 1, 8, [.int .i64 0]⟩ := ⟨by kernel_rfl, by kernel_rfl, by kernel_rfl, by kernel_rfl⟩
theorem tab_ok : tab.ok Try.prog := by
  intro e he
  simp only [tab, List.mem_cons, List.not_mem_nil, or_false] at he
  rcases he with rfl | rfl | rfl | rfl | rfl | rfl
  · exact tab_3
  · exact tab_4
  · exact tab_27
  · exact tab_22
  · exact tab_29
  · exact tab_66

theorem ent30 : Enters Try.prog 30 := ⟨_, _, Try.func30, by kernel_rfl, rfl⟩
theorem ent31 : Enters Try.prog 31 := ⟨_, _, Try.func31, by kernel_rfl, rfl⟩

theorem ps_load3 {P : Program} {l : Fr} {T : Tab} {cs : List (Nat × Nat × Value)} (hT : T.ok P) {t : TypeId} {x : Operand} {b o : Nat} {e : TE} {v1 v2 v3 : Value} (k1 k2 k3 : Nat) (hx : ev l x = some (.pointer (some ⟨b, o, none⟩))) (ht : T.find t = some e) (hag : e.td.agg = true) (hsz : e.size = 3) (hm : cs[k1]? = some (b, o, v1)) (hm2 : cs[k2]? = some (b, o + 1, v2)) (hm3 : cs[k3]? = some (b, o + 2, v3)) :
    PS P cs l (.load t x) (.agg #[v1, v2, v3]) := by
  obtain ⟨hok, rfl⟩ := Tab.find_ok hT ht
  intro a n dst ty pos aft gd hf w hs
  have hc := hs _ (List.mem_of_getElem? hm)
  have hc2 := hs _ (List.mem_of_getElem? hm2)
  have hc3 := hs _ (List.mem_of_getElem? hm3)
  simp only at hc hc2 hc3
  have h1 := run_loadCells_list (P := P) (w := w) ⟨b, o, none⟩ [v1, v2, v3] (fun j u hj => by
    rcases j with _ | _ | _ | j
    · simp at hj; subst hj; rw [addr_add]; exact hc
    · simp at hj; subst hj; rw [addr_add]; exact hc2
    · simp at hj; subst hj; rw [addr_add]; exact hc3
    · simp at hj)
  simp only [List.length_cons, List.length_nil, Nat.zero_add] at h1
  simp [execOp, hf.ev hx, Instr.loadAt, Instr.sureAddr, loadVar, hok.run_isAgg, hag, hok.run_sizeOf, hsz, h1]
theorem rcells_rd3 {L : List Assn} {b o : Nat} {xs : List Own} (h : Rd L b o (rcells xs)) {k : Nat} (hk : k < xs.length) : Rd L b (o + k * 3) [I xs[k].1.1, I xs[k].1.2, I xs[k].2] := by
  obtain ⟨h1, h2, h3⟩ := rcells_at xs k hk
  refine h.sub (k * 3) fun j u hj => ?_
  rcases j with _ | _ | _ | j
  · simp at hj; subst hj; exact h1
  · simp at hj; subst hj; exact h2
  · simp at hj; subst hj; exact h3
  · simp at hj
abbrev OP (A : Assn) (xs : List Own) (o : Own) : Value → List Assn → Prop := fun u B => B = [sl 27 3 u (rcells (putR xs o)), A]
abbrev QP (E : World) (A : Assn) (xs : List Own) (o : Own) (F : List Assn) : Exit → Act → World → Prop := bodyPost Try.prog Try.f16 (ends E (OP A xs o) F)
abbrev IP (v : Value) (q : Nat) (xs : List Own) (o : Own) (x : Nat × Value) : Fr := [(7, I x.1), (0, v), (3, ptr q), (5, x.2), (6, .bool (foldP (xs.take x.1) o).2)]
abbrev AP (A X : Assn) (q : Nat) (xs : List Own) (o : Own) (x : Nat × Value) : List Assn := [sl 27 3 x.2 (rcells (foldP (xs.take x.1) o).1), cl q [I o.1.1, I o.1.2, I o.2] 27, A, X]
abbrev RP (E : World) (A X : Assn) (v : Value) (q : Nat) (xs : List Own) (o : Own) (k kk : Nat) : Act → World → Prop := Rnd E 52 (IP v q xs o) (AP A X q xs o) (fun x => x.1 ≤ k) (fun x => k - x.1) kk
set_option maxHeartbeats 4000000 in
theorem p9 {A : Assn} (E : World) (X : Assn) {b' : Option Addr} {k c' kk i q : Nat} {ov : Value} {xs out' : List Own} {o : Own} {put' : Bool} (hi : i < xs.length) (hx : xs.length ≤ 1000) (hk : xs.length = k) (hkk : k - (i + 1) < kk)
    (hor : k = 0 ∨ ∃ b o, b' = some ⟨b, o, none⟩ ∧ ∀ L, Rd (A :: L) b o (rcells xs)) (hf : foldP (xs.take (i + 1)) o = (out' ++ (if oneB xs[i] o = true then [] else [xs[i]]), put')) (hl : out'.length ≤ 1001) :
    J E (here Try.prog [.r, .r, .r, .l, .r, .b, .body (RP E A X (.slice b' k c') q xs o k kk), .r, .l, .b, .r] Try.f16 (QP E A xs o [X])) 52 [(0, .slice b' k c'), (3, ptr q), (5, ov), (6, .bool put'), (7, I i)]
      [sl 27 3 ov (rcells out'), cl q [I o.1.1, I o.1.2, I o.2] 27, A, X] := by
  obtain ⟨mp, mo_, rfl, ro⟩ := hor.resolve_left (by omega)
  have hr3 := fun L => rcells_rd3 (ro L) hi
  refine j_here rfl ?_
  generalize xs[i] = y at hf hr3
  obtain ⟨⟨y1, y2⟩, y3⟩ := y
  obtain ⟨⟨o1, o2⟩, o3⟩ := o
  (refine j_nm rfl ?_; repeat (first | refine jo_cons ?_ | (refine jo_iso ?_; first | (refine jo_isbin ?_; first | refine jo_v (by first | exact pv_add rfl rfl (by omega) | exact pv_sub rfl rfl (by omega)) rfl ?_ | refine jo_pure tab_ok rfl rfl ?_ | refine jo_v (by first | exact pv_add64 rfl rfl | exact pv_ptr_eq tab_ok rfl rfl rfl | exact pv_ptr_ne tab_ok rfl rfl rfl | exact pv_if_eq tab_ok rfl rfl rfl (.inl rfl) | exact pv_if_eq tab_ok rfl rfl rfl (.inr ⟨_, _, rfl⟩) | exact pv_if_ne tab_ok rfl rfl rfl (.inl rfl) | exact pv_if_ne tab_ok rfl rfl rfl (.inr ⟨_, _, rfl⟩)) rfl ?_) | refine jo_pure tab_ok rfl rfl ?_ | refine jo_want rfl ?_ | refine jo_skip rfl rfl ?_ | refine jo_load tab_ok rfl rfl rfl (by first | ((repeat first | exact Rd.here rfl | refine Rd.there ?_); done) | assumption) rfl ?_) | refine jo_nil ?_ | refine jc_seq ?_ | refine jc_skip ?_ | refine jc_region ?_ | refine jc_block ?_ | refine jc_ret ?_ | refine jc_exit ?_ | refine jx_then ?_ | refine jx_then_exit ?_ | refine jx_then_ret ?_ | refine jx_block ?_ | refine jx_block_ret ?_ | refine jx_block_hit ?_ | refine jx_block_miss rfl ?_ | refine jc_true rfl ?_ | refine jc_false rfl ?_))
  refine jc_drawh 99 [(mp, mo_ + i * 3, I y1), (mp, mo_ + i * 3 + 1, I y2), (mp, mo_ + i * 3 + 2, I y3), (q, 0, I o1), (q, 1, I o2), (q, 2, I o3)] mo (.cons (.there (.there ((hr3 _).one (k := 0) rfl))) (.cons (.there (.there ((hr3 _).one (k := 1) rfl))) (.cons (.there (.there ((hr3 _).one (k := 2) rfl))) (.cons (by first | ((repeat first | exact Rd.here rfl | refine Rd.there ?_); done) | assumption) (.cons (by first | ((repeat first | exact Rd.here rfl | refine Rd.there ?_); done) | assumption) (.cons (by first | ((repeat first | exact Rd.here rfl | refine Rd.there ?_); done) | assumption) .nil)))))) fun hrd => ?_
  refine jh_pure tab_ok 0 rfl (by kernel_rfl) rfl rfl hrd ?_
  refine jh_pure tab_ok 1 rfl (by kernel_rfl) rfl rfl hrd ?_
  refine jh_s 2 rfl (by kernel_rfl) ((pv_index tab_ok i rfl rfl rfl rfl rfl rfl (by omega)).ps) rfl hrd ?_
  refine jh_s 3 rfl (by kernel_rfl) (ps_load3 tab_ok 0 1 2 rfl rfl rfl rfl rfl rfl rfl) rfl hrd ?_
  refine jh_s 4 rfl (by kernel_rfl) (ps_load3 tab_ok 3 4 5 rfl rfl rfl rfl rfl rfl rfl) rfl hrd ?_
  refine jh_one 5 rfl (by kernel_rfl) ?_
  refine jo_call [] (one_tri ((y1, y2), y3) ((o1, o2), o3)) ent31 rfl ⟨rfl, rfl⟩ rfl ?_
  rintro v B ⟨rfl, rfl⟩
  refine j_nm rfl ?_
  refine jh_back hrd fun hrd => ?_
  refine jh_one 6 rfl (by kernel_rfl) (jo_pure tab_ok rfl rfl (jh_back hrd fun hrd => ?_))
  refine jh_done (by kernel_rfl) ?_
  cases hone : oneB ((y1, y2), y3) ((o1, o2), o3) with
  | true =>
    rw [hone] at hf
    simp only [if_pos, List.append_nil] at hf
    (refine j_nm rfl ?_; repeat (first | refine jo_cons ?_ | (refine jo_iso ?_; first | (refine jo_isbin ?_; first | refine jo_v (by first | exact pv_add rfl rfl (by omega) | exact pv_sub rfl rfl (by omega)) rfl ?_ | refine jo_pure tab_ok rfl rfl ?_ | refine jo_v (by first | exact pv_add64 rfl rfl | exact pv_ptr_eq tab_ok rfl rfl rfl | exact pv_ptr_ne tab_ok rfl rfl rfl | exact pv_if_eq tab_ok rfl rfl rfl (.inl rfl) | exact pv_if_eq tab_ok rfl rfl rfl (.inr ⟨_, _, rfl⟩) | exact pv_if_ne tab_ok rfl rfl rfl (.inl rfl) | exact pv_if_ne tab_ok rfl rfl rfl (.inr ⟨_, _, rfl⟩)) rfl ?_) | refine jo_pure tab_ok rfl rfl ?_ | refine jo_want rfl ?_ | refine jo_skip rfl rfl ?_ | refine jo_load tab_ok rfl rfl rfl (by first | ((repeat first | exact Rd.here rfl | refine Rd.there ?_); done) | assumption) rfl ?_) | refine jo_nil ?_ | refine jc_seq ?_ | refine jc_skip ?_ | refine jc_region ?_ | refine jc_block ?_ | refine jc_ret ?_ | refine jc_exit ?_ | refine jx_then ?_ | refine jx_then_exit ?_ | refine jx_then_ret ?_ | refine jx_block ?_ | refine jx_block_ret ?_ | refine jx_block_hit ?_ | refine jx_block_miss rfl ?_ | refine jc_true rfl ?_ | refine jc_false rfl ?_))
    exact jx_rnd (i + 1, ov) [] [] (by show i + 1 ≤ k; omega) hkk ⟨rfl, rfl, rfl, rfl, by rw [hf]; rfl, trivial⟩ (by simp only [AP]; rw [hf]; rfl)
  | false =>
    rw [hone] at hf
    simp only [Bool.false_eq_true, if_false] at hf
    (refine j_nm rfl ?_; repeat (first | refine jo_cons ?_ | (refine jo_iso ?_; first | (refine jo_isbin ?_; first | refine jo_v (by first | exact pv_add rfl rfl (by omega) | exact pv_sub rfl rfl (by omega)) rfl ?_ | refine jo_pure tab_ok rfl rfl ?_ | refine jo_v (by first | exact pv_add64 rfl rfl | exact pv_ptr_eq tab_ok rfl rfl rfl | exact pv_ptr_ne tab_ok rfl rfl rfl | exact pv_if_eq tab_ok rfl rfl rfl (.inl rfl) | exact pv_if_eq tab_ok rfl rfl rfl (.inr ⟨_, _, rfl⟩) | exact pv_if_ne tab_ok rfl rfl rfl (.inl rfl) | exact pv_if_ne tab_ok rfl rfl rfl (.inr ⟨_, _, rfl⟩)) rfl ?_) | refine jo_pure tab_ok rfl rfl ?_ | refine jo_want rfl ?_ | refine jo_skip rfl rfl ?_ | refine jo_load tab_ok rfl rfl rfl (by first | ((repeat first | exact Rd.here rfl | refine Rd.there ?_); done) | assumption) rfl ?_) | refine jo_nil ?_ | refine jc_seq ?_ | refine jc_skip ?_ | refine jc_region ?_ | refine jc_block ?_ | refine jc_ret ?_ | refine jc_exit ?_ | refine jx_then ?_ | refine jx_then_exit ?_ | refine jx_then_ret ?_ | refine jx_block ?_ | refine jx_block_ret ?_ | refine jx_block_hit ?_ | refine jx_block_miss rfl ?_ | refine jc_true rfl ?_ | refine jc_false rfl ?_))
    refine jo_v (pv_index tab_ok i rfl rfl rfl rfl rfl rfl (by omega)) rfl (jo_cons ?_)
    refine jo_load_agg tab_ok (vs := [I y1, I y2, I y3]) rfl rfl rfl rfl (.there (.there (hr3 _))) rfl (jo_cons ?_)
    refine jo_buildSlice tab_ok (cs := [I y1, I y2, I y3]) rfl rfl rfl rfl rfl rfl (by first | (simp [Instr.fill]; done) | simp [Instr.fill, Value.cells]) rfl fun bA => ?_
    (refine j_nm rfl ?_; repeat (first | refine jo_cons ?_ | (refine jo_iso ?_; first | (refine jo_isbin ?_; first | refine jo_v (by first | exact pv_add rfl rfl (by omega) | exact pv_sub rfl rfl (by omega)) rfl ?_ | refine jo_pure tab_ok rfl rfl ?_ | refine jo_v (by first | exact pv_add64 rfl rfl | exact pv_ptr_eq tab_ok rfl rfl rfl | exact pv_ptr_ne tab_ok rfl rfl rfl | exact pv_if_eq tab_ok rfl rfl rfl (.inl rfl) | exact pv_if_eq tab_ok rfl rfl rfl (.inr ⟨_, _, rfl⟩) | exact pv_if_ne tab_ok rfl rfl rfl (.inl rfl) | exact pv_if_ne tab_ok rfl rfl rfl (.inr ⟨_, _, rfl⟩)) rfl ?_) | refine jo_pure tab_ok rfl rfl ?_ | refine jo_want rfl ?_ | refine jo_skip rfl rfl ?_ | refine jo_load tab_ok rfl rfl rfl (by first | ((repeat first | exact Rd.here rfl | refine Rd.there ?_); done) | assumption) rfl ?_) | refine jo_nil ?_ | refine jc_seq ?_ | refine jc_skip ?_ | refine jc_region ?_ | refine jc_block ?_ | refine jc_ret ?_ | refine jc_exit ?_ | refine jx_then ?_ | refine jx_then_exit ?_ | refine jx_then_ret ?_ | refine jx_block ?_ | refine jx_block_ret ?_ | refine jx_block_hit ?_ | refine jx_block_miss rfl ?_ | refine jc_true rfl ?_ | refine jc_false rfl ?_))
    refine jo_append tab_ok 1 [I y1, I y2, I y3] rfl rfl rfl rfl rfl rfl ⟨rfl, rfl⟩ rfl (.inr ⟨bA, 0, rfl, Rd.all⟩) (by simp [Hp.one]) (by intro len' hl'; rw [rcells_len] at hl'; have hl'' : out'.length * 3 = len' * 3 := hl'; exact ⟨by show (len' + 1) * 24 ≤ _; omega, by simp only [maxLen]; omega⟩) rfl fun v' => ?_
    rw [rcells_snoc out' ((y1, y2), y3)]
    (refine j_nm rfl ?_; repeat (first | refine jo_cons ?_ | (refine jo_iso ?_; first | (refine jo_isbin ?_; first | refine jo_v (by first | exact pv_add rfl rfl (by omega) | exact pv_sub rfl rfl (by omega)) rfl ?_ | refine jo_pure tab_ok rfl rfl ?_ | refine jo_v (by first | exact pv_add64 rfl rfl | exact pv_ptr_eq tab_ok rfl rfl rfl | exact pv_ptr_ne tab_ok rfl rfl rfl | exact pv_if_eq tab_ok rfl rfl rfl (.inl rfl) | exact pv_if_eq tab_ok rfl rfl rfl (.inr ⟨_, _, rfl⟩) | exact pv_if_ne tab_ok rfl rfl rfl (.inl rfl) | exact pv_if_ne tab_ok rfl rfl rfl (.inr ⟨_, _, rfl⟩)) rfl ?_) | refine jo_pure tab_ok rfl rfl ?_ | refine jo_want rfl ?_ | refine jo_skip rfl rfl ?_ | refine jo_load tab_ok rfl rfl rfl (by first | ((repeat first | exact Rd.here rfl | refine Rd.there ?_); done) | assumption) rfl ?_) | refine jo_nil ?_ | refine jc_seq ?_ | refine jc_skip ?_ | refine jc_region ?_ | refine jc_block ?_ | refine jc_ret ?_ | refine jc_exit ?_ | refine jx_then ?_ | refine jx_then_exit ?_ | refine jx_then_ret ?_ | refine jx_block ?_ | refine jx_block_ret ?_ | refine jx_block_hit ?_ | refine jx_block_miss rfl ?_ | refine jc_true rfl ?_ | refine jc_false rfl ?_))
    exact jx_rnd (i + 1, v') [] [1] (by show i + 1 ≤ k; omega) hkk ⟨rfl, rfl, rfl, rfl, by rw [hf]; rfl, trivial⟩ (by simp only [AP]; rw [hf]; rfl)
theorem foldP_take {xs : List Own} {o : Own} {i : Nat} (hi : i < xs.length) : foldP (xs.take (i + 1)) o = stepP o (foldP (xs.take i) o) xs[i] := by
  rw [List.take_succ_eq_append_getElem hi, foldP_snoc]
theorem foldP_zero (xs : List Own) (o : Own) : foldP (xs.take 0) o = ([], decide (o.2 = 0)) := rfl
theorem foldP_bd {xs : List Own} {o : Own} {i : Nat} (hx : xs.length ≤ 1000) : (foldP (xs.take i) o).1.length ≤ 1001 ∧ ((foldP (xs.take i) o).2 = false → (foldP (xs.take i) o).1.length ≤ 1000) := by
  have h1 := foldP_le (xs.take i) o
  have h2 : (xs.take i).length ≤ xs.length := by rw [List.length_take]; omega
  refine ⟨by split at h1 <;> omega, fun h => ?_⟩
  rw [h] at h1
  simp only [Bool.false_eq_true, if_false] at h1
  omega
set_option maxHeartbeats 4000000 in
theorem put_tri {A : Assn} {v : Value} {xs : List Own} (hro : Ro A 3 v (rcells xs)) (hx : xs.length ≤ 1000) (o : Own) : Tri Try.prog 16 [v, rv o] [A] (OP A xs o) := by
  obtain ⟨b', k, c', rfl, hl, hm, hor⟩ := hro
  rw [rcells_len] at hl
  have hk : xs.length = k := by omega
  obtain ⟨⟨o1, o2⟩, o3⟩ := o
  refine tri_introX Try.func16 rfl Try.ntmps16 rfl fun E X => ?_
  (refine j_nm rfl ?_; repeat (first | refine jo_cons ?_ | (refine jo_iso ?_; first | (refine jo_isbin ?_; first | refine jo_v (by first | exact pv_add rfl rfl (by omega) | exact pv_sub rfl rfl (by omega)) rfl ?_ | refine jo_pure tab_ok rfl rfl ?_ | refine jo_v (by first | exact pv_add64 rfl rfl | exact pv_ptr_eq tab_ok rfl rfl rfl | exact pv_ptr_ne tab_ok rfl rfl rfl | exact pv_if_eq tab_ok rfl rfl rfl (.inl rfl) | exact pv_if_eq tab_ok rfl rfl rfl (.inr ⟨_, _, rfl⟩) | exact pv_if_ne tab_ok rfl rfl rfl (.inl rfl) | exact pv_if_ne tab_ok rfl rfl rfl (.inr ⟨_, _, rfl⟩)) rfl ?_) | refine jo_pure tab_ok rfl rfl ?_ | refine jo_want rfl ?_ | refine jo_skip rfl rfl ?_ | refine jo_load tab_ok rfl rfl rfl (by first | ((repeat first | exact Rd.here rfl | refine Rd.there ?_); done) | assumption) rfl ?_) | refine jo_nil ?_ | refine jc_seq ?_ | refine jc_skip ?_ | refine jc_region ?_ | refine jc_block ?_ | refine jc_ret ?_ | refine jc_exit ?_ | refine jx_then ?_ | refine jx_then_exit ?_ | refine jx_then_ret ?_ | refine jx_block ?_ | refine jx_block_ret ?_ | refine jx_block_hit ?_ | refine jx_block_miss rfl ?_ | refine jc_true rfl ?_ | refine jc_false rfl ?_))
  refine jo_box rfl rfl rfl fun q => ?_
  (refine j_nm rfl ?_; repeat (first | refine jo_cons ?_ | (refine jo_iso ?_; first | (refine jo_isbin ?_; first | refine jo_v (by first | exact pv_add rfl rfl (by omega) | exact pv_sub rfl rfl (by omega)) rfl ?_ | refine jo_pure tab_ok rfl rfl ?_ | refine jo_v (by first | exact pv_add64 rfl rfl | exact pv_ptr_eq tab_ok rfl rfl rfl | exact pv_ptr_ne tab_ok rfl rfl rfl | exact pv_if_eq tab_ok rfl rfl rfl (.inl rfl) | exact pv_if_eq tab_ok rfl rfl rfl (.inr ⟨_, _, rfl⟩) | exact pv_if_ne tab_ok rfl rfl rfl (.inl rfl) | exact pv_if_ne tab_ok rfl rfl rfl (.inr ⟨_, _, rfl⟩)) rfl ?_) | refine jo_pure tab_ok rfl rfl ?_ | refine jo_want rfl ?_ | refine jo_skip rfl rfl ?_ | refine jo_load tab_ok rfl rfl rfl (by first | ((repeat first | exact Rd.here rfl | refine Rd.there ?_); done) | assumption) rfl ?_) | refine jo_nil ?_ | refine jc_seq ?_ | refine jc_skip ?_ | refine jc_region ?_ | refine jc_block ?_ | refine jc_ret ?_ | refine jc_exit ?_ | refine jx_then ?_ | refine jx_then_exit ?_ | refine jx_then_ret ?_ | refine jx_block ?_ | refine jx_block_ret ?_ | refine jx_block_hit ?_ | refine jx_block_miss rfl ?_ | refine jc_true rfl ?_ | refine jc_false rfl ?_))
  refine j_close [] rfl (fun m _ => sl_nil (t := 27) (size := 3) m) ?_
  refine j_nm rfl ?_
  refine jc_loopd (IP (.slice b' k c') q xs ((o1, o2), o3)) (AP A X q xs ((o1, o2), o3)) (fun x => x.1 ≤ k) (fun x => k - x.1) (0, .slice none 0 0) [0, 0, 0] [] (Nat.zero_le _) ⟨rfl, rfl, rfl, rfl, rfl, trivial⟩ rfl ?_
  rintro ⟨i, ov⟩ hi
  simp only at hi
  have hbd := foldP_bd (xs := xs) (o := ((o1, o2), o3)) (i := i) hx
  have hst := @foldP_take xs ((o1, o2), o3) i
  dsimp only [IP, AP]
  generalize hf : foldP (xs.take i) ((o1, o2), o3) = st at hbd hst
  obtain ⟨out, put⟩ := st
  dsimp only at hbd ⊢
  (refine j_nm rfl ?_; repeat (first | refine jo_cons ?_ | (refine jo_iso ?_; first | (refine jo_isbin ?_; first | refine jo_v (by first | exact pv_add rfl rfl (by omega) | exact pv_sub rfl rfl (by omega)) rfl ?_ | refine jo_pure tab_ok rfl rfl ?_ | refine jo_v (by first | exact pv_add64 rfl rfl | exact pv_ptr_eq tab_ok rfl rfl rfl | exact pv_ptr_ne tab_ok rfl rfl rfl | exact pv_if_eq tab_ok rfl rfl rfl (.inl rfl) | exact pv_if_eq tab_ok rfl rfl rfl (.inr ⟨_, _, rfl⟩) | exact pv_if_ne tab_ok rfl rfl rfl (.inl rfl) | exact pv_if_ne tab_ok rfl rfl rfl (.inr ⟨_, _, rfl⟩)) rfl ?_) | refine jo_pure tab_ok rfl rfl ?_ | refine jo_want rfl ?_ | refine jo_skip rfl rfl ?_ | refine jo_load tab_ok rfl rfl rfl (by first | ((repeat first | exact Rd.here rfl | refine Rd.there ?_); done) | assumption) rfl ?_) | refine jo_nil ?_ | refine jc_seq ?_ | refine jc_skip ?_ | refine jc_region ?_ | refine jc_block ?_ | refine jc_ret ?_ | refine jc_exit ?_ | refine jx_then ?_ | refine jx_then_exit ?_ | refine jx_then_ret ?_ | refine jx_block ?_ | refine jx_block_ret ?_ | refine jx_block_hit ?_ | refine jx_block_miss rfl ?_ | refine jc_true rfl ?_ | refine jc_false rfl ?_))
  refine jc_dec rfl (fun h => ?_) (fun h => ?_)
  · have hlt : i < xs.length := by have h' : (i : Int) < k := h; omega
    have hst := hst hlt
    have h9 := fun (out' : List Own) (put' : Bool) (ov' : Value) => @p9 A E X b' k c' (k - i) i q ov' xs out' ((o1, o2), o3) put' hlt hx hk (by omega) hor
    cases put with
    | true =>
      (refine j_nm rfl ?_; repeat (first | refine jo_cons ?_ | (refine jo_iso ?_; first | (refine jo_isbin ?_; first | refine jo_v (by first | exact pv_add rfl rfl (by omega) | exact pv_sub rfl rfl (by omega)) rfl ?_ | refine jo_pure tab_ok rfl rfl ?_ | refine jo_v (by first | exact pv_add64 rfl rfl | exact pv_ptr_eq tab_ok rfl rfl rfl | exact pv_ptr_ne tab_ok rfl rfl rfl | exact pv_if_eq tab_ok rfl rfl rfl (.inl rfl) | exact pv_if_eq tab_ok rfl rfl rfl (.inr ⟨_, _, rfl⟩) | exact pv_if_ne tab_ok rfl rfl rfl (.inl rfl) | exact pv_if_ne tab_ok rfl rfl rfl (.inr ⟨_, _, rfl⟩)) rfl ?_) | refine jo_pure tab_ok rfl rfl ?_ | refine jo_want rfl ?_ | refine jo_skip rfl rfl ?_ | refine jo_load tab_ok rfl rfl rfl (by first | ((repeat first | exact Rd.here rfl | refine Rd.there ?_); done) | assumption) rfl ?_) | refine jo_nil ?_ | refine jc_seq ?_ | refine jc_skip ?_ | refine jc_region ?_ | refine jc_block ?_ | refine jc_ret ?_ | refine jc_exit ?_ | refine jx_then ?_ | refine jx_then_exit ?_ | refine jx_then_ret ?_ | refine jx_block ?_ | refine jx_block_ret ?_ | refine jx_block_hit ?_ | refine jx_block_miss rfl ?_ | refine jc_true rfl ?_ | refine jc_false rfl ?_))
      refine jc_drawh 99 [] mo .nil fun hrd => ?_
      refine jh_one 0 rfl (by kernel_rfl) (jo_pure tab_ok rfl rfl (jh_back hrd fun hrd => ?_))
      refine jh_one 1 rfl (by kernel_rfl) (jo_pure tab_ok rfl rfl (jh_back hrd fun hrd => ?_))
      refine jh_one 2 rfl (by kernel_rfl) (jo_pure tab_ok rfl rfl (jh_back hrd fun hrd => ?_))
      refine jh_skip 3 rfl (by kernel_rfl) rfl rfl hrd ?_
      refine jh_skip 4 rfl (by kernel_rfl) rfl rfl hrd ?_
      refine jh_skip 5 rfl (by kernel_rfl) rfl rfl hrd ?_
      refine jh_skip 6 rfl (by kernel_rfl) rfl rfl hrd ?_
      refine jh_skip 7 rfl (by kernel_rfl) rfl rfl hrd ?_
      refine jh_skip 8 rfl (by kernel_rfl) rfl rfl hrd ?_
      refine jh_one 9 rfl (by kernel_rfl) (jo_pure tab_ok rfl rfl (jh_back hrd fun hrd => ?_))
      refine jh_done (by kernel_rfl) ?_
      (refine j_nm rfl ?_; repeat (first | refine jo_cons ?_ | (refine jo_iso ?_; first | (refine jo_isbin ?_; first | refine jo_v (by first | exact pv_add rfl rfl (by omega) | exact pv_sub rfl rfl (by omega)) rfl ?_ | refine jo_pure tab_ok rfl rfl ?_ | refine jo_v (by first | exact pv_add64 rfl rfl | exact pv_ptr_eq tab_ok rfl rfl rfl | exact pv_ptr_ne tab_ok rfl rfl rfl | exact pv_if_eq tab_ok rfl rfl rfl (.inl rfl) | exact pv_if_eq tab_ok rfl rfl rfl (.inr ⟨_, _, rfl⟩) | exact pv_if_ne tab_ok rfl rfl rfl (.inl rfl) | exact pv_if_ne tab_ok rfl rfl rfl (.inr ⟨_, _, rfl⟩)) rfl ?_) | refine jo_pure tab_ok rfl rfl ?_ | refine jo_want rfl ?_ | refine jo_skip rfl rfl ?_ | refine jo_load tab_ok rfl rfl rfl (by first | ((repeat first | exact Rd.here rfl | refine Rd.there ?_); done) | assumption) rfl ?_) | refine jo_nil ?_ | refine jc_skip ?_ | refine jc_region ?_ | refine jc_block ?_ | refine jc_ret ?_ | refine jc_exit ?_ | refine jx_then ?_ | refine jx_then_exit ?_ | refine jx_then_ret ?_ | refine jx_block ?_ | refine jx_block_ret ?_ | refine jx_block_hit ?_ | refine jx_block_miss rfl ?_ | refine jc_true rfl ?_ | refine jc_false rfl ?_))
      exact j_go (h9 out true ov (by rw [hst]; unfold stepP; simp) hbd.1) [0, 0, 0] [] ⟨rfl, rfl, rfl, rfl, rfl, trivial⟩ rfl
    | false =>
      obtain ⟨mp, mo_, rfl, ro⟩ := hor.resolve_left (by omega)
      have hr3 := fun L => rcells_rd3 (ro L) hlt
      cases hle : lessB ((o1, o2), o3) xs[i] with
      | true =>
        have hst' : foldP (xs.take (i + 1)) ((o1, o2), o3) = ((out ++ [((o1, o2), o3)]) ++ (if oneB xs[i] ((o1, o2), o3) = true then [] else [xs[i]]), true) := by rw [hst]; unfold stepP; simp [hle]
        generalize xs[i] = y at hle hr3
        obtain ⟨⟨y1, y2⟩, y3⟩ := y
        (refine j_nm rfl ?_; repeat (first | refine jo_cons ?_ | (refine jo_iso ?_; first | (refine jo_isbin ?_; first | refine jo_v (by first | exact pv_add rfl rfl (by omega) | exact pv_sub rfl rfl (by omega)) rfl ?_ | refine jo_pure tab_ok rfl rfl ?_ | refine jo_v (by first | exact pv_add64 rfl rfl | exact pv_ptr_eq tab_ok rfl rfl rfl | exact pv_ptr_ne tab_ok rfl rfl rfl | exact pv_if_eq tab_ok rfl rfl rfl (.inl rfl) | exact pv_if_eq tab_ok rfl rfl rfl (.inr ⟨_, _, rfl⟩) | exact pv_if_ne tab_ok rfl rfl rfl (.inl rfl) | exact pv_if_ne tab_ok rfl rfl rfl (.inr ⟨_, _, rfl⟩)) rfl ?_) | refine jo_pure tab_ok rfl rfl ?_ | refine jo_want rfl ?_ | refine jo_skip rfl rfl ?_ | refine jo_load tab_ok rfl rfl rfl (by first | ((repeat first | exact Rd.here rfl | refine Rd.there ?_); done) | assumption) rfl ?_) | refine jo_nil ?_ | refine jc_seq ?_ | refine jc_skip ?_ | refine jc_region ?_ | refine jc_block ?_ | refine jc_ret ?_ | refine jc_exit ?_ | refine jx_then ?_ | refine jx_then_exit ?_ | refine jx_then_ret ?_ | refine jx_block ?_ | refine jx_block_ret ?_ | refine jx_block_hit ?_ | refine jx_block_miss rfl ?_ | refine jc_true rfl ?_ | refine jc_false rfl ?_))
        refine jc_drawh 99 [(mp, mo_ + i * 3, I y1), (mp, mo_ + i * 3 + 1, I y2), (mp, mo_ + i * 3 + 2, I y3), (q, 0, I o1), (q, 1, I o2), (q, 2, I o3)] mo (.cons (.there (.there ((hr3 _).one (k := 0) rfl))) (.cons (.there (.there ((hr3 _).one (k := 1) rfl))) (.cons (.there (.there ((hr3 _).one (k := 2) rfl))) (.cons (by first | ((repeat first | exact Rd.here rfl | refine Rd.there ?_); done) | assumption) (.cons (by first | ((repeat first | exact Rd.here rfl | refine Rd.there ?_); done) | assumption) (.cons (by first | ((repeat first | exact Rd.here rfl | refine Rd.there ?_); done) | assumption) .nil)))))) fun hrd => ?_
        refine jh_one 0 rfl (by kernel_rfl) (jo_pure tab_ok rfl rfl (jh_back hrd fun hrd => ?_))
        refine jh_one 1 rfl (by kernel_rfl) (jo_pure tab_ok rfl rfl (jh_back hrd fun hrd => ?_))
        refine jh_one 2 rfl (by kernel_rfl) (jo_pure tab_ok rfl rfl (jh_back hrd fun hrd => ?_))
        refine jh_sg 3 rfl (by kernel_rfl) rfl (ps_load3 tab_ok 3 4 5 rfl rfl rfl rfl rfl rfl rfl) rfl hrd ?_
        refine jh_pureg tab_ok 4 rfl (by kernel_rfl) rfl rfl rfl hrd ?_
        refine jh_pureg tab_ok 5 rfl (by kernel_rfl) rfl rfl rfl hrd ?_
        refine jh_sg 6 rfl (by kernel_rfl) rfl ((pv_index tab_ok i rfl rfl rfl rfl rfl rfl (by omega)).ps) rfl hrd ?_
        refine jh_sg 7 rfl (by kernel_rfl) rfl (ps_load3 tab_ok 0 1 2 rfl rfl rfl rfl rfl rfl rfl) rfl hrd ?_
        refine jh_one 8 rfl (by kernel_rfl) ?_
        refine jo_want rfl ?_
        refine jo_call [] (less_tri ((o1, o2), o3) ((y1, y2), y3)) ent30 rfl ⟨rfl, rfl⟩ rfl ?_
        rintro v B ⟨rfl, rfl⟩
        rw [hle]
        refine j_nm rfl ?_
        refine jh_back hrd fun hrd => ?_
        refine jh_one 9 rfl (by kernel_rfl) (jo_pure tab_ok rfl rfl (jh_back hrd fun hrd => ?_))
        refine jh_done (by kernel_rfl) ?_
        (refine j_nm rfl ?_; repeat (first | refine jo_cons ?_ | (refine jo_iso ?_; first | (refine jo_isbin ?_; first | refine jo_v (by first | exact pv_add rfl rfl (by omega) | exact pv_sub rfl rfl (by omega)) rfl ?_ | refine jo_pure tab_ok rfl rfl ?_ | refine jo_v (by first | exact pv_add64 rfl rfl | exact pv_ptr_eq tab_ok rfl rfl rfl | exact pv_ptr_ne tab_ok rfl rfl rfl | exact pv_if_eq tab_ok rfl rfl rfl (.inl rfl) | exact pv_if_eq tab_ok rfl rfl rfl (.inr ⟨_, _, rfl⟩) | exact pv_if_ne tab_ok rfl rfl rfl (.inl rfl) | exact pv_if_ne tab_ok rfl rfl rfl (.inr ⟨_, _, rfl⟩)) rfl ?_) | refine jo_pure tab_ok rfl rfl ?_ | refine jo_want rfl ?_ | refine jo_skip rfl rfl ?_ | refine jo_load tab_ok rfl rfl rfl (by first | ((repeat first | exact Rd.here rfl | refine Rd.there ?_); done) | assumption) rfl ?_) | refine jo_nil ?_ | refine jc_seq ?_ | refine jc_skip ?_ | refine jc_region ?_ | refine jc_block ?_ | refine jc_ret ?_ | refine jc_exit ?_ | refine jx_then ?_ | refine jx_then_exit ?_ | refine jx_then_ret ?_ | refine jx_block ?_ | refine jx_block_ret ?_ | refine jx_block_hit ?_ | refine jx_block_miss rfl ?_ | refine jc_true rfl ?_ | refine jc_false rfl ?_))
        refine jo_load_agg tab_ok (vs := [I o1, I o2, I o3]) rfl rfl rfl rfl (.there Rd.all) rfl (jo_cons ?_)
        refine jo_buildSlice tab_ok (cs := [I o1, I o2, I o3]) rfl rfl rfl rfl rfl rfl (by first | (simp [Instr.fill]; done) | simp [Instr.fill, Value.cells]) rfl fun bA => ?_
        (refine j_nm rfl ?_; repeat (first | refine jo_cons ?_ | (refine jo_iso ?_; first | (refine jo_isbin ?_; first | refine jo_v (by first | exact pv_add rfl rfl (by omega) | exact pv_sub rfl rfl (by omega)) rfl ?_ | refine jo_pure tab_ok rfl rfl ?_ | refine jo_v (by first | exact pv_add64 rfl rfl | exact pv_ptr_eq tab_ok rfl rfl rfl | exact pv_ptr_ne tab_ok rfl rfl rfl | exact pv_if_eq tab_ok rfl rfl rfl (.inl rfl) | exact pv_if_eq tab_ok rfl rfl rfl (.inr ⟨_, _, rfl⟩) | exact pv_if_ne tab_ok rfl rfl rfl (.inl rfl) | exact pv_if_ne tab_ok rfl rfl rfl (.inr ⟨_, _, rfl⟩)) rfl ?_) | refine jo_pure tab_ok rfl rfl ?_ | refine jo_want rfl ?_ | refine jo_skip rfl rfl ?_ | refine jo_load tab_ok rfl rfl rfl (by first | ((repeat first | exact Rd.here rfl | refine Rd.there ?_); done) | assumption) rfl ?_) | refine jo_nil ?_ | refine jc_seq ?_ | refine jc_skip ?_ | refine jc_region ?_ | refine jc_block ?_ | refine jc_ret ?_ | refine jc_exit ?_ | refine jx_then ?_ | refine jx_then_exit ?_ | refine jx_then_ret ?_ | refine jx_block ?_ | refine jx_block_ret ?_ | refine jx_block_hit ?_ | refine jx_block_miss rfl ?_ | refine jc_true rfl ?_ | refine jc_false rfl ?_))
        refine jo_append tab_ok 1 [I o1, I o2, I o3] rfl rfl rfl rfl rfl rfl ⟨rfl, rfl⟩ rfl (.inr ⟨bA, 0, rfl, Rd.all⟩) (by simp [Hp.one]) (by intro len' hl'; rw [rcells_len] at hl'; have hl'' : out.length * 3 = len' * 3 := hl'; exact ⟨by show (len' + 1) * 24 ≤ _; omega, by simp only [maxLen]; omega⟩) rfl fun v' => ?_
        rw [rcells_snoc out ((o1, o2), o3)]
        (refine j_nm rfl ?_; repeat (first | refine jo_cons ?_ | (refine jo_iso ?_; first | (refine jo_isbin ?_; first | refine jo_v (by first | exact pv_add rfl rfl (by omega) | exact pv_sub rfl rfl (by omega)) rfl ?_ | refine jo_pure tab_ok rfl rfl ?_ | refine jo_v (by first | exact pv_add64 rfl rfl | exact pv_ptr_eq tab_ok rfl rfl rfl | exact pv_ptr_ne tab_ok rfl rfl rfl | exact pv_if_eq tab_ok rfl rfl rfl (.inl rfl) | exact pv_if_eq tab_ok rfl rfl rfl (.inr ⟨_, _, rfl⟩) | exact pv_if_ne tab_ok rfl rfl rfl (.inl rfl) | exact pv_if_ne tab_ok rfl rfl rfl (.inr ⟨_, _, rfl⟩)) rfl ?_) | refine jo_pure tab_ok rfl rfl ?_ | refine jo_want rfl ?_ | refine jo_skip rfl rfl ?_ | refine jo_load tab_ok rfl rfl rfl (by first | ((repeat first | exact Rd.here rfl | refine Rd.there ?_); done) | assumption) rfl ?_) | refine jo_nil ?_ | refine jc_skip ?_ | refine jc_region ?_ | refine jc_block ?_ | refine jc_ret ?_ | refine jc_exit ?_ | refine jx_then ?_ | refine jx_then_exit ?_ | refine jx_then_ret ?_ | refine jx_block ?_ | refine jx_block_ret ?_ | refine jx_block_hit ?_ | refine jx_block_miss rfl ?_ | refine jc_true rfl ?_ | refine jc_false rfl ?_))
        have hb2 := hbd.2 rfl
        exact j_go (h9 (out ++ [((o1, o2), o3)]) true v' hst' (by rw [List.length_append]; simpa using hb2)) [0, 0, 0] [1] ⟨rfl, rfl, rfl, rfl, rfl, trivial⟩ rfl
      | false =>
        have hst' : foldP (xs.take (i + 1)) ((o1, o2), o3) = (out ++ (if oneB xs[i] ((o1, o2), o3) = true then [] else [xs[i]]), false) := by rw [hst]; unfold stepP; simp [hle]
        generalize xs[i] = y at hle hr3
        obtain ⟨⟨y1, y2⟩, y3⟩ := y
        (refine j_nm rfl ?_; repeat (first | refine jo_cons ?_ | (refine jo_iso ?_; first | (refine jo_isbin ?_; first | refine jo_v (by first | exact pv_add rfl rfl (by omega) | exact pv_sub rfl rfl (by omega)) rfl ?_ | refine jo_pure tab_ok rfl rfl ?_ | refine jo_v (by first | exact pv_add64 rfl rfl | exact pv_ptr_eq tab_ok rfl rfl rfl | exact pv_ptr_ne tab_ok rfl rfl rfl | exact pv_if_eq tab_ok rfl rfl rfl (.inl rfl) | exact pv_if_eq tab_ok rfl rfl rfl (.inr ⟨_, _, rfl⟩) | exact pv_if_ne tab_ok rfl rfl rfl (.inl rfl) | exact pv_if_ne tab_ok rfl rfl rfl (.inr ⟨_, _, rfl⟩)) rfl ?_) | refine jo_pure tab_ok rfl rfl ?_ | refine jo_want rfl ?_ | refine jo_skip rfl rfl ?_ | refine jo_load tab_ok rfl rfl rfl (by first | ((repeat first | exact Rd.here rfl | refine Rd.there ?_); done) | assumption) rfl ?_) | refine jo_nil ?_ | refine jc_seq ?_ | refine jc_skip ?_ | refine jc_region ?_ | refine jc_block ?_ | refine jc_ret ?_ | refine jc_exit ?_ | refine jx_then ?_ | refine jx_then_exit ?_ | refine jx_then_ret ?_ | refine jx_block ?_ | refine jx_block_ret ?_ | refine jx_block_hit ?_ | refine jx_block_miss rfl ?_ | refine jc_true rfl ?_ | refine jc_false rfl ?_))
        refine jc_drawh 99 [(mp, mo_ + i * 3, I y1), (mp, mo_ + i * 3 + 1, I y2), (mp, mo_ + i * 3 + 2, I y3), (q, 0, I o1), (q, 1, I o2), (q, 2, I o3)] mo (.cons (.there (.there ((hr3 _).one (k := 0) rfl))) (.cons (.there (.there ((hr3 _).one (k := 1) rfl))) (.cons (.there (.there ((hr3 _).one (k := 2) rfl))) (.cons (by first | ((repeat first | exact Rd.here rfl | refine Rd.there ?_); done) | assumption) (.cons (by first | ((repeat first | exact Rd.here rfl | refine Rd.there ?_); done) | assumption) (.cons (by first | ((repeat first | exact Rd.here rfl | refine Rd.there ?_); done) | assumption) .nil)))))) fun hrd => ?_
        refine jh_one 0 rfl (by kernel_rfl) (jo_pure tab_ok rfl rfl (jh_back hrd fun hrd => ?_))
        refine jh_one 1 rfl (by kernel_rfl) (jo_pure tab_ok rfl rfl (jh_back hrd fun hrd => ?_))
        refine jh_one 2 rfl (by kernel_rfl) (jo_pure tab_ok rfl rfl (jh_back hrd fun hrd => ?_))
        refine jh_sg 3 rfl (by kernel_rfl) rfl (ps_load3 tab_ok 3 4 5 rfl rfl rfl rfl rfl rfl rfl) rfl hrd ?_
        refine jh_pureg tab_ok 4 rfl (by kernel_rfl) rfl rfl rfl hrd ?_
        refine jh_pureg tab_ok 5 rfl (by kernel_rfl) rfl rfl rfl hrd ?_
        refine jh_sg 6 rfl (by kernel_rfl) rfl ((pv_index tab_ok i rfl rfl rfl rfl rfl rfl (by omega)).ps) rfl hrd ?_
        refine jh_sg 7 rfl (by kernel_rfl) rfl (ps_load3 tab_ok 0 1 2 rfl rfl rfl rfl rfl rfl rfl) rfl hrd ?_
        refine jh_one 8 rfl (by kernel_rfl) ?_
        refine jo_want rfl ?_
        refine jo_call [] (less_tri ((o1, o2), o3) ((y1, y2), y3)) ent30 rfl ⟨rfl, rfl⟩ rfl ?_
        rintro v B ⟨rfl, rfl⟩
        rw [hle]
        refine j_nm rfl ?_
        refine jh_back hrd fun hrd => ?_
        refine jh_one 9 rfl (by kernel_rfl) (jo_pure tab_ok rfl rfl (jh_back hrd fun hrd => ?_))
        refine jh_done (by kernel_rfl) ?_
        (refine j_nm rfl ?_; repeat (first | refine jo_cons ?_ | (refine jo_iso ?_; first | (refine jo_isbin ?_; first | refine jo_v (by first | exact pv_add rfl rfl (by omega) | exact pv_sub rfl rfl (by omega)) rfl ?_ | refine jo_pure tab_ok rfl rfl ?_ | refine jo_v (by first | exact pv_add64 rfl rfl | exact pv_ptr_eq tab_ok rfl rfl rfl | exact pv_ptr_ne tab_ok rfl rfl rfl | exact pv_if_eq tab_ok rfl rfl rfl (.inl rfl) | exact pv_if_eq tab_ok rfl rfl rfl (.inr ⟨_, _, rfl⟩) | exact pv_if_ne tab_ok rfl rfl rfl (.inl rfl) | exact pv_if_ne tab_ok rfl rfl rfl (.inr ⟨_, _, rfl⟩)) rfl ?_) | refine jo_pure tab_ok rfl rfl ?_ | refine jo_want rfl ?_ | refine jo_skip rfl rfl ?_ | refine jo_load tab_ok rfl rfl rfl (by first | ((repeat first | exact Rd.here rfl | refine Rd.there ?_); done) | assumption) rfl ?_) | refine jo_nil ?_ | refine jc_skip ?_ | refine jc_region ?_ | refine jc_block ?_ | refine jc_ret ?_ | refine jc_exit ?_ | refine jx_then ?_ | refine jx_then_exit ?_ | refine jx_then_ret ?_ | refine jx_block ?_ | refine jx_block_ret ?_ | refine jx_block_hit ?_ | refine jx_block_miss rfl ?_ | refine jc_true rfl ?_ | refine jc_false rfl ?_))
        exact j_go (h9 out false ov hst' hbd.1) [0, 0, 0] [] ⟨rfl, rfl, rfl, rfl, rfl, trivial⟩ rfl
  · have hik : i = k := by have h' : ¬ (i : Int) < k := h; omega
    have ef : foldP xs ((o1, o2), o3) = (out, put) := by rw [← hf, List.take_of_length_le (by omega)]
    cases put with
    | true =>
      have ep : putR xs ((o1, o2), o3) = out := by unfold putR; rw [ef]; rfl
      (refine j_nm rfl ?_; repeat (first | refine jo_cons ?_ | (refine jo_iso ?_; first | (refine jo_isbin ?_; first | refine jo_v (by first | exact pv_add rfl rfl (by omega) | exact pv_sub rfl rfl (by omega)) rfl ?_ | refine jo_pure tab_ok rfl rfl ?_ | refine jo_v (by first | exact pv_add64 rfl rfl | exact pv_ptr_eq tab_ok rfl rfl rfl | exact pv_ptr_ne tab_ok rfl rfl rfl | exact pv_if_eq tab_ok rfl rfl rfl (.inl rfl) | exact pv_if_eq tab_ok rfl rfl rfl (.inr ⟨_, _, rfl⟩) | exact pv_if_ne tab_ok rfl rfl rfl (.inl rfl) | exact pv_if_ne tab_ok rfl rfl rfl (.inr ⟨_, _, rfl⟩)) rfl ?_) | refine jo_pure tab_ok rfl rfl ?_ | refine jo_want rfl ?_ | refine jo_skip rfl rfl ?_ | refine jo_load tab_ok rfl rfl rfl (by first | ((repeat first | exact Rd.here rfl | refine Rd.there ?_); done) | assumption) rfl ?_) | refine jo_nil ?_ | refine jc_seq ?_ | refine jc_skip ?_ | refine jc_region ?_ | refine jc_block ?_ | refine jc_ret ?_ | refine jc_exit ?_ | refine jx_then ?_ | refine jx_then_exit ?_ | refine jx_then_ret ?_ | refine jx_block ?_ | refine jx_block_ret ?_ | refine jx_block_hit ?_ | refine jx_block_miss rfl ?_ | refine jc_true rfl ?_ | refine jc_false rfl ?_))
      exact j_ret [0, 0] [1] rfl (by show _ = _; rw [ep]; rfl) ⟨rfl, rfl⟩
    | false =>
      have ep : putR xs ((o1, o2), o3) = out ++ [((o1, o2), o3)] := by unfold putR; rw [ef]; rfl
      have hb2 := hbd.2 rfl
      (refine j_nm rfl ?_; repeat (first | refine jo_cons ?_ | (refine jo_iso ?_; first | (refine jo_isbin ?_; first | refine jo_v (by first | exact pv_add rfl rfl (by omega) | exact pv_sub rfl rfl (by omega)) rfl ?_ | refine jo_pure tab_ok rfl rfl ?_ | refine jo_v (by first | exact pv_add64 rfl rfl | exact pv_ptr_eq tab_ok rfl rfl rfl | exact pv_ptr_ne tab_ok rfl rfl rfl | exact pv_if_eq tab_ok rfl rfl rfl (.inl rfl) | exact pv_if_eq tab_ok rfl rfl rfl (.inr ⟨_, _, rfl⟩) | exact pv_if_ne tab_ok rfl rfl rfl (.inl rfl) | exact pv_if_ne tab_ok rfl rfl rfl (.inr ⟨_, _, rfl⟩)) rfl ?_) | refine jo_pure tab_ok rfl rfl ?_ | refine jo_want rfl ?_ | refine jo_skip rfl rfl ?_ | refine jo_load tab_ok rfl rfl rfl (by first | ((repeat first | exact Rd.here rfl | refine Rd.there ?_); done) | assumption) rfl ?_) | refine jo_nil ?_ | refine jc_seq ?_ | refine jc_skip ?_ | refine jc_region ?_ | refine jc_block ?_ | refine jc_ret ?_ | refine jc_exit ?_ | refine jx_then ?_ | refine jx_then_exit ?_ | refine jx_then_ret ?_ | refine jx_block ?_ | refine jx_block_ret ?_ | refine jx_block_hit ?_ | refine jx_block_miss rfl ?_ | refine jc_true rfl ?_ | refine jc_false rfl ?_))
      refine jo_load_agg tab_ok (vs := [I o1, I o2, I o3]) rfl rfl rfl rfl (.there Rd.all) rfl (jo_cons ?_)
      refine jo_buildSlice tab_ok (cs := [I o1, I o2, I o3]) rfl rfl rfl rfl rfl rfl (by first | (simp [Instr.fill]; done) | simp [Instr.fill, Value.cells]) rfl fun bA => ?_
      (refine j_nm rfl ?_; repeat (first | refine jo_cons ?_ | (refine jo_iso ?_; first | (refine jo_isbin ?_; first | refine jo_v (by first | exact pv_add rfl rfl (by omega) | exact pv_sub rfl rfl (by omega)) rfl ?_ | refine jo_pure tab_ok rfl rfl ?_ | refine jo_v (by first | exact pv_add64 rfl rfl | exact pv_ptr_eq tab_ok rfl rfl rfl | exact pv_ptr_ne tab_ok rfl rfl rfl | exact pv_if_eq tab_ok rfl rfl rfl (.inl rfl) | exact pv_if_eq tab_ok rfl rfl rfl (.inr ⟨_, _, rfl⟩) | exact pv_if_ne tab_ok rfl rfl rfl (.inl rfl) | exact pv_if_ne tab_ok rfl rfl rfl (.inr ⟨_, _, rfl⟩)) rfl ?_) | refine jo_pure tab_ok rfl rfl ?_ | refine jo_want rfl ?_ | refine jo_skip rfl rfl ?_ | refine jo_load tab_ok rfl rfl rfl (by first | ((repeat first | exact Rd.here rfl | refine Rd.there ?_); done) | assumption) rfl ?_) | refine jo_nil ?_ | refine jc_seq ?_ | refine jc_skip ?_ | refine jc_region ?_ | refine jc_block ?_ | refine jc_ret ?_ | refine jc_exit ?_ | refine jx_then ?_ | refine jx_then_exit ?_ | refine jx_then_ret ?_ | refine jx_block ?_ | refine jx_block_ret ?_ | refine jx_block_hit ?_ | refine jx_block_miss rfl ?_ | refine jc_true rfl ?_ | refine jc_false rfl ?_))
      refine jo_append tab_ok 1 [I o1, I o2, I o3] rfl rfl rfl rfl rfl rfl ⟨rfl, rfl⟩ rfl (.inr ⟨bA, 0, rfl, Rd.all⟩) (by simp [Hp.one]) (by intro len' hl'; rw [rcells_len] at hl'; have hl'' : out.length * 3 = len' * 3 := hl'; exact ⟨by show (len' + 1) * 24 ≤ _; omega, by simp only [maxLen]; omega⟩) rfl fun v' => ?_
      rw [rcells_snoc out ((o1, o2), o3)]
      (refine j_nm rfl ?_; repeat (first | refine jo_cons ?_ | (refine jo_iso ?_; first | (refine jo_isbin ?_; first | refine jo_v (by first | exact pv_add rfl rfl (by omega) | exact pv_sub rfl rfl (by omega)) rfl ?_ | refine jo_pure tab_ok rfl rfl ?_ | refine jo_v (by first | exact pv_add64 rfl rfl | exact pv_ptr_eq tab_ok rfl rfl rfl | exact pv_ptr_ne tab_ok rfl rfl rfl | exact pv_if_eq tab_ok rfl rfl rfl (.inl rfl) | exact pv_if_eq tab_ok rfl rfl rfl (.inr ⟨_, _, rfl⟩) | exact pv_if_ne tab_ok rfl rfl rfl (.inl rfl) | exact pv_if_ne tab_ok rfl rfl rfl (.inr ⟨_, _, rfl⟩)) rfl ?_) | refine jo_pure tab_ok rfl rfl ?_ | refine jo_want rfl ?_ | refine jo_skip rfl rfl ?_ | refine jo_load tab_ok rfl rfl rfl (by first | ((repeat first | exact Rd.here rfl | refine Rd.there ?_); done) | assumption) rfl ?_) | refine jo_nil ?_ | refine jc_seq ?_ | refine jc_skip ?_ | refine jc_region ?_ | refine jc_block ?_ | refine jc_ret ?_ | refine jc_exit ?_ | refine jx_then ?_ | refine jx_then_exit ?_ | refine jx_then_ret ?_ | refine jx_block ?_ | refine jx_block_ret ?_ | refine jx_block_hit ?_ | refine jx_block_miss rfl ?_ | refine jc_true rfl ?_ | refine jc_false rfl ?_))
      exact j_ret [0, 0] [1, 1] rfl (by show _ = _; rw [ep]; rfl) ⟨rfl, rfl⟩
end Rp
end Go.Proofs.Ytiikdofbaoidcaa
