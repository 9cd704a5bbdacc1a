import Derived.Test.YtejaonodaplbhaaDoorSp6
namespace Go.Proofs.YtejaonodaplbhaaDoor
namespace S7
open Go Go.Proofs.YtejaonodaplbhaaDoor.Hp Sp S2 S3 S4 S5 S6
set_option maxRecDepth 10000
set_option linter.unusedVariables false
set_option linter.unusedSimpArgs false
attribute [local irreducible] wpList Code.wp wpAny wpAnyK
def tab : Tab := [
  ⟨3, .int .i64, 1, 8, [.int .i64 0]⟩,
  ⟨4, .bool, 1, 1, [.bool false]⟩,
  ⟨47, .slice 3, 1, 24, [.slice none 0 0]⟩,
  ⟨30, .iface, 1, 16, [.nilIface]⟩,
  ⟨35, .struct [(0, 33)], 1, 24, [.slice none 0 0]⟩,
  ⟨33, .slice 51, 1, 24, [.slice none 0 0]⟩,
  ⟨51, .struct [(0, 3), (1, 3)], 2, 16, [.int .i64 0, .int .i64 0]⟩,
  ⟨79, .pointer 104, 1, 8, [.pointer none]⟩,
  ⟨81, .struct [(0, 79), (1, 79), (2, 79)], 3, 24, [.pointer none, .pointer none, .pointer none]⟩,
  ⟨77, .pointer 81, 1, 8, [.pointer none]⟩,
  ⟨69, .slice 77, 1, 24, [.slice none 0 0]⟩,
  ⟨71, .struct [(0, 35), (1, 69)], 2, 48, [.slice none 0 0, .slice none 0 0]⟩,
  ⟨68, .pointer 71, 1, 8, [.pointer none]⟩,
  ⟨73, .struct [(0, 68), (1, 68)], 2, 16, [.pointer none, .pointer none]⟩,
  ⟨28, .pointer 73, 1, 8, [.pointer none]⟩,
  ⟨115, .array 3 79, 3, 24, [.pointer none, .pointer none, .pointer none]⟩,
  ⟨116, .slice 79, 1, 24, [.slice none 0 0]⟩,
  ⟨76, .int .i64, 1, 8, [.int .i64 0]⟩]
theorem tab_3 : TE.ok Tryd.prog ⟨3, .int .i64, 1, 8, [.int .i64 0]⟩ := ⟨by kernel_rfl, by kernel_rfl, by kernel_rfl, by kernel_rfl⟩
theorem tab_4 : TE.ok Tryd.prog ⟨4, .bool, 1, 1, [.bool false]⟩ := ⟨by kernel_rfl, by kernel_rfl, by kernel_rfl, by kernel_rfl⟩
theorem tab_47 : TE.ok Tryd.prog ⟨47, .slice 3, 1, 24, [.slice none 0 0]⟩ := ⟨by kernel_rfl, by kernel_rfl, by kernel_rfl, by kernel_rfl⟩
theorem tab_30 : TE.ok Tryd.prog ⟨30, .iface, 1, 16, [.nilIface]⟩ := ⟨by kernel_rfl, by kernel_rfl, by kernel_rfl, by kernel_rfl⟩
theorem tab_35 : TE.ok Tryd.prog ⟨35, .struct [(0, 33)], 1, 24, [.slice none 0 0]⟩ := ⟨by kernel_rfl, by kernel_rfl, by kernel_rfl, by kernel_rfl⟩
theorem tab_33 : TE.ok Tryd.prog ⟨33, .slice 51, 1, 24, [.slice none 0 0]⟩ := ⟨by kernel_rfl, by kernel_rfl, by kernel_rfl, by kernel_rfl⟩
theorem tab_51 : TE.ok Tryd.prog ⟨51, .struct [(0, 3), (1, 3)], 2, 16, [.int .i64 0, .int .i64 0]⟩ := ⟨by kernel_rfl, by kernel_rfl, by kernel_rfl, by kernel_rfl⟩
theorem tab_79 : TE.ok Tryd.prog ⟨79, .pointer 104, 1, 8, [.pointer none]⟩ := ⟨by kernel_rfl, by kernel_rfl, by kernel_rfl, by kernel_rfl⟩
theorem tab_81 : TE.ok Tryd.prog ⟨81, .struct [(0, 79), (1, 79), (2, 79)], 3, 24, [.pointer none, .pointer none, .pointer none]⟩ := ⟨by kernel_rfl, by kernel_rfl, by kernel_rfl, by kernel_rfl⟩
theorem tab_77 : TE.ok Tryd.prog ⟨77, .pointer 81, 1, 8, [.pointer none]⟩ := ⟨by kernel_rfl, by kernel_rfl, by kernel_rfl, by kernel_rfl⟩
theorem tab_69 : TE.ok Tryd.prog ⟨69, .slice 77, 1, 24, [.slice none 0 0]⟩ := ⟨by kernel_rfl, by kernel_rfl, by kernel_rfl, by kernel_rfl⟩
theorem tab_71 : TE.ok Tryd.prog ⟨71, .struct [(0, 35), (1, 69)], 2, 48, [.slice none 0 0, .slice none 0 0]⟩ := ⟨by kernel_rfl, by kernel_rfl, by kernel_rfl, by kernel_rfl⟩
theorem tab_68 : TE.ok Tryd.prog ⟨68, .pointer 71, 1, 8, [.pointer none]⟩ := ⟨by kernel_rfl, by kernel_rfl, by kernel_rfl, by kernel_rfl⟩
theorem tab_73 : TE.ok Tryd.prog ⟨73, .struct [(0, 68), (1, 68)], 2, 16, [.pointer none, .pointer none]⟩ := ⟨by kernel_rfl, by kernel_rfl, by kernel_rfl, by kernel_rfl⟩
theorem tab_28 : TE.ok Tryd.prog ⟨28, .pointer 73, 1, 8, [.pointer none]⟩ := ⟨by kernel_rfl, by kernel_rfl, by kernel_rfl, by kernel_rfl⟩
theorem tab_115 : TE.ok Tryd.prog ⟨115, .array 3 79, 3, 24, [.pointer none, .pointer none, .pointer none]⟩ := ⟨by kernel_rfl, by kernel_rfl, by kernel_rfl, by kernel_rfl⟩
theorem tab_116 : TE.ok Tryd.prog ⟨116, .slice 79, 1, 24, [.slice none 0 0]⟩ := ⟨by kernel_rfl, by kernel_rfl, by kernel_rfl, by kernel_rfl⟩
theorem tab_76 : TE.ok Tryd.prog ⟨76, .int .i64, 1, 8, [.int .i64 0]⟩ := ⟨by kernel_rfl, by kernel_rfl, by kernel_rfl, by kernel_rfl⟩
theorem tab_ok : tab.ok Tryd.prog := by
  intro e he
  simp only [tab, List.mem_cons, List.not_mem_nil, or_false] at he
  rcases he with rfl | rfl | rfl | rfl | rfl | rfl | rfl | rfl | rfl | rfl | rfl | rfl | rfl | rfl | rfl | rfl | rfl | rfl
  · exact tab_3
  · exact tab_4
  · exact tab_47
  · exact tab_30
  · exact tab_35
  · exact tab_33
  · exact tab_51
  · exact tab_79
  · exact tab_81
  · exact tab_77
  · exact tab_69
  · exact tab_71
  · exact tab_68
  · exact tab_73
  · exact tab_28
  · exact tab_115
  · exact tab_116
  · exact tab_76


theorem ent31 : Enters Tryd.prog 31 := ⟨_, _, Tryd.func31, by kernel_rfl, rfl⟩

def noSh : Shl := ⟨[], [], []⟩
/-- the shelves behind a turn -/
def turned : List Shl → List Ent → List Shl
  | s :: ss, e :: es => Shl.grow s e.2 :: turned ss es
  | [], e :: es => Shl.grow noSh e.2 :: turned [] es
  | ss, [] => ss
theorem turned_len : ∀ (ss : List Shl) (es : List Ent), ss.length ≤ es.length → (turned ss es).length = es.length
  | s :: ss, e :: es, h => by simp only [turned, List.length_cons]; rw [turned_len ss es (by simpa using h)]
  | [], e :: es, _ => by simp only [turned, List.length_cons]; rw [turned_len [] es (by simp)]
  | [], [], _ => rfl
  | _ :: _, [], h => by simp at h
theorem turned_at : ∀ (ss : List Shl) (es : List Ent) (i : Nat) (e : Ent), es[i]? = some e → (turned ss es)[i]? = some (Shl.grow ((ss[i]?).getD noSh) e.2)
  | s :: ss, e' :: es, 0, e, h => by simp at h; subst h; simp [turned]
  | s :: ss, e' :: es, i + 1, e, h => by simp at h; simpa [turned] using turned_at ss es i e h
  | [], e' :: es, 0, e, h => by simp at h; subst h; simp [turned]
  | [], e' :: es, i + 1, e, h => by simp at h; simpa [turned] using turned_at [] es i e h
  | [], [], _, _, h => by simp at h
  | _ :: _, [], _, _, h => by simp at h
/-- so far -/
def part (ss : List Shl) (es : List Ent) (i : Nat) : List Shl := (turned ss es).take i ++ ss.drop i
theorem part_len {ss : List Shl} {es : List Ent} {i : Nat} (h : ss.length ≤ es.length) (hi : i ≤ es.length) : (part ss es i).length = max i ss.length := by
  unfold part
  rw [List.length_append, List.length_take, List.length_drop, turned_len ss es h]
  omega
theorem part_zero {ss : List Shl} {es : List Ent} : part ss es 0 = ss := by simp [part]
theorem part_all {ss : List Shl} {es : List Ent} (h : ss.length ≤ es.length) : part ss es es.length = turned ss es := by
  unfold part
  rw [List.take_of_length_le (by rw [turned_len ss es h]; omega), List.drop_eq_nil_of_le h, List.append_nil]
theorem part_here {ss : List Shl} {es : List Ent} {i : Nat} {s : Shl} {e : Ent} (h : ss.length ≤ es.length) (hs : ss[i]? = some s) (he : es[i]? = some e) :
    (part ss es i)[i]? = some s ∧ (part ss es i).set i (Shl.grow s e.2) = part ss es (i + 1) := by
  have hi : i < ss.length := (List.getElem?_eq_some_iff.1 hs).1
  have hl : ((turned ss es).take i).length = i := by rw [List.length_take, turned_len ss es h]; omega
  have ht := turned_at ss es i e he
  rw [hs] at ht
  simp only [Option.getD_some] at ht
  have hd : ss.drop i = s :: ss.drop (i + 1) := by rw [List.drop_eq_getElem_cons hi]; rw [List.getElem?_eq_getElem hi] at hs; cases hs; rfl
  have hti : i < (turned ss es).length := (List.getElem?_eq_some_iff.1 ht).1
  refine ⟨?_, ?_⟩
  · unfold part
    rw [List.getElem?_append_right (by omega), hl, Nat.sub_self, hd]
    rfl
  · unfold part
    rw [List.set_append_right _ _ (by omega), hl, Nat.sub_self, hd, List.take_succ_eq_append_getElem hti]
    rw [List.getElem?_eq_getElem hti] at ht
    rw [Option.some.inj ht, List.append_assoc]
    rfl
theorem part_more {ss : List Shl} {es : List Ent} {i : Nat} {e : Ent} (h : ss.length ≤ es.length) (hs : ss.length ≤ i) (he : es[i]? = some e) :
    (part ss es i ++ [noSh])[i]? = some noSh ∧ (part ss es i ++ [noSh]).set i (Shl.grow noSh e.2) = part ss es (i + 1) := by
  have hl : ((turned ss es).take i).length = i := by
    have := (List.getElem?_eq_some_iff.1 he).1
    rw [List.length_take, turned_len ss es h]; omega
  have ht := turned_at ss es i e he
  rw [List.getElem?_eq_none hs] at ht
  simp only [Option.getD_none] at ht
  have hti : i < (turned ss es).length := (List.getElem?_eq_some_iff.1 ht).1
  have hd : ss.drop i = [] := List.drop_eq_nil_of_le hs
  have hd2 : ss.drop (i + 1) = [] := List.drop_eq_nil_of_le (by omega)
  unfold part
  rw [hd, hd2, List.append_nil, List.append_nil]
  refine ⟨?_, ?_⟩
  · rw [List.getElem?_append_right (by omega), hl, Nat.sub_self]; rfl
  · rw [List.set_append_right _ _ (by omega), hl, Nat.sub_self, List.take_succ_eq_append_getElem hti]
    rw [List.getElem?_eq_getElem hti] at ht
    rw [Option.some.inj ht]
    rfl
theorem grow_okSh {s : Shl} {z z2 : Int} (h : okSh z s) (h0 : 0 ≤ z) (hz : z ≤ z2) : okSh z2 (Shl.grow s z2) :=
  ⟨growL_len (by have := h.t; omega), growL_len (by have := h.f; omega), growL_len (by have := h.g; omega)⟩
theorem noSh_ok : okSh 0 noSh := ⟨rfl, rfl, rfl⟩
theorem fit_size {es es2 : List Ent} {ss : List Shl} (hF : Fit es ss es2) {i : Nat} {a b : Ent} {s : Shl} (h1 : es[i]? = some a) (h2 : es2[i]? = some b) (h3 : ss[i]? = some s) : a.2 ≤ b.2 := by
  have := hF.2 i a b s h1 h2 h3
  simp only [fit1, Bool.not_eq_true', Bool.or_eq_false_iff, decide_eq_false_iff_not] at this
  omega
theorem inv_turned {es es2 : List Ent} {ss : List Shl} (hI : Inv es ss) (hF : Fit es ss es2) (h2 : okR es2 = true) : Inv es2 (turned ss es2) := by
  have hl : ss.length ≤ es2.length := by rw [hI.len]; exact hF.1
  refine ⟨h2, turned_len _ _ hl, fun i b s hb hs => ?_⟩
  rw [turned_at ss es2 i b hb] at hs
  cases hs
  have hzb := okR_size h2 hb
  cases h3 : ss[i]? with
  | none => exact grow_okSh noSh_ok (by omega) hzb.1
  | some s =>
    have hi : i < es.length := by have := (List.getElem?_eq_some_iff.1 h3).1; rw [hI.len] at this; exact this
    have h1 : es[i]? = some es[i] := List.getElem?_eq_getElem hi
    exact grow_okSh (hI.ok i _ _ h1 h3) (okR_size hI.right h1).1 (fit_size hF h1 hb h3)

set_option maxHeartbeats 4000000 in
theorem turn_tri {R R2 : Assn} {es es2 : List Ent} {rv rv2 wv sv : Value} {p s : Nat} {qs : List Nat} {ss : List Shl} (hro : Ro R 2 rv (ecells es)) (hro2 : Ro R2 2 rv2 (ecells es2)) (hq : qs.length = es.length) (hI : Inv es ss) :
    Tri Tryd.prog 31 [ptr p, .agg #[rv2]] [cl p [ptr s, wv] 73, cl s [rv, sv] 71, Ss sv qs, R, many Sh qs ss, R2]
      fun v B => (okR es2 = false ∧ v = err 14 ∧ B = [cl p [ptr s, wv] 73, cl s [rv, sv] 71, Ss sv qs, R, many Sh qs ss, R2]) ∨
        (okR es2 = true ∧ ¬ Fit es ss es2 ∧ v = err 30 ∧ B = [cl p [ptr s, wv] 73, cl s [rv, sv] 71, Ss sv qs, R, many Sh qs ss, R2]) ∨
        (okR es2 = true ∧ Fit es ss es2 ∧ v = .nilIface ∧ ∃ rv' sv' qs', qs'.length = es2.length ∧
          B = [cl p [ptr s, wv] 73, cl s [rv', sv'] 71, Ss sv' qs', R, many Sh qs' (turned ss es2), R2, sl 51 2 rv' (ecells es2)]) := by
  have hro2' := hro2
  have hro' := hro
  obtain ⟨base, len, cap, rfl, hlen, hlm, hor⟩ := hro
  obtain ⟨base2, len2, cap2, rfl, hlen2, hlm2, hor2⟩ := hro2
  rw [ecells_len] at hlen2
  have hlen2 : es2.length = len2 := by omega
  refine tri_introX Tryd.func31 rfl Tryd.ntmps31 rfl fun E X => ?_
  (refine j_nm rfl ?_; repeat (first | refine jo_cons ?_ | (refine jo_iso ?_; first | (refine jo_isbin ?_; first | refine jo_v (by first | exact pv_add rfl rfl (by omega) | exact pv_sub rfl rfl (by omega)) rfl ?_ | refine jo_pure tab_ok rfl rfl ?_ | refine jo_v (by first | exact pv_if_eq tab_ok rfl rfl rfl (.inl rfl) | exact pv_if_eq tab_ok rfl rfl rfl (.inr ⟨_, _, rfl⟩) | exact pv_if_ne tab_ok rfl rfl rfl (.inl rfl) | exact pv_if_ne tab_ok rfl rfl rfl (.inr ⟨_, _, rfl⟩)) rfl ?_) | refine jo_pure tab_ok rfl rfl ?_ | refine jo_want rfl ?_ | refine jo_skip rfl rfl ?_ | refine jo_load tab_ok rfl rfl rfl (by first | ((repeat first | exact Rd.here rfl | refine Rd.there ?_); done) | assumption) rfl ?_) | refine jo_nil ?_ | refine jc_seq ?_ | refine jc_skip ?_ | refine jc_region ?_ | refine jc_block ?_ | refine jc_ret ?_ | refine jc_exit ?_ | refine jx_then ?_ | refine jx_then_exit ?_ | refine jx_then_ret ?_ | refine jx_block ?_ | refine jx_block_ret ?_ | refine jx_block_hit ?_ | refine jx_block_miss rfl ?_ | refine jc_true rfl ?_ | refine jc_false rfl ?_))
  refine jo_box rfl rfl rfl fun q0 => ?_
  (refine j_nm rfl ?_; repeat (first | refine jo_cons ?_ | (refine jo_iso ?_; first | (refine jo_isbin ?_; first | refine jo_v (by first | exact pv_add rfl rfl (by omega) | exact pv_sub rfl rfl (by omega)) rfl ?_ | refine jo_pure tab_ok rfl rfl ?_ | refine jo_v (by first | exact pv_if_eq tab_ok rfl rfl rfl (.inl rfl) | exact pv_if_eq tab_ok rfl rfl rfl (.inr ⟨_, _, rfl⟩) | exact pv_if_ne tab_ok rfl rfl rfl (.inl rfl) | exact pv_if_ne tab_ok rfl rfl rfl (.inr ⟨_, _, rfl⟩)) rfl ?_) | refine jo_pure tab_ok rfl rfl ?_ | refine jo_want rfl ?_ | refine jo_skip rfl rfl ?_ | refine jo_load tab_ok rfl rfl rfl (by first | ((repeat first | exact Rd.here rfl | refine Rd.there ?_); done) | assumption) rfl ?_) | refine jo_nil ?_ | refine jc_seq ?_ | refine jc_skip ?_ | refine jc_region ?_ | refine jc_block ?_ | refine jc_ret ?_ | refine jc_exit ?_ | refine jx_then ?_ | refine jx_then_exit ?_ | refine jx_then_ret ?_ | refine jx_block ?_ | refine jx_block_ret ?_ | refine jx_block_hit ?_ | refine jx_block_miss rfl ?_ | refine jc_true rfl ?_ | refine jc_false rfl ?_))
  refine jo_load_agg tab_ok (vs := [.slice base2 len2 cap2]) rfl rfl rfl rfl (by first | ((repeat first | exact Rd.here rfl | refine Rd.there ?_); done) | assumption) rfl (jo_cons ?_)
  refine jo_call [6] (check_tri hro2') ent61 rfl ⟨rfl, rfl⟩ rfl ?_
  rintro v B ⟨rfl, rfl⟩
  by_cases hok : okR es2 = true
  case neg =>
    rw [if_neg hok]
    (refine j_nm rfl ?_; repeat (first | refine jo_cons ?_ | (refine jo_iso ?_; first | (refine jo_isbin ?_; first | refine jo_v (by first | exact pv_add rfl rfl (by omega) | exact pv_sub rfl rfl (by omega)) rfl ?_ | refine jo_pure tab_ok rfl rfl ?_ | refine jo_v (by first | exact pv_if_eq tab_ok rfl rfl rfl (.inl rfl) | exact pv_if_eq tab_ok rfl rfl rfl (.inr ⟨_, _, rfl⟩) | exact pv_if_ne tab_ok rfl rfl rfl (.inl rfl) | exact pv_if_ne tab_ok rfl rfl rfl (.inr ⟨_, _, rfl⟩)) rfl ?_) | refine jo_pure tab_ok rfl rfl ?_ | refine jo_want rfl ?_ | refine jo_skip rfl rfl ?_ | refine jo_load tab_ok rfl rfl rfl (by first | ((repeat first | exact Rd.here rfl | refine Rd.there ?_); done) | assumption) rfl ?_) | refine jo_nil ?_ | refine jc_seq ?_ | refine jc_skip ?_ | refine jc_region ?_ | refine jc_block ?_ | refine jc_ret ?_ | refine jc_exit ?_ | refine jx_then ?_ | refine jx_then_exit ?_ | refine jx_then_ret ?_ | refine jx_block ?_ | refine jx_block_ret ?_ | refine jx_block_hit ?_ | refine jx_block_miss rfl ?_ | refine jc_true rfl ?_ | refine jc_false rfl ?_))
    exact j_ret [1, 1, 1, 1, 1, 0] [1] rfl (.inl ⟨by simpa using hok, rfl, rfl⟩) ⟨rfl, rfl⟩
  rw [if_pos hok]
  (refine j_nm rfl ?_; repeat (first | refine jo_cons ?_ | (refine jo_iso ?_; first | (refine jo_isbin ?_; first | refine jo_v (by first | exact pv_add rfl rfl (by omega) | exact pv_sub rfl rfl (by omega)) rfl ?_ | refine jo_pure tab_ok rfl rfl ?_ | refine jo_v (by first | exact pv_if_eq tab_ok rfl rfl rfl (.inl rfl) | exact pv_if_eq tab_ok rfl rfl rfl (.inr ⟨_, _, rfl⟩) | exact pv_if_ne tab_ok rfl rfl rfl (.inl rfl) | exact pv_if_ne tab_ok rfl rfl rfl (.inr ⟨_, _, rfl⟩)) rfl ?_) | refine jo_pure tab_ok rfl rfl ?_ | refine jo_want rfl ?_ | refine jo_skip rfl rfl ?_ | refine jo_load tab_ok rfl rfl rfl (by first | ((repeat first | exact Rd.here rfl | refine Rd.there ?_); done) | assumption) rfl ?_) | refine jo_nil ?_ | refine jc_seq ?_ | refine jc_skip ?_ | refine jc_region ?_ | refine jc_block ?_ | refine jc_ret ?_ | refine jc_exit ?_ | refine jx_then ?_ | refine jx_then_exit ?_ | refine jx_then_ret ?_ | refine jx_block ?_ | refine jx_block_ret ?_ | refine jx_block_hit ?_ | refine jx_block_miss rfl ?_ | refine jc_true rfl ?_ | refine jc_false rfl ?_))
  refine jo_load_agg tab_ok (vs := [.slice base2 len2 cap2]) rfl rfl rfl rfl (by first | ((repeat first | exact Rd.here rfl | refine Rd.there ?_); done) | assumption) rfl (jo_cons ?_)
  refine jo_call [2, 2, 2, 2, 2, 0] (fits_tri hro' hro2' hq hI (okR_len hok)) ent62 rfl ⟨rfl, rfl⟩ rfl ?_
  rintro v B ⟨bf, rfl, hbf, rfl⟩
  cases bf with
  | false =>
    (refine j_nm rfl ?_; repeat (first | refine jo_cons ?_ | (refine jo_iso ?_; first | (refine jo_isbin ?_; first | refine jo_v (by first | exact pv_add rfl rfl (by omega) | exact pv_sub rfl rfl (by omega)) rfl ?_ | refine jo_pure tab_ok rfl rfl ?_ | refine jo_v (by first | exact pv_if_eq tab_ok rfl rfl rfl (.inl rfl) | exact pv_if_eq tab_ok rfl rfl rfl (.inr ⟨_, _, rfl⟩) | exact pv_if_ne tab_ok rfl rfl rfl (.inl rfl) | exact pv_if_ne tab_ok rfl rfl rfl (.inr ⟨_, _, rfl⟩)) rfl ?_) | refine jo_pure tab_ok rfl rfl ?_ | refine jo_want rfl ?_ | refine jo_skip rfl rfl ?_ | refine jo_load tab_ok rfl rfl rfl (by first | ((repeat first | exact Rd.here rfl | refine Rd.there ?_); done) | assumption) rfl ?_) | refine jo_nil ?_ | refine jc_seq ?_ | refine jc_skip ?_ | refine jc_region ?_ | refine jc_block ?_ | refine jc_ret ?_ | refine jc_exit ?_ | refine jx_then ?_ | refine jx_then_exit ?_ | refine jx_then_ret ?_ | refine jx_block ?_ | refine jx_block_ret ?_ | refine jx_block_hit ?_ | refine jx_block_miss rfl ?_ | refine jc_true rfl ?_ | refine jc_false rfl ?_))
    exact j_ret [0, 0, 0, 0, 0, 0] [6] rfl (.inr (.inl ⟨hok, fun hF => (by have := hbf.2 hF; cases this), rfl, rfl⟩)) ⟨rfl, rfl⟩
  | true =>
  have hF : Fit es ss es2 := hbf.1 rfl
  have hsl := hI.len
  have hl : ss.length ≤ es2.length := by rw [hI.len]; exact hF.1
  have h8 := okR_len hok
  (refine j_nm rfl ?_; repeat (first | refine jo_cons ?_ | (refine jo_iso ?_; first | (refine jo_isbin ?_; first | refine jo_v (by first | exact pv_add rfl rfl (by omega) | exact pv_sub rfl rfl (by omega)) rfl ?_ | refine jo_pure tab_ok rfl rfl ?_ | refine jo_v (by first | exact pv_if_eq tab_ok rfl rfl rfl (.inl rfl) | exact pv_if_eq tab_ok rfl rfl rfl (.inr ⟨_, _, rfl⟩) | exact pv_if_ne tab_ok rfl rfl rfl (.inl rfl) | exact pv_if_ne tab_ok rfl rfl rfl (.inr ⟨_, _, rfl⟩)) rfl ?_) | refine jo_pure tab_ok rfl rfl ?_ | refine jo_want rfl ?_ | refine jo_skip rfl rfl ?_ | refine jo_load tab_ok rfl rfl rfl (by first | ((repeat first | exact Rd.here rfl | refine Rd.there ?_); done) | assumption) rfl ?_) | refine jo_nil ?_ | refine jc_seq ?_ | refine jc_skip ?_ | refine jc_region ?_ | refine jc_block ?_ | refine jc_ret ?_ | refine jc_exit ?_ | refine jx_then ?_ | refine jx_then_exit ?_ | refine jx_then_ret ?_ | refine jx_block ?_ | refine jx_block_ret ?_ | refine jx_block_hit ?_ | refine jx_block_miss rfl ?_ | refine jc_true rfl ?_ | refine jc_false rfl ?_))
  refine jc_drawh 8 [(p, 0, ptr s), (q0, 0, .slice base2 len2 cap2)] mo (.cons (by first | ((repeat first | exact Rd.here rfl | refine Rd.there ?_); done) | assumption) (.cons (by first | ((repeat first | exact Rd.here rfl | refine Rd.there ?_); done) | assumption) .nil)) fun hrd => ?_
  refine jh_pure tab_ok 0 rfl (by kernel_rfl) rfl rfl hrd ?_
  refine jh_pure tab_ok 1 rfl (by kernel_rfl) rfl rfl hrd ?_
  refine jh_pure tab_ok 2 rfl (by kernel_rfl) rfl rfl hrd ?_
  refine jh_s 3 rfl (by kernel_rfl) (ps_load tab_ok 0 rfl rfl rfl rfl) rfl hrd ?_
  refine jh_s 4 rfl (by kernel_rfl) (ps_load1 tab_ok 1 rfl rfl rfl rfl rfl) rfl hrd ?_
  refine jh_one 5 rfl (by kernel_rfl) ?_
  refine jo_call [5] (copied_tri hro2' h8) ent39 rfl ⟨rfl, rfl⟩ rfl ?_
  rintro v B ⟨rv', rfl, rfl⟩
  refine j_sl_len ?_
  rintro rb' rn' rc' rfl _
  refine j_nm rfl ?_
  refine jh_back (.cons (by first | ((repeat first | exact Rd.here rfl | refine Rd.there ?_); done) | assumption) (.cons (by first | ((repeat first | exact Rd.here rfl | refine Rd.there ?_); done) | assumption) .nil)) fun hrd => ?_
  refine jh_one 6 rfl (by kernel_rfl) (jo_pure tab_ok rfl rfl (jh_back hrd fun hrd => ?_))
  refine jh_one 7 rfl (by kernel_rfl) (jo_pure tab_ok rfl rfl (jh_back hrd fun hrd => ?_))
  refine jh_one 8 rfl (by kernel_rfl) ?_
  refine jo_store1 tab_ok 3 rfl rfl rfl rfl rfl ⟨rfl, rfl⟩ (by simp) ?_
  refine jh_last (by kernel_rfl) ?_
  refine jh_done (by kernel_rfl) ?_
  (refine j_nm rfl ?_; repeat (first | refine jo_cons ?_ | (refine jo_iso ?_; first | (refine jo_isbin ?_; first | refine jo_v (by first | exact pv_add rfl rfl (by omega) | exact pv_sub rfl rfl (by omega)) rfl ?_ | refine jo_pure tab_ok rfl rfl ?_ | refine jo_v (by first | exact pv_if_eq tab_ok rfl rfl rfl (.inl rfl) | exact pv_if_eq tab_ok rfl rfl rfl (.inr ⟨_, _, rfl⟩) | exact pv_if_ne tab_ok rfl rfl rfl (.inl rfl) | exact pv_if_ne tab_ok rfl rfl rfl (.inr ⟨_, _, rfl⟩)) rfl ?_) | refine jo_pure tab_ok rfl rfl ?_ | refine jo_want rfl ?_ | refine jo_skip rfl rfl ?_ | refine jo_load tab_ok rfl rfl rfl (by first | ((repeat first | exact Rd.here rfl | refine Rd.there ?_); done) | assumption) rfl ?_) | refine jo_nil ?_ | refine jc_seq ?_ | refine jc_skip ?_ | refine jc_region ?_ | refine jc_block ?_ | refine jc_ret ?_ | refine jc_exit ?_ | refine jx_then ?_ | refine jx_then_exit ?_ | refine jx_then_ret ?_ | refine jx_block ?_ | refine jx_block_ret ?_ | refine jx_block_hit ?_ | refine jx_block_miss rfl ?_ | refine jc_true rfl ?_ | refine jc_false rfl ?_))
  refine jc_loop (ι := Nat × Value × List Nat) (fun x => [(29, I x.1), (28, I len2), (27, .slice base2 len2 cap2), (0, ptr p)])
    (fun x => cl s [.slice rb' rn' rc', x.2.1] 71 :: Ss x.2.1 x.2.2 :: many Sh x.2.2 (part ss es2 x.1) :: cl p [ptr s, wv] 73 :: R :: R2 :: sl 51 2 (.slice rb' rn' rc') (ecells es2) :: [X])
    (fun x => x.1 ≤ len2 ∧ x.2.2.length = (part ss es2 x.1).length) (fun x => len2 - x.1) (0, sv, qs) [0, 3, 4, 2, 2, 1, 0] [7] ⟨Nat.zero_le _, by show qs.length = _; rw [part_zero]; omega⟩ ⟨rfl, rfl, rfl, rfl, trivial⟩ (by rw [part_zero]; rfl) ?_
  rintro ⟨i, sv', qs'⟩ ⟨hi, hql⟩
  simp only at hi hql
  dsimp only
  (refine j_nm rfl ?_; repeat (first | refine jo_cons ?_ | (refine jo_iso ?_; first | (refine jo_isbin ?_; first | refine jo_v (by first | exact pv_add rfl rfl (by omega) | exact pv_sub rfl rfl (by omega)) rfl ?_ | refine jo_pure tab_ok rfl rfl ?_ | refine jo_v (by first | exact pv_if_eq tab_ok rfl rfl rfl (.inl rfl) | exact pv_if_eq tab_ok rfl rfl rfl (.inr ⟨_, _, rfl⟩) | exact pv_if_ne tab_ok rfl rfl rfl (.inl rfl) | exact pv_if_ne tab_ok rfl rfl rfl (.inr ⟨_, _, rfl⟩)) rfl ?_) | refine jo_pure tab_ok rfl rfl ?_ | refine jo_want rfl ?_ | refine jo_skip rfl rfl ?_ | refine jo_load tab_ok rfl rfl rfl (by first | ((repeat first | exact Rd.here rfl | refine Rd.there ?_); done) | assumption) rfl ?_) | refine jo_nil ?_ | refine jc_seq ?_ | refine jc_skip ?_ | refine jc_region ?_ | refine jc_block ?_ | refine jc_ret ?_ | refine jc_exit ?_ | refine jx_then ?_ | refine jx_then_exit ?_ | refine jx_then_ret ?_ | refine jx_block ?_ | refine jx_block_ret ?_ | refine jx_block_hit ?_ | refine jx_block_miss rfl ?_ | refine jc_true rfl ?_ | refine jc_false rfl ?_))
  refine jc_dec rfl (fun h => ?_) (fun h => ?_)
  · have hi' : i < len2 := by omega
    have hie : i < es2.length := by omega
    have hei : es2[i]? = some es2[i] := List.getElem?_eq_getElem hie
    have hzi := okR_size hok hei
    have hpl := part_len (i := i) hl (by omega)
    obtain ⟨b, o, rfl, hrd2⟩ := hor2.resolve_left (by omega)
    obtain ⟨c1, c2⟩ := ecells_at es2 i hie
    (refine j_nm rfl ?_; repeat (first | refine jo_cons ?_ | (refine jo_iso ?_; first | (refine jo_isbin ?_; first | refine jo_v (by first | exact pv_add rfl rfl (by omega) | exact pv_sub rfl rfl (by omega)) rfl ?_ | refine jo_pure tab_ok rfl rfl ?_ | refine jo_v (by first | exact pv_if_eq tab_ok rfl rfl rfl (.inl rfl) | exact pv_if_eq tab_ok rfl rfl rfl (.inr ⟨_, _, rfl⟩) | exact pv_if_ne tab_ok rfl rfl rfl (.inl rfl) | exact pv_if_ne tab_ok rfl rfl rfl (.inr ⟨_, _, rfl⟩)) rfl ?_) | refine jo_pure tab_ok rfl rfl ?_ | refine jo_want rfl ?_ | refine jo_skip rfl rfl ?_ | refine jo_load tab_ok rfl rfl rfl (by first | ((repeat first | exact Rd.here rfl | refine Rd.there ?_); done) | assumption) rfl ?_) | refine jo_nil ?_ | refine jc_seq ?_ | refine jc_skip ?_ | refine jc_region ?_ | refine jc_block ?_ | refine jc_ret ?_ | refine jc_exit ?_ | refine jx_then ?_ | refine jx_then_exit ?_ | refine jx_then_ret ?_ | refine jx_block ?_ | refine jx_block_ret ?_ | refine jx_block_hit ?_ | refine jx_block_miss rfl ?_ | refine jc_true rfl ?_ | refine jc_false rfl ?_))
    refine jo_v (pv_index tab_ok i rfl rfl rfl rfl rfl rfl hi') rfl (jo_cons ?_)
    refine jo_load_agg tab_ok (vs := [I es2[i].1, I es2[i].2]) rfl rfl rfl rfl (Rd.there (Rd.there (Rd.there (Rd.there (Rd.there (rd2 (hrd2 _) c1 c2)))))) rfl (jo_cons ?_)
    refine jo_alloc tab_ok rfl rfl fun q6 => jo_cons ?_
    (refine j_nm rfl ?_; repeat (first | refine jo_cons ?_ | (refine jo_iso ?_; first | (refine jo_isbin ?_; first | refine jo_v (by first | exact pv_add rfl rfl (by omega) | exact pv_sub rfl rfl (by omega)) rfl ?_ | refine jo_pure tab_ok rfl rfl ?_ | refine jo_v (by first | exact pv_if_eq tab_ok rfl rfl rfl (.inl rfl) | exact pv_if_eq tab_ok rfl rfl rfl (.inr ⟨_, _, rfl⟩) | exact pv_if_ne tab_ok rfl rfl rfl (.inl rfl) | exact pv_if_ne tab_ok rfl rfl rfl (.inr ⟨_, _, rfl⟩)) rfl ?_) | refine jo_pure tab_ok rfl rfl ?_ | refine jo_want rfl ?_ | refine jo_skip rfl rfl ?_ | refine jo_load tab_ok rfl rfl rfl (by first | ((repeat first | exact Rd.here rfl | refine Rd.there ?_); done) | assumption) rfl ?_) | refine jo_nil ?_ | refine jc_seq ?_ | refine jc_skip ?_ | refine jc_region ?_ | refine jc_block ?_ | refine jc_ret ?_ | refine jc_exit ?_ | refine jx_then ?_ | refine jx_then_exit ?_ | refine jx_then_ret ?_ | refine jx_block ?_ | refine jx_block_ret ?_ | refine jx_block_hit ?_ | refine jx_block_miss rfl ?_ | refine jc_true rfl ?_ | refine jc_false rfl ?_))
    refine jo_store_agg tab_ok (vs := [I es2[i].1, I es2[i].2]) 0 rfl rfl rfl rfl (by simp [one]) ⟨rfl, rfl⟩ rfl ?_
    refine j_nm rfl ?_
    refine j_front [2] (j_sl_ro fun hrs => ?_)
    obtain ⟨qb, qn, qc, rfl, hqn, hqm, hqor⟩ := hrs
    simp only [List.length_map, Nat.mul_one] at hqn
    (refine j_nm rfl ?_; repeat (first | refine jo_cons ?_ | (refine jo_iso ?_; first | (refine jo_isbin ?_; first | refine jo_v (by first | exact pv_add rfl rfl (by omega) | exact pv_sub rfl rfl (by omega)) rfl ?_ | refine jo_pure tab_ok rfl rfl ?_ | refine jo_v (by first | exact pv_if_eq tab_ok rfl rfl rfl (.inl rfl) | exact pv_if_eq tab_ok rfl rfl rfl (.inr ⟨_, _, rfl⟩) | exact pv_if_ne tab_ok rfl rfl rfl (.inl rfl) | exact pv_if_ne tab_ok rfl rfl rfl (.inr ⟨_, _, rfl⟩)) rfl ?_) | refine jo_pure tab_ok rfl rfl ?_ | refine jo_want rfl ?_ | refine jo_skip rfl rfl ?_ | refine jo_load tab_ok rfl rfl rfl (by first | ((repeat first | exact Rd.here rfl | refine Rd.there ?_); done) | assumption) rfl ?_) | refine jo_nil ?_ | refine jc_seq ?_ | refine jc_skip ?_ | refine jc_region ?_ | refine jc_block ?_ | refine jc_ret ?_ | refine jc_exit ?_ | refine jx_then ?_ | refine jx_then_exit ?_ | refine jx_then_ret ?_ | refine jx_block ?_ | refine jx_block_ret ?_ | refine jx_block_hit ?_ | refine jx_block_miss rfl ?_ | refine jc_true rfl ?_ | refine jc_false rfl ?_))
    refine jc_beq rfl (fun heq => ?_) (fun hne => ?_)
    · -- one more shelf
      have hin : i = qn := by omega
      have hsi : ss.length ≤ i := by omega
      obtain ⟨hm1, hm2⟩ := part_more hl hsi hei
      (refine j_nm rfl ?_; repeat (first | refine jo_cons ?_ | (refine jo_iso ?_; first | (refine jo_isbin ?_; first | refine jo_v (by first | exact pv_add rfl rfl (by omega) | exact pv_sub rfl rfl (by omega)) rfl ?_ | refine jo_pure tab_ok rfl rfl ?_ | refine jo_v (by first | exact pv_if_eq tab_ok rfl rfl rfl (.inl rfl) | exact pv_if_eq tab_ok rfl rfl rfl (.inr ⟨_, _, rfl⟩) | exact pv_if_ne tab_ok rfl rfl rfl (.inl rfl) | exact pv_if_ne tab_ok rfl rfl rfl (.inr ⟨_, _, rfl⟩)) rfl ?_) | refine jo_pure tab_ok rfl rfl ?_ | refine jo_want rfl ?_ | refine jo_skip rfl rfl ?_ | refine jo_load tab_ok rfl rfl rfl (by first | ((repeat first | exact Rd.here rfl | refine Rd.there ?_); done) | assumption) rfl ?_) | refine jo_nil ?_ | refine jc_seq ?_ | refine jc_skip ?_ | refine jc_region ?_ | refine jc_block ?_ | refine jc_ret ?_ | refine jc_exit ?_ | refine jx_then ?_ | refine jx_then_exit ?_ | refine jx_then_ret ?_ | refine jx_block ?_ | refine jx_block_ret ?_ | refine jx_block_hit ?_ | refine jx_block_miss rfl ?_ | refine jc_true rfl ?_ | refine jc_false rfl ?_))
      refine jc_drawh 16 [(p, 0, ptr s), (s, 1, .slice qb qn qc)] mo (.cons (by first | ((repeat first | exact Rd.here rfl | refine Rd.there ?_); done) | assumption) (.cons (by first | ((repeat first | exact Rd.here rfl | refine Rd.there ?_); done) | assumption) .nil)) fun hrd => ?_
      refine jh_pure tab_ok 0 rfl (by kernel_rfl) rfl rfl hrd ?_
      refine jh_pure tab_ok 1 rfl (by kernel_rfl) rfl rfl hrd ?_
      refine jh_pure tab_ok 2 rfl (by kernel_rfl) rfl rfl hrd ?_
      refine jh_s 3 rfl (by kernel_rfl) (ps_load tab_ok 0 rfl rfl rfl rfl) rfl hrd ?_
      refine jh_pure tab_ok 4 rfl (by kernel_rfl) rfl rfl hrd ?_
      refine jh_pure tab_ok 5 rfl (by kernel_rfl) rfl rfl hrd ?_
      refine jh_pure tab_ok 6 rfl (by kernel_rfl) rfl rfl hrd ?_
      refine jh_s 7 rfl (by kernel_rfl) (ps_load tab_ok 0 rfl rfl rfl rfl) rfl hrd ?_
      refine jh_pure tab_ok 8 rfl (by kernel_rfl) rfl rfl hrd ?_
      refine jh_pure tab_ok 9 rfl (by kernel_rfl) rfl rfl hrd ?_
      refine jh_s 10 rfl (by kernel_rfl) (ps_load tab_ok 1 rfl rfl rfl rfl) rfl hrd ?_
      refine jh_one 11 rfl (by kernel_rfl) ?_
      refine jo_call [] (newShelf_tri 0 (by omega)) ent63 rfl ⟨rfl, rfl⟩ rfl ?_
      rintro v B ⟨q2, rfl, rfl⟩
      refine j_nm rfl ?_
      refine jh_back (.cons (by first | ((repeat first | exact Rd.here rfl | refine Rd.there ?_); done) | assumption) (.cons (by first | ((repeat first | exact Rd.here rfl | refine Rd.there ?_); done) | assumption) .nil)) fun hrd => ?_
      refine jh_one 12 rfl (by kernel_rfl) ?_
      refine jo_buildSlice tab_ok (cs := [ptr q2]) rfl rfl rfl rfl rfl rfl (by first | (simp [Instr.fill]; done) | simp [Instr.fill, Value.cells]) rfl fun bA => ?_
      refine jh_back (.cons (by first | ((repeat first | exact Rd.here rfl | refine Rd.there ?_); done) | assumption) (.cons (by first | ((repeat first | exact Rd.here rfl | refine Rd.there ?_); done) | assumption) .nil)) fun hrd => ?_
      refine jh_one 13 rfl (by kernel_rfl) ?_
      refine jo_append tab_ok 2 [ptr q2] rfl rfl rfl rfl rfl rfl ⟨rfl, rfl⟩ rfl (.inr ⟨bA, 0, rfl, Rd.all⟩) (by simp [one]) (by intro len' hl'; simp only [List.length_map, Nat.mul_one] at hl'; exact ⟨by show (len' + 1) * 8 ≤ _; omega, by simp only [maxLen]; omega⟩) rfl fun v2 => ?_
      refine j_sl_len ?_
      rintro sb2 sn2 sc2 rfl hsn2
      refine j_nm rfl ?_
      refine jh_back (.cons (by first | ((repeat first | exact Rd.here rfl | refine Rd.there ?_); done) | assumption) (.cons (by first | ((repeat first | exact Rd.here rfl | refine Rd.there ?_); done) | assumption) .nil)) fun hrd => ?_
      refine jh_one 14 rfl (by kernel_rfl) (jo_pure tab_ok rfl rfl (jh_back hrd fun hrd => ?_))
      refine jh_one 15 rfl (by kernel_rfl) (jo_pure tab_ok rfl rfl (jh_back hrd fun hrd => ?_))
      refine jh_one 16 rfl (by kernel_rfl) ?_
      refine jo_store tab_ok 4 rfl rfl rfl rfl rfl ⟨rfl, rfl⟩ (by simp) ?_
      refine jh_last (by kernel_rfl) ?_
      refine jh_done (by kernel_rfl) ?_
      have e1 : qs'.map ptr ++ [ptr q2] = (qs' ++ [q2]).map ptr := by simp
      rw [e1]
      have hq2i : (qs' ++ [q2])[i]? = some q2 := by rw [List.getElem?_append_right (by omega)]; rw [show i - qs'.length = 0 from by omega]; rfl
      have e2 : ∀ m, star [many Sh qs' (part ss es2 i), Sh q2 ⟨List.replicate (0 : Int).toNat false, List.replicate (0 : Int).toNat false, List.replicate (0 : Int).toNat false⟩] m → many Sh (qs' ++ [q2]) (part ss es2 i ++ [noSh]) m := fun m h => many_snoc hql h
      refine j_nm rfl ?_
      refine j_close [5, 3] rfl e2 ?_
      refine j_nm rfl ?_
      refine j_front [2] (j_sl_ro fun hrs => ?_)
      obtain ⟨qb2, qn2, qc2, e, hqn2, hqm2, hqor2⟩ := hrs
      cases e
      simp only [List.length_map, Nat.mul_one] at hqn2
      obtain ⟨b3, o3, rfl, hrq⟩ := hqor2.resolve_left (by simp at hqn2; omega)
      (refine j_nm rfl ?_; repeat (first | refine jo_cons ?_ | (refine jo_iso ?_; first | (refine jo_isbin ?_; first | refine jo_v (by first | exact pv_add rfl rfl (by omega) | exact pv_sub rfl rfl (by omega)) rfl ?_ | refine jo_pure tab_ok rfl rfl ?_ | refine jo_v (by first | exact pv_if_eq tab_ok rfl rfl rfl (.inl rfl) | exact pv_if_eq tab_ok rfl rfl rfl (.inr ⟨_, _, rfl⟩) | exact pv_if_ne tab_ok rfl rfl rfl (.inl rfl) | exact pv_if_ne tab_ok rfl rfl rfl (.inr ⟨_, _, rfl⟩)) rfl ?_) | refine jo_pure tab_ok rfl rfl ?_ | refine jo_want rfl ?_ | refine jo_skip rfl rfl ?_ | refine jo_load tab_ok rfl rfl rfl (by first | ((repeat first | exact Rd.here rfl | refine Rd.there ?_); done) | assumption) rfl ?_) | refine jo_nil ?_ | refine jc_seq ?_ | refine jc_skip ?_ | refine jc_region ?_ | refine jc_block ?_ | refine jc_ret ?_ | refine jc_exit ?_ | refine jx_then ?_ | refine jx_then_exit ?_ | refine jx_then_ret ?_ | refine jx_block ?_ | refine jx_block_ret ?_ | refine jx_block_hit ?_ | refine jx_block_miss rfl ?_ | refine jc_true rfl ?_ | refine jc_false rfl ?_))
      refine j_front [1] (j_many i hq2i hm1 ?_)
      refine j_nm rfl ?_
      refine jc_drawh 99 [(p, 0, ptr s), (s, 1, .slice (some ⟨b3, o3, none⟩) sn2 sc2), (b3, o3 + i, ptr q2), (q6, 1, I es2[i].2)] mo
        (.cons (by first | ((repeat first | exact Rd.here rfl | refine Rd.there ?_); done) | assumption) (.cons (by first | ((repeat first | exact Rd.here rfl | refine Rd.there ?_); done) | assumption) (.cons (Rd.there (Rd.there ((hrq _).one (by rw [List.getElem?_map, hq2i]; rfl)))) (.cons (by first | ((repeat first | exact Rd.here rfl | refine Rd.there ?_); done) | assumption) .nil)))) fun hrd => ?_
      refine jh_pure tab_ok 0 rfl (by kernel_rfl) rfl rfl hrd ?_
      refine jh_pure tab_ok 1 rfl (by kernel_rfl) rfl rfl hrd ?_
      refine jh_pure tab_ok 2 rfl (by kernel_rfl) rfl rfl hrd ?_
      refine jh_s 3 rfl (by kernel_rfl) (ps_load tab_ok 0 rfl rfl rfl rfl) rfl hrd ?_
      refine jh_pure tab_ok 4 rfl (by kernel_rfl) rfl rfl hrd ?_
      refine jh_pure tab_ok 5 rfl (by kernel_rfl) rfl rfl hrd ?_
      refine jh_s 6 rfl (by kernel_rfl) (ps_load tab_ok 1 rfl rfl rfl rfl) rfl hrd ?_
      refine jh_pure tab_ok 7 rfl (by kernel_rfl) rfl rfl hrd ?_
      refine jh_s 8 rfl (by kernel_rfl) ((pv_index1 tab_ok i rfl rfl rfl rfl rfl rfl rfl (by simp at hqn2; omega)).ps) rfl hrd ?_
      refine jh_s 9 rfl (by kernel_rfl) (ps_load tab_ok 2 rfl rfl rfl rfl) rfl hrd ?_
      refine jh_one 10 rfl (by kernel_rfl) (jo_pure tab_ok rfl rfl (jh_back hrd fun hrd => ?_))
      refine jh_s 11 rfl (by kernel_rfl) (ps_load tab_ok 3 rfl rfl rfl rfl) rfl hrd ?_
      refine jh_one 12 rfl (by kernel_rfl) ?_
      refine jo_call [0] (growSh_tri q2 noSh es2[i].2 hzi.2 hzi.1 hzi.1 hzi.1) ent64 rfl ⟨rfl, rfl⟩ rfl ?_
      rintro v B rfl
      refine j_nm rfl ?_
      refine jh_back (.cons (by first | ((repeat first | exact Rd.here rfl | refine Rd.there ?_); done) | assumption) (.cons (by first | ((repeat first | exact Rd.here rfl | refine Rd.there ?_); done) | assumption) (.cons (Rd.there (Rd.there ((hrq _).one (by rw [List.getElem?_map, hq2i]; rfl)))) (.cons (by first | ((repeat first | exact Rd.here rfl | refine Rd.there ?_); done) | assumption) .nil)))) fun hrd => ?_
      refine jh_done (by kernel_rfl) ?_
      refine j_close [0, 0] rfl (fun m h => many_shut hq2i (by have := (List.getElem?_eq_some_iff.1 hm1).1; exact this) h) ?_
      rw [hm2]
      (refine j_nm rfl ?_; repeat (first | refine jo_cons ?_ | (refine jo_iso ?_; first | (refine jo_isbin ?_; first | refine jo_v (by first | exact pv_add rfl rfl (by omega) | exact pv_sub rfl rfl (by omega)) rfl ?_ | refine jo_pure tab_ok rfl rfl ?_ | refine jo_v (by first | exact pv_if_eq tab_ok rfl rfl rfl (.inl rfl) | exact pv_if_eq tab_ok rfl rfl rfl (.inr ⟨_, _, rfl⟩) | exact pv_if_ne tab_ok rfl rfl rfl (.inl rfl) | exact pv_if_ne tab_ok rfl rfl rfl (.inr ⟨_, _, rfl⟩)) rfl ?_) | refine jo_pure tab_ok rfl rfl ?_ | refine jo_want rfl ?_ | refine jo_skip rfl rfl ?_ | refine jo_load tab_ok rfl rfl rfl (by first | ((repeat first | exact Rd.here rfl | refine Rd.there ?_); done) | assumption) rfl ?_) | refine jo_nil ?_ | refine jc_seq ?_ | refine jc_skip ?_ | refine jc_region ?_ | refine jc_block ?_ | refine jc_ret ?_ | refine jc_exit ?_ | refine jx_then ?_ | refine jx_then_exit ?_ | refine jx_then_ret ?_ | refine jx_block ?_ | refine jx_block_ret ?_ | refine jx_block_hit ?_ | refine jx_block_miss rfl ?_ | refine jc_true rfl ?_ | refine jc_false rfl ?_))
      exact jx_round (i + 1, .slice (some ⟨b3, o3, none⟩) sn2 sc2, qs' ++ [q2]) [2, 1, 0, 0, 0, 0, 0] [3, 3] ⟨hi', by rw [part_len hl (by omega), List.length_append]; simp; omega⟩ (by simp only; omega) ⟨rfl, rfl, rfl, rfl, trivial⟩ rfl
    · have hlt : i < ss.length := by omega
      have hsi : ss[i]? = some ss[i] := List.getElem?_eq_getElem hlt
      have hoi : es[i]? = some es[i] := List.getElem?_eq_getElem (by omega)
      obtain ⟨hm1, hm2⟩ := part_here hl hsi hei
      have hos := hI.ok i _ _ hoi hsi
      have hfz := fit_size hF hoi hei hsi
      have hoz := okR_size hI.right hoi
      have h1 := hos.t
      have h2 := hos.f
      have h3 := hos.g
      have hiq : i < qs'.length := by omega
      have hqi : qs'[i]? = some qs'[i] := List.getElem?_eq_getElem hiq
      obtain ⟨b3, o3, rfl, hrq⟩ := hqor.resolve_left (by omega)
      (refine j_nm rfl ?_; repeat (first | refine jo_cons ?_ | (refine jo_iso ?_; first | (refine jo_isbin ?_; first | refine jo_v (by first | exact pv_add rfl rfl (by omega) | exact pv_sub rfl rfl (by omega)) rfl ?_ | refine jo_pure tab_ok rfl rfl ?_ | refine jo_v (by first | exact pv_if_eq tab_ok rfl rfl rfl (.inl rfl) | exact pv_if_eq tab_ok rfl rfl rfl (.inr ⟨_, _, rfl⟩) | exact pv_if_ne tab_ok rfl rfl rfl (.inl rfl) | exact pv_if_ne tab_ok rfl rfl rfl (.inr ⟨_, _, rfl⟩)) rfl ?_) | refine jo_pure tab_ok rfl rfl ?_ | refine jo_want rfl ?_ | refine jo_skip rfl rfl ?_ | refine jo_load tab_ok rfl rfl rfl (by first | ((repeat first | exact Rd.here rfl | refine Rd.there ?_); done) | assumption) rfl ?_) | refine jo_nil ?_ | refine jc_seq ?_ | refine jc_skip ?_ | refine jc_region ?_ | refine jc_block ?_ | refine jc_ret ?_ | refine jc_exit ?_ | refine jx_then ?_ | refine jx_then_exit ?_ | refine jx_then_ret ?_ | refine jx_block ?_ | refine jx_block_ret ?_ | refine jx_block_hit ?_ | refine jx_block_miss rfl ?_ | refine jc_true rfl ?_ | refine jc_false rfl ?_))
      refine j_front [3] (j_many i hqi hm1 ?_)
      refine j_nm rfl ?_
      refine jc_drawh 99 [(p, 0, ptr s), (s, 1, .slice (some ⟨b3, o3, none⟩) qn qc), (b3, o3 + i, ptr qs'[i]), (q6, 1, I es2[i].2)] mo
        (.cons (by first | ((repeat first | exact Rd.here rfl | refine Rd.there ?_); done) | assumption) (.cons (by first | ((repeat first | exact Rd.here rfl | refine Rd.there ?_); done) | assumption) (.cons (Rd.there (Rd.there ((hrq _).one (qs_at hiq)))) (.cons (by first | ((repeat first | exact Rd.here rfl | refine Rd.there ?_); done) | assumption) .nil)))) fun hrd => ?_
      refine jh_pure tab_ok 0 rfl (by kernel_rfl) rfl rfl hrd ?_
      refine jh_pure tab_ok 1 rfl (by kernel_rfl) rfl rfl hrd ?_
      refine jh_pure tab_ok 2 rfl (by kernel_rfl) rfl rfl hrd ?_
      refine jh_s 3 rfl (by kernel_rfl) (ps_load tab_ok 0 rfl rfl rfl rfl) rfl hrd ?_
      refine jh_pure tab_ok 4 rfl (by kernel_rfl) rfl rfl hrd ?_
      refine jh_pure tab_ok 5 rfl (by kernel_rfl) rfl rfl hrd ?_
      refine jh_s 6 rfl (by kernel_rfl) (ps_load tab_ok 1 rfl rfl rfl rfl) rfl hrd ?_
      refine jh_pure tab_ok 7 rfl (by kernel_rfl) rfl rfl hrd ?_
      refine jh_s 8 rfl (by kernel_rfl) ((pv_index1 tab_ok i rfl rfl rfl rfl rfl rfl rfl (by omega)).ps) rfl hrd ?_
      refine jh_s 9 rfl (by kernel_rfl) (ps_load tab_ok 2 rfl rfl rfl rfl) rfl hrd ?_
      refine jh_one 10 rfl (by kernel_rfl) (jo_pure tab_ok rfl rfl (jh_back hrd fun hrd => ?_))
      refine jh_s 11 rfl (by kernel_rfl) (ps_load tab_ok 3 rfl rfl rfl rfl) rfl hrd ?_
      refine jh_one 12 rfl (by kernel_rfl) ?_
      refine jo_call [0] (growSh_tri qs'[i] ss[i] es2[i].2 hzi.2 (by omega) (by omega) (by omega)) ent64 rfl ⟨rfl, rfl⟩ rfl ?_
      rintro v B rfl
      refine j_nm rfl ?_
      refine jh_back (.cons (by first | ((repeat first | exact Rd.here rfl | refine Rd.there ?_); done) | assumption) (.cons (by first | ((repeat first | exact Rd.here rfl | refine Rd.there ?_); done) | assumption) (.cons (Rd.there (Rd.there ((hrq _).one (qs_at hiq)))) (.cons (by first | ((repeat first | exact Rd.here rfl | refine Rd.there ?_); done) | assumption) .nil)))) fun hrd => ?_
      refine jh_done (by kernel_rfl) ?_
      refine j_close [0, 0] rfl (fun m h => many_shut hqi (by have := (List.getElem?_eq_some_iff.1 hm1).1; exact this) h) ?_
      rw [hm2]
      (refine j_nm rfl ?_; repeat (first | refine jo_cons ?_ | (refine jo_iso ?_; first | (refine jo_isbin ?_; first | refine jo_v (by first | exact pv_add rfl rfl (by omega) | exact pv_sub rfl rfl (by omega)) rfl ?_ | refine jo_pure tab_ok rfl rfl ?_ | refine jo_v (by first | exact pv_if_eq tab_ok rfl rfl rfl (.inl rfl) | exact pv_if_eq tab_ok rfl rfl rfl (.inr ⟨_, _, rfl⟩) | exact pv_if_ne tab_ok rfl rfl rfl (.inl rfl) | exact pv_if_ne tab_ok rfl rfl rfl (.inr ⟨_, _, rfl⟩)) rfl ?_) | refine jo_pure tab_ok rfl rfl ?_ | refine jo_want rfl ?_ | refine jo_skip rfl rfl ?_ | refine jo_load tab_ok rfl rfl rfl (by first | ((repeat first | exact Rd.here rfl | refine Rd.there ?_); done) | assumption) rfl ?_) | refine jo_nil ?_ | refine jc_seq ?_ | refine jc_skip ?_ | refine jc_region ?_ | refine jc_block ?_ | refine jc_ret ?_ | refine jc_exit ?_ | refine jx_then ?_ | refine jx_then_exit ?_ | refine jx_then_ret ?_ | refine jx_block ?_ | refine jx_block_ret ?_ | refine jx_block_hit ?_ | refine jx_block_miss rfl ?_ | refine jc_true rfl ?_ | refine jc_false rfl ?_))
      exact jx_round (i + 1, .slice (some ⟨b3, o3, none⟩) qn qc, qs') [2, 1, 0, 0, 0, 0, 0] [2] ⟨hi', by rw [part_len hl (by omega)]; simp only; omega⟩ (by simp only; omega) ⟨rfl, rfl, rfl, rfl, trivial⟩ rfl
  · have hin : i = es2.length := by have h' : ¬ ((i : Int) < len2) := h; omega
    subst hin
    rw [part_all hl] at hql ⊢
    rw [turned_len ss es2 hl] at hql
    (refine j_nm rfl ?_; repeat (first | refine jo_cons ?_ | (refine jo_iso ?_; first | (refine jo_isbin ?_; first | refine jo_v (by first | exact pv_add rfl rfl (by omega) | exact pv_sub rfl rfl (by omega)) rfl ?_ | refine jo_pure tab_ok rfl rfl ?_ | refine jo_v (by first | exact pv_if_eq tab_ok rfl rfl rfl (.inl rfl) | exact pv_if_eq tab_ok rfl rfl rfl (.inr ⟨_, _, rfl⟩) | exact pv_if_ne tab_ok rfl rfl rfl (.inl rfl) | exact pv_if_ne tab_ok rfl rfl rfl (.inr ⟨_, _, rfl⟩)) rfl ?_) | refine jo_pure tab_ok rfl rfl ?_ | refine jo_want rfl ?_ | refine jo_skip rfl rfl ?_ | refine jo_load tab_ok rfl rfl rfl (by first | ((repeat first | exact Rd.here rfl | refine Rd.there ?_); done) | assumption) rfl ?_) | refine jo_nil ?_ | refine jc_seq ?_ | refine jc_skip ?_ | refine jc_region ?_ | refine jc_block ?_ | refine jc_ret ?_ | refine jc_exit ?_ | refine jx_then ?_ | refine jx_then_exit ?_ | refine jx_then_ret ?_ | refine jx_block ?_ | refine jx_block_ret ?_ | refine jx_block_hit ?_ | refine jx_block_miss rfl ?_ | refine jc_true rfl ?_ | refine jc_false rfl ?_))
    exact j_ret [3, 0, 0, 1, 0, 0, 0] [] rfl (.inr (.inr ⟨hok, hF, rfl, _, _, _, hql, rfl⟩)) ⟨rfl, rfl⟩
end S7
end Go.Proofs.YtejaonodaplbhaaDoor
