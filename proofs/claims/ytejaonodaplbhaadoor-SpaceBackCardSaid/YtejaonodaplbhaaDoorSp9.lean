import Derived.Test.YtejaonodaplbhaaDoorSp8
namespace Go.Proofs.YtejaonodaplbhaaDoor
namespace S9
open Go Go.Proofs.YtejaonodaplbhaaDoor.Hp Sp S2 S3 S4 S5 S6 S7 S8
set_option maxRecDepth 10000
set_option linter.unusedVariables false
set_option linter.unusedSimpArgs false
attribute [local irreducible] wpList Code.wp wpAny wpAnyK
def tab : Tab := [
  ⟨3, .int .i64, 1, 8, [.int .i64 0]⟩,
  ⟨4, .bool, 1, 1, [.bool false]⟩,
  ⟨47, .slice 3, 1, 24, [.slice none 0 0]⟩,
  ⟨30, .iface, 1, 16, [.nilIface]⟩,
  ⟨35, .struct [(0, 33)], 1, 24, [.slice none 0 0]⟩,
  ⟨33, .slice 51, 1, 24, [.slice none 0 0]⟩,
  ⟨51, .struct [(0, 3), (1, 3)], 2, 16, [.int .i64 0, .int .i64 0]⟩,
  ⟨43, .struct [(0, 3), (1, 3)], 2, 16, [.int .i64 0, .int .i64 0]⟩,
  ⟨27, .slice 43, 1, 24, [.slice none 0 0]⟩,
  ⟨79, .pointer 104, 1, 8, [.pointer none]⟩,
  ⟨81, .struct [(0, 79), (1, 79), (2, 79)], 3, 24, [.pointer none, .pointer none, .pointer none]⟩,
  ⟨77, .pointer 81, 1, 8, [.pointer none]⟩,
  ⟨69, .slice 77, 1, 24, [.slice none 0 0]⟩,
  ⟨71, .struct [(0, 35), (1, 69)], 2, 48, [.slice none 0 0, .slice none 0 0]⟩,
  ⟨68, .pointer 71, 1, 8, [.pointer none]⟩,
  ⟨73, .struct [(0, 68), (1, 68)], 2, 16, [.pointer none, .pointer none]⟩,
  ⟨28, .pointer 73, 1, 8, [.pointer none]⟩,
  ⟨115, .array 3 79, 3, 24, [.pointer none, .pointer none, .pointer none]⟩,
  ⟨116, .slice 79, 1, 24, [.slice none 0 0]⟩,
  ⟨76, .int .i64, 1, 8, [.int .i64 0]⟩]
theorem tab_3 : TE.ok Tryd.prog ⟨3, .int .i64, 1, 8, [.int .i64 0]⟩ := ⟨by kernel_rfl, by kernel_rfl, by kernel_rfl, by kernel_rfl⟩
theorem tab_4 : TE.ok Tryd.prog ⟨4, .bool, 1, 1, [.bool false]⟩ := ⟨by kernel_rfl, by kernel_rfl, by kernel_rfl, by kernel_rfl⟩
theorem tab_47 : TE.ok Tryd.prog ⟨47, .slice 3, 1, 24, [.slice none 0 0]⟩ := ⟨by kernel_rfl, by kernel_rfl, by kernel_rfl, by kernel_rfl⟩
theorem tab_30 : TE.ok Tryd.prog ⟨30, .iface, 1, 16, [.nilIface]⟩ := ⟨by kernel_rfl, by kernel_rfl, by kernel_rfl, by kernel_rfl⟩
theorem tab_35 : TE.ok Tryd.prog ⟨35, .struct [(0, 33)], 1, 24, [.slice none 0 0]⟩ := ⟨by kernel_rfl, by kernel_rfl, by kernel_rfl, by kernel_rfl⟩
theorem tab_33 : TE.ok Tryd.prog ⟨33, .slice 51, 1, 24, [.slice none 0 0]⟩ := ⟨by kernel_rfl, by kernel_rfl, by kernel_rfl, by kernel_rfl⟩
theorem tab_51 : TE.ok Tryd.prog ⟨51, .struct [(0, 3), (1, 3)], 2, 16, [.int .i64 0, .int .i64 0]⟩ := ⟨by kernel_rfl, by kernel_rfl, by kernel_rfl, by kernel_rfl⟩
theorem tab_43 : TE.ok Tryd.prog ⟨43, .struct [(0, 3), (1, 3)], 2, 16, [.int .i64 0, .int .i64 0]⟩ := ⟨by kernel_rfl, by kernel_rfl, by kernel_rfl, by kernel_rfl⟩
theorem tab_27 : TE.ok Tryd.prog ⟨27, .slice 43, 1, 24, [.slice none 0 0]⟩ := ⟨by kernel_rfl, by kernel_rfl, by kernel_rfl, by kernel_rfl⟩
theorem tab_79 : TE.ok Tryd.prog ⟨79, .pointer 104, 1, 8, [.pointer none]⟩ := ⟨by kernel_rfl, by kernel_rfl, by kernel_rfl, by kernel_rfl⟩
theorem tab_81 : TE.ok Tryd.prog ⟨81, .struct [(0, 79), (1, 79), (2, 79)], 3, 24, [.pointer none, .pointer none, .pointer none]⟩ := ⟨by kernel_rfl, by kernel_rfl, by kernel_rfl, by kernel_rfl⟩
theorem tab_77 : TE.ok Tryd.prog ⟨77, .pointer 81, 1, 8, [.pointer none]⟩ := ⟨by kernel_rfl, by kernel_rfl, by kernel_rfl, by kernel_rfl⟩
theorem tab_69 : TE.ok Tryd.prog ⟨69, .slice 77, 1, 24, [.slice none 0 0]⟩ := ⟨by kernel_rfl, by kernel_rfl, by kernel_rfl, by kernel_rfl⟩
theorem tab_71 : TE.ok Tryd.prog ⟨71, .struct [(0, 35), (1, 69)], 2, 48, [.slice none 0 0, .slice none 0 0]⟩ := ⟨by kernel_rfl, by kernel_rfl, by kernel_rfl, by kernel_rfl⟩
theorem tab_68 : TE.ok Tryd.prog ⟨68, .pointer 71, 1, 8, [.pointer none]⟩ := ⟨by kernel_rfl, by kernel_rfl, by kernel_rfl, by kernel_rfl⟩
theorem tab_73 : TE.ok Tryd.prog ⟨73, .struct [(0, 68), (1, 68)], 2, 16, [.pointer none, .pointer none]⟩ := ⟨by kernel_rfl, by kernel_rfl, by kernel_rfl, by kernel_rfl⟩
theorem tab_28 : TE.ok Tryd.prog ⟨28, .pointer 73, 1, 8, [.pointer none]⟩ := ⟨by kernel_rfl, by kernel_rfl, by kernel_rfl, by kernel_rfl⟩
theorem tab_115 : TE.ok Tryd.prog ⟨115, .array 3 79, 3, 24, [.pointer none, .pointer none, .pointer none]⟩ := ⟨by kernel_rfl, by kernel_rfl, by kernel_rfl, by kernel_rfl⟩
theorem tab_116 : TE.ok Tryd.prog ⟨116, .slice 79, 1, 24, [.slice none 0 0]⟩ := ⟨by kernel_rfl, by kernel_rfl, by kernel_rfl, by kernel_rfl⟩
theorem tab_76 : TE.ok Tryd.prog ⟨76, .int .i64, 1, 8, [.int .i64 0]⟩ := ⟨by kernel_rfl, by kernel_rfl, by kernel_rfl, by kernel_rfl⟩
theorem tab_ok : tab.ok Tryd.prog := by
  intro e he
  simp only [tab, List.mem_cons, List.not_mem_nil, or_false] at he
  rcases he with rfl | rfl | rfl | rfl | rfl | rfl | rfl | rfl | rfl | rfl | rfl | rfl | rfl | rfl | rfl | rfl | rfl | rfl | rfl | rfl
  · exact tab_3
  · exact tab_4
  · exact tab_47
  · exact tab_30
  · exact tab_35
  · exact tab_33
  · exact tab_51
  · exact tab_43
  · exact tab_27
  · exact tab_79
  · exact tab_81
  · exact tab_77
  · exact tab_69
  · exact tab_71
  · exact tab_68
  · exact tab_73
  · exact tab_28
  · exact tab_115
  · exact tab_116
  · exact tab_76


theorem ent15 : Enters Tryd.prog 15 := ⟨_, _, Tryd.func15, by kernel_rfl, rfl⟩
theorem ent14 : Enters Tryd.prog 14 := ⟨_, _, Tryd.func14, by kernel_rfl, rfl⟩
theorem ent22 : Enters Tryd.prog 22 := ⟨_, _, Tryd.func22, by kernel_rfl, rfl⟩
theorem ent16 : Enters Tryd.prog 16 := ⟨_, _, Tryd.func16, by kernel_rfl, rfl⟩
theorem ent25 : Enters Tryd.prog 25 := ⟨_, _, Tryd.func25, by kernel_rfl, rfl⟩

theorem set_one {p b l k} (h : k < l.length) : Tri Tryd.prog 36 [ptr p, .slice (some ⟨b, 0, none⟩) 1 1] [Bm p l, cl b [I (k : Nat)] 3] fun v B => v = .nilIface ∧ B = [Bm p (l.set k true), cl b [I k] 3] :=
  (set_tri (xs := [(k : Int)]) (ro_cl (k := 1) (size := 1) rfl (by simp [maxLen])) p l).mono fun v B ⟨h1, h2⟩ => by
    have ha : allB l [(k : Int)] = true := allB_iff.2 (by simp; omega)
    rw [ha] at h1 h2
    exact ⟨h1, h2⟩
theorem clear_one {p b l k} (h : k < l.length) : Tri Tryd.prog 41 [ptr p, .slice (some ⟨b, 0, none⟩) 1 1] [Bm p l, cl b [I (k : Nat)] 3] fun v B => v = .nilIface ∧ B = [Bm p (l.set k false), cl b [I k] 3] :=
  (clear_tri (xs := [(k : Int)]) (ro_cl (k := 1) (size := 1) rfl (by simp [maxLen])) p l).mono fun v B ⟨h1, h2⟩ => by
    have ha : allB l [(k : Int)] = true := allB_iff.2 (by simp; omega)
    rw [ha] at h1 h2
    exact ⟨h1, h2⟩
theorem hasB_nat (l : List Bool) (k : Nat) : hasB l (k : Int) = l[k]?.getD false := by unfold hasB; simp
theorem roomAt_some {es : List Ent} {a : Int} {n k : Nat} (h : roomAt es a = some (n, k)) : ∃ e, es[n]? = some e ∧ e.1 ≠ 3 ∧ 2 ≤ k ∧ (k : Int) < e.2 ∧ a = n * 4096 + k ∧ k < 4096 := by
  unfold roomAt at h
  split at h
  · rename_i hr
    split at h
    · rename_i e he
      split at h
      · rename_i hc
        cases h
        exact ⟨e, he, hc.1, by omega, by omega, by omega, by omega⟩
      · cases h
    · cases h
  · cases h
theorem sh_of {es : List Ent} {ss : List Shl} (hI : Inv es ss) {n : Nat} {e : Ent} (h : es[n]? = some e) : ∃ sh, ss[n]? = some sh ∧ okSh e.2 sh := by
  have h1 : n < ss.length := by rw [hI.len]; exact (List.getElem?_eq_some_iff.1 h).1
  exact ⟨ss[n], List.getElem?_eq_getElem h1, hI.ok n _ _ h (List.getElem?_eq_getElem h1)⟩
def takenB (es : List Ent) (ss : List Shl) (a : Int) : Bool := match roomAt es a with
  | some (n, k) => (((ss[n]?).getD noSh).t[k]?).getD false
  | none => false
theorem qs_of {qs : List Nat} {es : List Ent} (hq : qs.length = es.length) {n : Nat} {e : Ent} (h : es[n]? = some e) : ∃ q, qs[n]? = some q ∧ qs.getD n 0 = q := by
  have h1 : n < qs.length := by rw [hq]; exact (List.getElem?_eq_some_iff.1 h).1
  exact ⟨qs[n], List.getElem?_eq_getElem h1, by simp [h1]⟩
theorem taken_tri {es : List Ent} {p : Nat} {ss : List Shl} {was : Option (List Ent × List Shl)} (hI : Inv es ss) (a : Int) :
    Tri Tryd.prog 22 [ptr p, I a] [Spc p es ss was] fun v B => v = .bool (takenB es ss a) ∧ B = [Spc p es ss was] := by
  refine tri_introX Tryd.func22 rfl Tryd.ntmps22 rfl fun E X => ?_
  refine j_spc fun s wv rv sv qs R hro hq => ?_
  (refine j_nm rfl ?_; repeat (first | refine jo_cons ?_ | (refine jo_iso ?_; first | (refine jo_isbin ?_; first | refine jo_v (by first | exact pv_add rfl rfl (by omega) | exact pv_sub rfl rfl (by omega)) rfl ?_ | refine jo_pure tab_ok rfl rfl ?_ | refine jo_v (by first | exact pv_ptr_eq tab_ok rfl rfl rfl | exact pv_ptr_ne tab_ok rfl rfl rfl) rfl ?_) | refine jo_pure tab_ok rfl rfl ?_ | refine jo_want rfl ?_ | refine jo_skip rfl rfl ?_ | refine jo_load tab_ok rfl rfl rfl (by first | ((repeat first | exact Rd.here rfl | refine Rd.there ?_); done) | assumption) rfl ?_) | refine jo_nil ?_ | refine jc_seq ?_ | refine jc_skip ?_ | refine jc_region ?_ | refine jc_block ?_ | refine jc_ret ?_ | refine jc_exit ?_ | refine jx_then ?_ | refine jx_then_exit ?_ | refine jx_then_ret ?_ | refine jx_block ?_ | refine jx_block_ret ?_ | refine jx_block_hit ?_ | refine jx_block_miss rfl ?_ | refine jc_true rfl ?_ | refine jc_false rfl ?_))
  refine jo_call [0, 0, 0, 0] (S2.find_tri hro hq a) ent40 rfl ⟨rfl, rfl⟩ rfl ?_
  rintro v B ⟨rfl, rfl⟩
  unfold takenB
  cases hr : roomAt es a with
  | none =>
    show J _ _ _ ((_, .tuple #[.pointer none, I 0]) :: _) _
    (refine j_nm rfl ?_; repeat (first | refine jo_cons ?_ | (refine jo_iso ?_; first | (refine jo_isbin ?_; first | refine jo_v (by first | exact pv_add rfl rfl (by omega) | exact pv_sub rfl rfl (by omega)) rfl ?_ | refine jo_pure tab_ok rfl rfl ?_ | refine jo_v (by first | exact pv_ptr_eq tab_ok rfl rfl rfl | exact pv_ptr_ne tab_ok rfl rfl rfl) rfl ?_) | refine jo_pure tab_ok rfl rfl ?_ | refine jo_want rfl ?_ | refine jo_skip rfl rfl ?_ | refine jo_load tab_ok rfl rfl rfl (by first | ((repeat first | exact Rd.here rfl | refine Rd.there ?_); done) | assumption) rfl ?_) | refine jo_nil ?_ | refine jc_seq ?_ | refine jc_skip ?_ | refine jc_region ?_ | refine jc_block ?_ | refine jc_ret ?_ | refine jc_exit ?_ | refine jx_then ?_ | refine jx_then_exit ?_ | refine jx_then_ret ?_ | refine jx_block ?_ | refine jx_block_ret ?_ | refine jx_block_hit ?_ | refine jx_block_miss rfl ?_ | refine jc_true rfl ?_ | refine jc_false rfl ?_))
    refine j_close [0, 0, 0, 0, 0, 0] rfl (spc_shut hro hq) ?_
    exact j_ret [0] [] rfl ⟨rfl, rfl⟩ ⟨rfl, rfl⟩
  | some nk =>
    obtain ⟨n, k⟩ := nk
    obtain ⟨e, he, h3, hk2, hkz, _, _⟩ := roomAt_some hr
    obtain ⟨sh, hsh, hok⟩ := sh_of hI he
    obtain ⟨q, hqn, hqd⟩ := qs_of hq he
    show J _ _ _ ((_, .tuple #[ptr (qs.getD n 0), I k]) :: _) _
    rw [hqd]
    refine j_nm rfl ?_
    refine j_front [4] (j_shelf n hqn hsh fun a1 b1 c1 => ?_)
    (refine j_nm rfl ?_; repeat (first | refine jo_cons ?_ | (refine jo_iso ?_; first | (refine jo_isbin ?_; first | refine jo_v (by first | exact pv_add rfl rfl (by omega) | exact pv_sub rfl rfl (by omega)) rfl ?_ | refine jo_pure tab_ok rfl rfl ?_ | refine jo_v (by first | exact pv_ptr_eq tab_ok rfl rfl rfl | exact pv_ptr_ne tab_ok rfl rfl rfl) rfl ?_) | refine jo_pure tab_ok rfl rfl ?_ | refine jo_want rfl ?_ | refine jo_skip rfl rfl ?_ | refine jo_load tab_ok rfl rfl rfl (by first | ((repeat first | exact Rd.here rfl | refine Rd.there ?_); done) | assumption) rfl ?_) | refine jo_nil ?_ | refine jc_seq ?_ | refine jc_skip ?_ | refine jc_region ?_ | refine jc_block ?_ | refine jc_ret ?_ | refine jc_exit ?_ | refine jx_then ?_ | refine jx_then_exit ?_ | refine jx_then_ret ?_ | refine jx_block ?_ | refine jx_block_ret ?_ | refine jx_block_hit ?_ | refine jx_block_miss rfl ?_ | refine jc_true rfl ?_ | refine jc_false rfl ?_))
    refine jo_call [1] (has_tri a1 sh.t k) ent35 rfl ⟨rfl, rfl⟩ rfl ?_
    rintro v B ⟨rfl, rfl⟩
    (refine j_nm rfl ?_; repeat (first | refine jo_cons ?_ | (refine jo_iso ?_; first | (refine jo_isbin ?_; first | refine jo_v (by first | exact pv_add rfl rfl (by omega) | exact pv_sub rfl rfl (by omega)) rfl ?_ | refine jo_pure tab_ok rfl rfl ?_ | refine jo_v (by first | exact pv_ptr_eq tab_ok rfl rfl rfl | exact pv_ptr_ne tab_ok rfl rfl rfl) rfl ?_) | refine jo_pure tab_ok rfl rfl ?_ | refine jo_want rfl ?_ | refine jo_skip rfl rfl ?_ | refine jo_load tab_ok rfl rfl rfl (by first | ((repeat first | exact Rd.here rfl | refine Rd.there ?_); done) | assumption) rfl ?_) | refine jo_nil ?_ | refine jc_seq ?_ | refine jc_skip ?_ | refine jc_region ?_ | refine jc_block ?_ | refine jc_ret ?_ | refine jc_exit ?_ | refine jx_then ?_ | refine jx_then_exit ?_ | refine jx_then_ret ?_ | refine jx_block ?_ | refine jx_block_ret ?_ | refine jx_block_hit ?_ | refine jx_block_miss rfl ?_ | refine jc_true rfl ?_ | refine jc_false rfl ?_))
    refine j_close [1, 0, 0, 0, 0] rfl (shelf_back hqn hsh) ?_
    refine j_nm rfl ?_
    refine j_close [1, 1, 1, 1, 0, 0] rfl (spc_shut hro hq) ?_
    refine j_ret [0] [] rfl ⟨?_, rfl⟩ ⟨rfl, rfl⟩
    rw [hasB_nat]
    simp only [hsh]
    rfl

def freeOf (es : List Ent) (ss : List Shl) (n : Nat) : Int := match es[n]?, ss[n]? with
  | some e, some s => e.2 - 2 - s.used
  | _, _ => 0
theorem freeSp_tri {es : List Ent} {p : Nat} {ss : List Shl} {was : Option (List Ent × List Shl)} (hI : Inv es ss) (n : Nat) (hn : n < es.length) :
    Tri Tryd.prog 33 [ptr p, I n] [Spc p es ss was] fun v B => v = I (freeOf es ss n) ∧ B = [Spc p es ss was] := by
  have he : es[n]? = some es[n] := List.getElem?_eq_getElem hn
  obtain ⟨sh, hsh, hok⟩ := sh_of hI he
  have hf : freeOf es ss n = es[n].2 - 2 - sh.used := by unfold freeOf; rw [he, hsh]
  rw [hf]
  refine tri_wrap fun E X => ?_
  refine j_spc fun s wv rv sv qs R hro hq => ?_
  refine j_nm rfl ?_
  refine j_wrapped [0, 0, 0, 0, 0] (S2.free_tri hro hq n hn sh hsh hok (okR_size hI.right he)) ⟨rfl, rfl⟩ ?_
  rintro v B ⟨rfl, rfl⟩
  refine j_nm rfl ?_
  refine j_close [0, 0, 0, 0, 0, 0] rfl (spc_shut hro hq) ?_
  exact j_fin [0] [] ⟨rfl, rfl⟩ ⟨rfl, rfl⟩
theorem idxs_mem {pr : Ent → Bool} : ∀ {es : List Ent} {n : Nat} {d : Int}, d ∈ idxs pr n es → ∃ (i : Nat) (e : Ent), es[i]? = some e ∧ d = ((n + i : Nat) : Int) ∧ pr e = true
  | [], _, _, h => by simp [idxs] at h
  | e :: es, n, d, h => by
    simp only [idxs, List.mem_append] at h
    rcases h with h | h
    · cases hp : pr e with
      | true => rw [hp] at h; simp at h; exact ⟨0, e, rfl, by simpa using h, hp⟩
      | false => rw [hp] at h; simp at h
    · obtain ⟨i, e', h1, h2, h3⟩ := idxs_mem h
      exact ⟨i + 1, e', by simpa using h1, by rw [h2]; omega, h3⟩
abbrev acts (es : List Ent) : List Int := idxs (fun e => e.1 == 1) 0 es
theorem acts_mem {es : List Ent} {d : Int} (h : d ∈ acts es) : ∃ (n : Nat) (e : Ent), es[n]? = some e ∧ d = (n : Int) ∧ e.1 = 1 := by
  obtain ⟨i, e, h1, h2, h3⟩ := idxs_mem h
  exact ⟨i, e, h1, by simpa using h2, by simpa using h3⟩
theorem used_le {z : Int} {s : Shl} (h : okSh z s) (hz : 0 ≤ z ∧ z ≤ 4096) : s.used ≤ 8192 := by
  have h1 : s.t.count true ≤ s.t.length := List.count_le_length
  have h2 : s.g.count true ≤ s.g.length := List.count_le_length
  have := h.t; have := h.g
  unfold Shl.used
  omega
theorem freeOf_bound {es : List Ent} {ss : List Shl} (hI : Inv es ss) (n : Nat) : -8194 ≤ freeOf es ss n ∧ freeOf es ss n ≤ 4096 := by
  unfold freeOf
  cases he : es[n]? with
  | none => simp
  | some e =>
    obtain ⟨sh, hsh, hok⟩ := sh_of hI he
    rw [hsh]
    have hz := okR_size hI.right he
    have := used_le hok hz
    simp only
    omega
def sumF (es : List Ent) (ss : List Shl) (l : List Int) : Int := (l.map fun d => freeOf es ss d.toNat).sum
theorem sumF_snoc (es : List Ent) (ss : List Shl) (l : List Int) (d : Int) : sumF es ss (l ++ [d]) = sumF es ss l + freeOf es ss d.toNat := by simp [sumF]
theorem sumF_bound {es : List Ent} {ss : List Shl} (hI : Inv es ss) : ∀ l : List Int, -8194 * (l.length : Int) ≤ sumF es ss l ∧ sumF es ss l ≤ 4096 * (l.length : Int)
  | [] => by simp [sumF]
  | d :: l => by
    have h1 := sumF_bound hI l
    have h2 := freeOf_bound hI d.toNat
    have h3 : sumF es ss (d :: l) = freeOf es ss d.toNat + sumF es ss l := by simp [sumF]
    rw [h3]
    simp only [List.length_cons]
    omega
theorem free8_tri {es : List Ent} {p : Nat} {ss : List Shl} {was : Option (List Ent × List Shl)} (hI : Inv es ss) :
    Tri Tryd.prog 14 [ptr p] [Spc p es ss was] fun v B => v = I (sumF es ss (acts es)) ∧ B = [Spc p es ss was] := by
  have h8 := okR_len hI.right
  have hal := idxs_len (fun e : Ent => e.1 == 1) es 0
  refine tri_introX Tryd.func14 rfl Tryd.ntmps14 rfl fun E X => ?_
  refine j_spc fun s wv rv sv qs R hro hq => ?_
  (refine j_nm rfl ?_; repeat (first | refine jo_cons ?_ | (refine jo_iso ?_; first | (refine jo_isbin ?_; first | refine jo_v (by first | exact pv_add rfl rfl (by omega) | exact pv_sub rfl rfl (by omega)) rfl ?_ | refine jo_pure tab_ok rfl rfl ?_ | refine jo_v (by first | exact pv_ptr_eq tab_ok rfl rfl rfl | exact pv_ptr_ne tab_ok rfl rfl rfl) rfl ?_) | refine jo_pure tab_ok rfl rfl ?_ | refine jo_want rfl ?_ | refine jo_skip rfl rfl ?_ | refine jo_load tab_ok rfl rfl rfl (by first | ((repeat first | exact Rd.here rfl | refine Rd.there ?_); done) | assumption) rfl ?_) | refine jo_nil ?_ | refine jc_seq ?_ | refine jc_skip ?_ | refine jc_region ?_ | refine jc_block ?_ | refine jc_ret ?_ | refine jc_exit ?_ | refine jx_then ?_ | refine jx_then_exit ?_ | refine jx_then_ret ?_ | refine jx_block ?_ | refine jx_block_ret ?_ | refine jx_block_hit ?_ | refine jx_block_miss rfl ?_ | refine jc_true rfl ?_ | refine jc_false rfl ?_))
  refine jo_load_agg tab_ok (vs := [rv]) rfl rfl rfl rfl (by first | ((repeat first | exact Rd.here rfl | refine Rd.there ?_); done) | assumption) rfl (jo_cons ?_)
  refine jo_call [3] (actives_tri hro hI.right) ent32 rfl ⟨rfl, rfl⟩ rfl ?_
  rintro v B rfl
  refine j_nm rfl ?_
  refine j_close [2, 2, 2, 1, 1, 1] rfl (spc_shut hro hq) ?_
  refine j_nm rfl ?_
  refine j_front [1] (j_sl_ro fun hra => ?_)
  obtain ⟨ab, an, ac, rfl, han, ham, haor⟩ := hra
  simp only [List.length_map, Nat.mul_one] at han
  have han : (acts es).length = an := han
  (refine j_nm rfl ?_; repeat (first | refine jo_cons ?_ | (refine jo_iso ?_; first | (refine jo_isbin ?_; first | refine jo_v (by first | exact pv_add rfl rfl (by omega) | exact pv_sub rfl rfl (by omega)) rfl ?_ | refine jo_pure tab_ok rfl rfl ?_ | refine jo_v (by first | exact pv_ptr_eq tab_ok rfl rfl rfl | exact pv_ptr_ne tab_ok rfl rfl rfl) rfl ?_) | refine jo_pure tab_ok rfl rfl ?_ | refine jo_want rfl ?_ | refine jo_skip rfl rfl ?_ | refine jo_load tab_ok rfl rfl rfl (by first | ((repeat first | exact Rd.here rfl | refine Rd.there ?_); done) | assumption) rfl ?_) | refine jo_nil ?_ | refine jc_seq ?_ | refine jc_skip ?_ | refine jc_region ?_ | refine jc_block ?_ | refine jc_ret ?_ | refine jc_exit ?_ | refine jx_then ?_ | refine jx_then_exit ?_ | refine jx_then_ret ?_ | refine jx_block ?_ | refine jx_block_ret ?_ | refine jx_block_hit ?_ | refine jx_block_miss rfl ?_ | refine jc_true rfl ?_ | refine jc_false rfl ?_))
  refine jc_loop (ι := Nat) (fun i => [(15, I i), (14, I an), (13, .slice ab an ac), (3, I (sumF es ss ((acts es).take i))), (0, ptr p)])
    (fun _ => sl 3 1 (.slice ab an ac) ((acts es).map I) :: Spc p es ss was :: [X]) (fun i => i ≤ an) (fun i => an - i) 0 [] [] (Nat.zero_le _) ⟨rfl, rfl, rfl, rfl, rfl, trivial⟩ rfl ?_
  intro i hi
  (refine j_nm rfl ?_; repeat (first | refine jo_cons ?_ | (refine jo_iso ?_; first | (refine jo_isbin ?_; first | refine jo_v (by first | exact pv_add rfl rfl (by omega) | exact pv_sub rfl rfl (by omega)) rfl ?_ | refine jo_pure tab_ok rfl rfl ?_ | refine jo_v (by first | exact pv_ptr_eq tab_ok rfl rfl rfl | exact pv_ptr_ne tab_ok rfl rfl rfl) rfl ?_) | refine jo_pure tab_ok rfl rfl ?_ | refine jo_want rfl ?_ | refine jo_skip rfl rfl ?_ | refine jo_load tab_ok rfl rfl rfl (by first | ((repeat first | exact Rd.here rfl | refine Rd.there ?_); done) | assumption) rfl ?_) | refine jo_nil ?_ | refine jc_seq ?_ | refine jc_skip ?_ | refine jc_region ?_ | refine jc_block ?_ | refine jc_ret ?_ | refine jc_exit ?_ | refine jx_then ?_ | refine jx_then_exit ?_ | refine jx_then_ret ?_ | refine jx_block ?_ | refine jx_block_ret ?_ | refine jx_block_hit ?_ | refine jx_block_miss rfl ?_ | refine jc_true rfl ?_ | refine jc_false rfl ?_))
  refine jc_dec rfl (fun h => ?_) (fun h => ?_)
  · have hi' : i < an := by omega
    have hia : i < (acts es).length := by omega
    obtain ⟨n, e, hne, hnd, _⟩ := acts_mem (List.getElem_mem hia)
    have hnl : n < es.length := (List.getElem?_eq_some_iff.1 hne).1
    obtain ⟨b, o, rfl, hrd⟩ := haor.resolve_left (by omega)
    have hnext : sumF es ss ((acts es).take (i + 1)) = sumF es ss ((acts es).take i) + freeOf es ss n := by
      rw [List.take_succ_eq_append_getElem hia, sumF_snoc, hnd]; rfl
    have hb1 := sumF_bound hI ((acts es).take i)
    have hb2 := freeOf_bound hI n
    have hb3 : ((acts es).take i).length ≤ 8 := by simp only [List.length_take]; omega
    (refine j_nm rfl ?_; repeat (first | refine jo_cons ?_ | (refine jo_iso ?_; first | (refine jo_isbin ?_; first | refine jo_v (by first | exact pv_add rfl rfl (by omega) | exact pv_sub rfl rfl (by omega)) rfl ?_ | refine jo_pure tab_ok rfl rfl ?_ | refine jo_v (by first | exact pv_ptr_eq tab_ok rfl rfl rfl | exact pv_ptr_ne tab_ok rfl rfl rfl) rfl ?_) | refine jo_pure tab_ok rfl rfl ?_ | refine jo_want rfl ?_ | refine jo_skip rfl rfl ?_ | refine jo_load tab_ok rfl rfl rfl (by first | ((repeat first | exact Rd.here rfl | refine Rd.there ?_); done) | assumption) rfl ?_) | refine jo_nil ?_ | refine jc_seq ?_ | refine jc_skip ?_ | refine jc_region ?_ | refine jc_block ?_ | refine jc_ret ?_ | refine jc_exit ?_ | refine jx_then ?_ | refine jx_then_exit ?_ | refine jx_then_ret ?_ | refine jx_block ?_ | refine jx_block_ret ?_ | refine jx_block_hit ?_ | refine jx_block_miss rfl ?_ | refine jc_true rfl ?_ | refine jc_false rfl ?_))
    refine jo_v (pv_index1 tab_ok i rfl rfl rfl rfl rfl rfl rfl hi') rfl (jo_cons ?_)
    refine jo_load tab_ok rfl rfl rfl ((hrd _).one (k := i) (v := I (n : Int)) (by rw [List.getElem?_map, List.getElem?_eq_getElem hia, hnd]; rfl)) rfl ?_
    (refine j_nm rfl ?_; repeat (first | refine jo_cons ?_ | (refine jo_iso ?_; first | (refine jo_isbin ?_; first | refine jo_v (by first | exact pv_add rfl rfl (by omega) | exact pv_sub rfl rfl (by omega)) rfl ?_ | refine jo_pure tab_ok rfl rfl ?_ | refine jo_v (by first | exact pv_ptr_eq tab_ok rfl rfl rfl | exact pv_ptr_ne tab_ok rfl rfl rfl) rfl ?_) | refine jo_pure tab_ok rfl rfl ?_ | refine jo_want rfl ?_ | refine jo_skip rfl rfl ?_ | refine jo_load tab_ok rfl rfl rfl (by first | ((repeat first | exact Rd.here rfl | refine Rd.there ?_); done) | assumption) rfl ?_) | refine jo_nil ?_ | refine jc_seq ?_ | refine jc_skip ?_ | refine jc_region ?_ | refine jc_block ?_ | refine jc_ret ?_ | refine jc_exit ?_ | refine jx_then ?_ | refine jx_then_exit ?_ | refine jx_then_ret ?_ | refine jx_block ?_ | refine jx_block_ret ?_ | refine jx_block_hit ?_ | refine jx_block_miss rfl ?_ | refine jc_true rfl ?_ | refine jc_false rfl ?_))
    refine jo_call [1] (freeSp_tri hI n hnl) ent33 rfl ⟨rfl, rfl⟩ rfl ?_
    rintro v B ⟨rfl, rfl⟩
    (refine j_nm rfl ?_; repeat (first | refine jo_cons ?_ | (refine jo_iso ?_; first | (refine jo_isbin ?_; first | refine jo_v (by first | exact pv_add rfl rfl (by omega) | exact pv_sub rfl rfl (by omega)) rfl ?_ | refine jo_pure tab_ok rfl rfl ?_ | refine jo_v (by first | exact pv_ptr_eq tab_ok rfl rfl rfl | exact pv_ptr_ne tab_ok rfl rfl rfl) rfl ?_) | refine jo_pure tab_ok rfl rfl ?_ | refine jo_want rfl ?_ | refine jo_skip rfl rfl ?_ | refine jo_load tab_ok rfl rfl rfl (by first | ((repeat first | exact Rd.here rfl | refine Rd.there ?_); done) | assumption) rfl ?_) | refine jo_nil ?_ | refine jc_seq ?_ | refine jc_skip ?_ | refine jc_region ?_ | refine jc_block ?_ | refine jc_ret ?_ | refine jc_exit ?_ | refine jx_then ?_ | refine jx_then_exit ?_ | refine jx_then_ret ?_ | refine jx_block ?_ | refine jx_block_ret ?_ | refine jx_block_hit ?_ | refine jx_block_miss rfl ?_ | refine jc_true rfl ?_ | refine jc_false rfl ?_))
    exact jx_round (i + 1) [1, 0] [] hi' (by omega) ⟨rfl, rfl, rfl, by rw [hnext]; rfl, rfl, trivial⟩ rfl
  · have hin : (acts es).take i = acts es := List.take_of_length_le (by omega)
    rw [hin]
    (refine j_nm rfl ?_; repeat (first | refine jo_cons ?_ | (refine jo_iso ?_; first | (refine jo_isbin ?_; first | refine jo_v (by first | exact pv_add rfl rfl (by omega) | exact pv_sub rfl rfl (by omega)) rfl ?_ | refine jo_pure tab_ok rfl rfl ?_ | refine jo_v (by first | exact pv_ptr_eq tab_ok rfl rfl rfl | exact pv_ptr_ne tab_ok rfl rfl rfl) rfl ?_) | refine jo_pure tab_ok rfl rfl ?_ | refine jo_want rfl ?_ | refine jo_skip rfl rfl ?_ | refine jo_load tab_ok rfl rfl rfl (by first | ((repeat first | exact Rd.here rfl | refine Rd.there ?_); done) | assumption) rfl ?_) | refine jo_nil ?_ | refine jc_seq ?_ | refine jc_skip ?_ | refine jc_region ?_ | refine jc_block ?_ | refine jc_ret ?_ | refine jc_exit ?_ | refine jx_then ?_ | refine jx_then_exit ?_ | refine jx_then_ret ?_ | refine jx_block ?_ | refine jx_block_ret ?_ | refine jx_block_hit ?_ | refine jx_block_miss rfl ?_ | refine jc_true rfl ?_ | refine jc_false rfl ?_))
    exact j_ret [0] [0] rfl ⟨rfl, rfl⟩ ⟨rfl, rfl⟩

def usedAt (ss : List Shl) (d : Int) : Int := if 0 ≤ d then (match ss[d.toNat]? with | some s => (s.used : Int) | none => 0) else 0
theorem used8_tri {es : List Ent} {p : Nat} {ss : List Shl} {was : Option (List Ent × List Shl)} (hI : Inv es ss) (d : Int) :
    Tri Tryd.prog 16 [ptr p, I d] [Spc p es ss was] fun v B => v = I (usedAt ss d) ∧ B = [Spc p es ss was] := by
  refine tri_introX Tryd.func16 rfl Tryd.ntmps16 rfl fun E X => ?_
  refine j_spc fun s wv rv sv qs R hro hq => ?_
  refine j_nm rfl ?_
  refine j_front [2] (j_sl_ro fun hrs => ?_)
  obtain ⟨qb, qn, qc, rfl, hqn, hqm, hqor⟩ := hrs
  simp only [List.length_map, Nat.mul_one] at hqn
  have hlen := hI.len
  (refine j_nm rfl ?_; repeat (first | refine jo_cons ?_ | (refine jo_iso ?_; first | (refine jo_isbin ?_; first | refine jo_v (by first | exact pv_add rfl rfl (by omega) | exact pv_sub rfl rfl (by omega)) rfl ?_ | refine jo_pure tab_ok rfl rfl ?_ | refine jo_v (by first | exact pv_ptr_eq tab_ok rfl rfl rfl | exact pv_ptr_ne tab_ok rfl rfl rfl) rfl ?_) | refine jo_pure tab_ok rfl rfl ?_ | refine jo_want rfl ?_ | refine jo_skip rfl rfl ?_ | refine jo_load tab_ok rfl rfl rfl (by first | ((repeat first | exact Rd.here rfl | refine Rd.there ?_); done) | assumption) rfl ?_) | refine jo_nil ?_ | refine jc_seq ?_ | refine jc_skip ?_ | refine jc_region ?_ | refine jc_block ?_ | refine jc_ret ?_ | refine jc_exit ?_ | refine jx_then ?_ | refine jx_then_exit ?_ | refine jx_then_ret ?_ | refine jx_block ?_ | refine jx_block_ret ?_ | refine jx_block_hit ?_ | refine jx_block_miss rfl ?_ | refine jc_true rfl ?_ | refine jc_false rfl ?_))
  refine j_dec 7 rfl (fun h => ?_) (fun h => ?_)
  · (refine j_nm rfl ?_; repeat (first | refine jo_cons ?_ | (refine jo_iso ?_; first | (refine jo_isbin ?_; first | refine jo_v (by first | exact pv_add rfl rfl (by omega) | exact pv_sub rfl rfl (by omega)) rfl ?_ | refine jo_pure tab_ok rfl rfl ?_ | refine jo_v (by first | exact pv_ptr_eq tab_ok rfl rfl rfl | exact pv_ptr_ne tab_ok rfl rfl rfl) rfl ?_) | refine jo_pure tab_ok rfl rfl ?_ | refine jo_want rfl ?_ | refine jo_skip rfl rfl ?_ | refine jo_load tab_ok rfl rfl rfl (by first | ((repeat first | exact Rd.here rfl | refine Rd.there ?_); done) | assumption) rfl ?_) | refine jo_nil ?_ | refine jc_seq ?_ | refine jc_skip ?_ | refine jc_region ?_ | refine jc_block ?_ | refine jc_ret ?_ | refine jc_exit ?_ | refine jx_then ?_ | refine jx_then_exit ?_ | refine jx_then_ret ?_ | refine jx_block ?_ | refine jx_block_ret ?_ | refine jx_block_hit ?_ | refine jx_block_miss rfl ?_ | refine jc_true rfl ?_ | refine jc_false rfl ?_))
    refine j_close [1, 1, 0, 0, 0, 0] rfl (spc_shut hro hq) ?_
    refine j_ret [0] [] rfl ⟨?_, rfl⟩ ⟨rfl, rfl⟩
    have h' : ¬ 0 ≤ d := by have : d < 0 := h; omega
    simp only [usedAt, h', if_false]
  obtain ⟨n, rfl⟩ := Int.eq_ofNat_of_zero_le (show 0 ≤ d by have : ¬ d < 0 := h; omega)
  (refine j_nm rfl ?_; repeat (first | refine jo_cons ?_ | (refine jo_iso ?_; first | (refine jo_isbin ?_; first | refine jo_v (by first | exact pv_add rfl rfl (by omega) | exact pv_sub rfl rfl (by omega)) rfl ?_ | refine jo_pure tab_ok rfl rfl ?_ | refine jo_v (by first | exact pv_ptr_eq tab_ok rfl rfl rfl | exact pv_ptr_ne tab_ok rfl rfl rfl) rfl ?_) | refine jo_pure tab_ok rfl rfl ?_ | refine jo_want rfl ?_ | refine jo_skip rfl rfl ?_ | refine jo_load tab_ok rfl rfl rfl (by first | ((repeat first | exact Rd.here rfl | refine Rd.there ?_); done) | assumption) rfl ?_) | refine jo_nil ?_ | refine jc_seq ?_ | refine jc_skip ?_ | refine jc_region ?_ | refine jc_block ?_ | refine jc_ret ?_ | refine jc_exit ?_ | refine jx_then ?_ | refine jx_then_exit ?_ | refine jx_then_ret ?_ | refine jx_block ?_ | refine jx_block_ret ?_ | refine jx_block_hit ?_ | refine jx_block_miss rfl ?_ | refine jc_true rfl ?_ | refine jc_false rfl ?_))
  refine jc_dec rfl (fun h2 => ?_) (fun h2 => ?_)
  · (refine j_nm rfl ?_; repeat (first | refine jo_cons ?_ | (refine jo_iso ?_; first | (refine jo_isbin ?_; first | refine jo_v (by first | exact pv_add rfl rfl (by omega) | exact pv_sub rfl rfl (by omega)) rfl ?_ | refine jo_pure tab_ok rfl rfl ?_ | refine jo_v (by first | exact pv_ptr_eq tab_ok rfl rfl rfl | exact pv_ptr_ne tab_ok rfl rfl rfl) rfl ?_) | refine jo_pure tab_ok rfl rfl ?_ | refine jo_want rfl ?_ | refine jo_skip rfl rfl ?_ | refine jo_load tab_ok rfl rfl rfl (by first | ((repeat first | exact Rd.here rfl | refine Rd.there ?_); done) | assumption) rfl ?_) | refine jo_nil ?_ | refine jc_seq ?_ | refine jc_skip ?_ | refine jc_region ?_ | refine jc_block ?_ | refine jc_ret ?_ | refine jc_exit ?_ | refine jx_then ?_ | refine jx_then_exit ?_ | refine jx_then_ret ?_ | refine jx_block ?_ | refine jx_block_ret ?_ | refine jx_block_hit ?_ | refine jx_block_miss rfl ?_ | refine jc_true rfl ?_ | refine jc_false rfl ?_))
    refine j_close [1, 1, 0, 0, 0, 0] rfl (spc_shut hro hq) ?_
    refine j_ret [0] [] rfl ⟨?_, rfl⟩ ⟨rfl, rfl⟩
    have h3 : ss[n]? = none := List.getElem?_eq_none (by omega)
    simp [usedAt, h3]
  · have hn : n < es.length := by omega
    have he : es[n]? = some es[n] := List.getElem?_eq_getElem hn
    obtain ⟨sh, hsh, hok⟩ := sh_of hI he
    obtain ⟨q, hqq, _⟩ := qs_of hq he
    have hle := okSh_le hok (okR_size hI.right he)
    obtain ⟨b, o, rfl, hrd⟩ := hqor.resolve_left (by omega)
    (refine j_nm rfl ?_; repeat (first | refine jo_cons ?_ | (refine jo_iso ?_; first | (refine jo_isbin ?_; first | refine jo_v (by first | exact pv_add rfl rfl (by omega) | exact pv_sub rfl rfl (by omega)) rfl ?_ | refine jo_pure tab_ok rfl rfl ?_ | refine jo_v (by first | exact pv_ptr_eq tab_ok rfl rfl rfl | exact pv_ptr_ne tab_ok rfl rfl rfl) rfl ?_) | refine jo_pure tab_ok rfl rfl ?_ | refine jo_want rfl ?_ | refine jo_skip rfl rfl ?_ | refine jo_load tab_ok rfl rfl rfl (by first | ((repeat first | exact Rd.here rfl | refine Rd.there ?_); done) | assumption) rfl ?_) | refine jo_nil ?_ | refine jc_seq ?_ | refine jc_skip ?_ | refine jc_region ?_ | refine jc_block ?_ | refine jc_ret ?_ | refine jc_exit ?_ | refine jx_then ?_ | refine jx_then_exit ?_ | refine jx_then_ret ?_ | refine jx_block ?_ | refine jx_block_ret ?_ | refine jx_block_hit ?_ | refine jx_block_miss rfl ?_ | refine jc_true rfl ?_ | refine jc_false rfl ?_))
    refine jo_v (pv_index1 tab_ok n rfl rfl rfl rfl rfl rfl rfl (by omega)) rfl (jo_cons ?_)
    refine jo_load tab_ok rfl rfl rfl ((hrd _).one (k := n) (v := ptr q) (by rw [List.getElem?_map, hqq]; rfl)) rfl (jo_cons ?_)
    refine j_front [4] (j_many n hqq hsh ?_)
    refine j_nm rfl ?_
    refine jo_call [0] (used_tri q sh hle.1 hle.2.2) ent37 rfl ⟨rfl, rfl⟩ rfl ?_
    rintro v B ⟨rfl, rfl⟩
    refine j_close [0, 0] rfl (fun m h => many_back hqq hsh h) ?_
    (refine j_nm rfl ?_; repeat (first | refine jo_cons ?_ | (refine jo_iso ?_; first | (refine jo_isbin ?_; first | refine jo_v (by first | exact pv_add rfl rfl (by omega) | exact pv_sub rfl rfl (by omega)) rfl ?_ | refine jo_pure tab_ok rfl rfl ?_ | refine jo_v (by first | exact pv_ptr_eq tab_ok rfl rfl rfl | exact pv_ptr_ne tab_ok rfl rfl rfl) rfl ?_) | refine jo_pure tab_ok rfl rfl ?_ | refine jo_want rfl ?_ | refine jo_skip rfl rfl ?_ | refine jo_load tab_ok rfl rfl rfl (by first | ((repeat first | exact Rd.here rfl | refine Rd.there ?_); done) | assumption) rfl ?_) | refine jo_nil ?_ | refine jc_seq ?_ | refine jc_skip ?_ | refine jc_region ?_ | refine jc_block ?_ | refine jc_ret ?_ | refine jc_exit ?_ | refine jx_then ?_ | refine jx_then_exit ?_ | refine jx_then_ret ?_ | refine jx_block ?_ | refine jx_block_ret ?_ | refine jx_block_hit ?_ | refine jx_block_miss rfl ?_ | refine jc_true rfl ?_ | refine jc_false rfl ?_))
    refine j_close [2, 2, 1, 1, 0, 0] rfl (spc_shut hro hq) ?_
    refine j_ret [0] [] rfl ⟨?_, rfl⟩ ⟨rfl, rfl⟩
    simp [usedAt, hsh]
end S9
end Go.Proofs.YtejaonodaplbhaaDoor
