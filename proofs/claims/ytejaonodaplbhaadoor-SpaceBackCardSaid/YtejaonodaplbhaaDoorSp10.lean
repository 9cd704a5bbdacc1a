import Derived.Test.YtejaonodaplbhaaDoorSp9
namespace Go.Proofs.YtejaonodaplbhaaDoor
namespace S10
open Go Go.Proofs.YtejaonodaplbhaaDoor.Hp Sp S2 S3 S4 S5 S6 S7 S8 S9
set_option maxRecDepth 10000
set_option linter.unusedVariables false
set_option linter.unusedSimpArgs false
attribute [local irreducible] wpList Code.wp wpAny wpAnyK
def tab : Tab := [
  ⟨3, .int .i64, 1, 8, [.int .i64 0]⟩,
  ⟨4, .bool, 1, 1, [.bool false]⟩,
  ⟨47, .slice 3, 1, 24, [.slice none 0 0]⟩,
  ⟨30, .iface, 1, 16, [.nilIface]⟩,
  ⟨35, .struct [(0, 33)], 1, 24, [.slice none 0 0]⟩,
  ⟨33, .slice 51, 1, 24, [.slice none 0 0]⟩,
  ⟨51, .struct [(0, 3), (1, 3)], 2, 16, [.int .i64 0, .int .i64 0]⟩,
  ⟨43, .struct [(0, 3), (1, 3)], 2, 16, [.int .i64 0, .int .i64 0]⟩,
  ⟨27, .slice 43, 1, 24, [.slice none 0 0]⟩,
  ⟨79, .pointer 104, 1, 8, [.pointer none]⟩,
  ⟨81, .struct [(0, 79), (1, 79), (2, 79)], 3, 24, [.pointer none, .pointer none, .pointer none]⟩,
  ⟨77, .pointer 81, 1, 8, [.pointer none]⟩,
  ⟨69, .slice 77, 1, 24, [.slice none 0 0]⟩,
  ⟨71, .struct [(0, 35), (1, 69)], 2, 48, [.slice none 0 0, .slice none 0 0]⟩,
  ⟨68, .pointer 71, 1, 8, [.pointer none]⟩,
  ⟨73, .struct [(0, 68), (1, 68)], 2, 16, [.pointer none, .pointer none]⟩,
  ⟨28, .pointer 73, 1, 8, [.pointer none]⟩,
  ⟨115, .array 3 79, 3, 24, [.pointer none, .pointer none, .pointer none]⟩,
  ⟨116, .slice 79, 1, 24, [.slice none 0 0]⟩,
  ⟨76, .int .i64, 1, 8, [.int .i64 0]⟩]
theorem tab_3 : TE.ok Tryd.prog ⟨3, .int .i64, 1, 8, [.int .i64 0]⟩ := ⟨by kernel_rfl, by kernel_rfl, by kernel_rfl, by kernel_rfl⟩
theorem tab_4 : TE.ok Tryd.prog ⟨4, .bool, 1, 1, [.bool false]⟩ := ⟨by kernel_rfl, by kernel_rfl, by kernel_rfl, by kernel_rfl⟩
theorem tab_47 : TE.ok Tryd.prog ⟨47, .slice 3, 1, 24, [.slice none 0 0]⟩ := ⟨by kernel_rfl, by kernel_rfl, by kernel_rfl, by kernel_rfl⟩
theorem tab_30 : TE.ok Tryd.prog ⟨30, .iface, 1, 16, [.nilIface]⟩ := ⟨by kernel_rfl, by kernel_rfl, by kernel_rfl, by kernel_rfl⟩
theorem tab_35 : TE.ok Tryd.prog ⟨35, .struct [(0, 33)], 1, 24, [.slice none 0 0]⟩ := ⟨by kernel_rfl, by kernel_rfl, by kernel_rfl, by kernel_rfl⟩
theorem tab_33 : TE.ok Tryd.prog ⟨33, .slice 51, 1, 24, [.slice none 0 0]⟩ := ⟨by kernel_rfl, by kernel_rfl, by kernel_rfl, by kernel_rfl⟩
theorem tab_51 : TE.ok Tryd.prog ⟨51, .struct [(0, 3), (1, 3)], 2, 16, [.int .i64 0, .int .i64 0]⟩ := ⟨by kernel_rfl, by kernel_rfl, by kernel_rfl, by kernel_rfl⟩
theorem tab_43 : TE.ok Tryd.prog ⟨43, .struct [(0, 3), (1, 3)], 2, 16, [.int .i64 0, .int .i64 0]⟩ := ⟨by kernel_rfl, by kernel_rfl, by kernel_rfl, by kernel_rfl⟩
theorem tab_27 : TE.ok Tryd.prog ⟨27, .slice 43, 1, 24, [.slice none 0 0]⟩ := ⟨by kernel_rfl, by kernel_rfl, by kernel_rfl, by kernel_rfl⟩
theorem tab_79 : TE.ok Tryd.prog ⟨79, .pointer 104, 1, 8, [.pointer none]⟩ := ⟨by kernel_rfl, by kernel_rfl, by kernel_rfl, by kernel_rfl⟩
theorem tab_81 : TE.ok Tryd.prog ⟨81, .struct [(0, 79), (1, 79), (2, 79)], 3, 24, [.pointer none, .pointer none, .pointer none]⟩ := ⟨by kernel_rfl, by kernel_rfl, by kernel_rfl, by kernel_rfl⟩
theorem tab_77 : TE.ok Tryd.prog ⟨77, .pointer 81, 1, 8, [.pointer none]⟩ := ⟨by kernel_rfl, by kernel_rfl, by kernel_rfl, by kernel_rfl⟩
theorem tab_69 : TE.ok Tryd.prog ⟨69, .slice 77, 1, 24, [.slice none 0 0]⟩ := ⟨by kernel_rfl, by kernel_rfl, by kernel_rfl, by kernel_rfl⟩
theorem tab_71 : TE.ok Tryd.prog ⟨71, .struct [(0, 35), (1, 69)], 2, 48, [.slice none 0 0, .slice none 0 0]⟩ := ⟨by kernel_rfl, by kernel_rfl, by kernel_rfl, by kernel_rfl⟩
theorem tab_68 : TE.ok Tryd.prog ⟨68, .pointer 71, 1, 8, [.pointer none]⟩ := ⟨by kernel_rfl, by kernel_rfl, by kernel_rfl, by kernel_rfl⟩
theorem tab_73 : TE.ok Tryd.prog ⟨73, .struct [(0, 68), (1, 68)], 2, 16, [.pointer none, .pointer none]⟩ := ⟨by kernel_rfl, by kernel_rfl, by kernel_rfl, by kernel_rfl⟩
theorem tab_28 : TE.ok Tryd.prog ⟨28, .pointer 73, 1, 8, [.pointer none]⟩ := ⟨by kernel_rfl, by kernel_rfl, by kernel_rfl, by kernel_rfl⟩
theorem tab_115 : TE.ok Tryd.prog ⟨115, .array 3 79, 3, 24, [.pointer none, .pointer none, .pointer none]⟩ := ⟨by kernel_rfl, by kernel_rfl, by kernel_rfl, by kernel_rfl⟩
theorem tab_116 : TE.ok Tryd.prog ⟨116, .slice 79, 1, 24, [.slice none 0 0]⟩ := ⟨by kernel_rfl, by kernel_rfl, by kernel_rfl, by kernel_rfl⟩
theorem tab_76 : TE.ok Tryd.prog ⟨76, .int .i64, 1, 8, [.int .i64 0]⟩ := ⟨by kernel_rfl, by kernel_rfl, by kernel_rfl, by kernel_rfl⟩
theorem tab_ok : tab.ok Tryd.prog := by
  intro e he
  simp only [tab, List.mem_cons, List.not_mem_nil, or_false] at he
  rcases he with rfl | rfl | rfl | rfl | rfl | rfl | rfl | rfl | rfl | rfl | rfl | rfl | rfl | rfl | rfl | rfl | rfl | rfl | rfl | rfl
  · exact tab_3
  · exact tab_4
  · exact tab_47
  · exact tab_30
  · exact tab_35
  · exact tab_33
  · exact tab_51
  · exact tab_43
  · exact tab_27
  · exact tab_79
  · exact tab_81
  · exact tab_77
  · exact tab_69
  · exact tab_71
  · exact tab_68
  · exact tab_73
  · exact tab_28
  · exact tab_115
  · exact tab_116
  · exact tab_76



def pickS (f : Nat → Int) (b : Int × Int) (d : Int) : Int × Int := if f d.toNat > b.2 then (d, f d.toNat) else b
def pickF (f : Nat → Int) (l : List Int) : Int × Int := l.foldl (pickS f) (0, 0)
theorem pickF_snoc (f : Nat → Int) (l : List Int) (d : Int) : pickF f (l ++ [d]) = pickS f (pickF f l) d := by simp [pickF, List.foldl_append]
theorem pickS_spec (f : Nat → Int) : ∀ (l : List Int) (b : Int × Int), b.2 ≤ (l.foldl (pickS f) b).2 ∧ (l.foldl (pickS f) b = b ∨ ((l.foldl (pickS f) b).1 ∈ l ∧ f (l.foldl (pickS f) b).1.toNat = (l.foldl (pickS f) b).2)) ∧ ∀ d ∈ l, f d.toNat ≤ (l.foldl (pickS f) b).2
  | [], b => ⟨Int.le_refl _, .inl rfl, fun d h => by cases h⟩
  | d :: l, b => by
    obtain ⟨h1, h2, h3⟩ := pickS_spec f l (pickS f b d)
    have hs : b.2 ≤ (pickS f b d).2 ∧ f d.toNat ≤ (pickS f b d).2 ∧ (pickS f b d = b ∨ (pickS f b d).1 = d ∧ (pickS f b d).2 = f d.toNat) := by
      unfold pickS
      split
      · exact ⟨by simp only; omega, Int.le_refl _, .inr ⟨rfl, rfl⟩⟩
      · exact ⟨Int.le_refl _, by omega, .inl rfl⟩
    simp only [List.foldl_cons]
    refine ⟨by omega, ?_, fun x hx => ?_⟩
    · rcases h2 with h2 | ⟨h2, h4⟩
      · rw [h2]
        rcases hs.2.2 with h5 | ⟨h5, h6⟩
        · exact .inl h5
        · refine .inr ⟨by rw [h5]; exact List.mem_cons_self .., by rw [h5, h6]⟩
      · exact .inr ⟨List.mem_cons_of_mem _ h2, h4⟩
    · rcases List.mem_cons.1 hx with rfl | hx
      · omega
      · exact h3 x hx
theorem pickF_pos {f : Nat → Int} {l : List Int} (h : (pickF f l).2 ≠ 0) : (pickF f l).1 ∈ l ∧ f (pickF f l).1.toNat = (pickF f l).2 ∧ 0 < (pickF f l).2 := by
  obtain ⟨h1, h2, _⟩ := pickS_spec f l (0, 0)
  rcases h2 with h2 | h2
  · exact absurd (by unfold pickF; rw [h2]) h
  · refine ⟨h2.1, h2.2, ?_⟩
    have : (0 : Int) ≤ (pickF f l).2 := h1
    omega
theorem pickF_max {f : Nat → Int} {l : List Int} {d : Int} (h : d ∈ l) : f d.toNat ≤ (pickF f l).2 := (pickS_spec f l (0, 0)).2.2 d h
theorem pickF_nonneg (f : Nat → Int) (l : List Int) : 0 ≤ (pickF f l).2 := (pickS_spec f l (0, 0)).1

theorem cnt_cover : ∀ (t g : List Bool), t.length = g.length → (∀ j : Nat, j < t.length → t[j]? = some true ∨ g[j]? = some true) → t.length ≤ t.count true + g.count true
  | [], [], _, _ => by simp
  | [], _ :: _, h, _ => by simp at h
  | _ :: _, [], h, _ => by simp at h
  | a :: t, b :: g, hl, h => by
    have ih := cnt_cover t g (by simpa using hl) (fun j hj => by have := h (j + 1) (by simpa using hj); simpa using this)
    have h0 := h 0 (by simp)
    simp only [List.length_cons, List.count_cons]
    simp at h0
    rcases h0 with rfl | rfl
    · simp; split <;> omega
    · simp; split <;> omega
theorem free_slot {t g : List Bool} (hl : t.length = g.length) (h : t.count true + g.count true + 2 < t.length) : ∃ j : Nat, 2 ≤ j ∧ j < t.length ∧ t[j]? = some false ∧ g[j]? = some false := by
  refine Classical.byContradiction fun hn => ?_
  have hc := cnt_cover (t.drop 2) (g.drop 2) (by simp [hl]) (fun j hj => by
    simp only [List.length_drop] at hj
    rw [List.getElem?_drop, List.getElem?_drop]
    have h1 : t[2 + j]? = some t[2 + j] := List.getElem?_eq_getElem (by omega)
    have h2 : g[2 + j]? = some g[2 + j] := List.getElem?_eq_getElem (by omega)
    refine Classical.byContradiction fun hh => hn ⟨2 + j, by omega, by omega, ?_, ?_⟩
    · cases hb : t[2 + j] with
      | false => rw [h1, hb]
      | true => exact absurd (.inl (by rw [h1, hb])) hh
    · cases hb : g[2 + j] with
      | false => rw [h2, hb]
      | true => exact absurd (.inr (by rw [h2, hb])) hh)
  have h3 : (t.drop 2).count true ≤ t.count true := (List.drop_sublist 2 t).count_le true
  have h4 : (g.drop 2).count true ≤ g.count true := (List.drop_sublist 2 g).count_le true
  simp only [List.length_drop] at hc
  omega
/-- the first free sector -/
structure IsFst (t g : List Bool) (k : Nat) : Prop where
  ge : 2 ≤ k
  lt : k < t.length
  offT : t[k]? = some false
  offG : g[k]? = some false
  on : ∀ j : Nat, 2 ≤ j → j < k → t[j]? = some true ∨ g[j]? = some true
/-- where the search stands -/
structure Look (t g : List Bool) (k : Nat) : Prop where
  ge : 2 ≤ k
  lt : k < t.length
  off : t[k]? = some false
  on : ∀ j : Nat, 2 ≤ j → j < k → t[j]? = some true ∨ g[j]? = some true
theorem look_next {t g : List Bool} {fr : Nat} (hfr : 2 ≤ fr) (hs : ∃ j : Nat, 2 ≤ j ∧ j < t.length ∧ t[j]? = some false ∧ g[j]? = some false) (hon : ∀ j : Nat, 2 ≤ j → j < fr → t[j]? = some true ∨ g[j]? = some true)
    {r : Option Nat} (h : Fnd t fr false r) : ∃ k, r = some k ∧ fr ≤ k ∧ Look t g k := by
  obtain ⟨j, hj2, hjl, hjt, hjg⟩ := hs
  have hfj : fr ≤ j := by
    refine Classical.byContradiction fun hn => ?_
    rcases hon j hj2 (by omega) with h1 | h1
    · rw [hjt] at h1; cases h1
    · rw [hjg] at h1; cases h1
  cases r with
  | none =>
    have := h j (by omega) hjl
    rw [hjt] at this; cases this
  | some k =>
    obtain ⟨h1, h2, h3, h4⟩ := h
    refine ⟨k, rfl, by omega, by omega, h2, h3, fun i hi1 hi2 => ?_⟩
    by_cases hif : i < fr
    · exact hon i hi1 hif
    · have := h4 i (by omega) hi2
      exact .inl this
set_option maxHeartbeats 4000000 in
theorem take_tri {A : Assn} (hA : Tz A) {es : List Ent} {p : Nat} {ss : List Shl} {was : Option (List Ent × List Shl)} (hI : Inv es ss) :
    Tri Tryd.prog 15 [ptr p] [Spc p es ss was, A] fun v B =>
      ((pickF (freeOf es ss) (acts es)).2 = 0 ∧ v = .tuple #[I 0, err 50] ∧ B = [Spc p es ss was, A]) ∨
      (∃ (n k : Nat) (sh : Shl), (pickF (freeOf es ss) (acts es)).1 = (n : Int) ∧ 0 < (pickF (freeOf es ss) (acts es)).2 ∧ ss[n]? = some sh ∧ IsFst sh.t sh.g k ∧ v = .tuple #[I ((n : Int) * 4096 + k), .nilIface] ∧
        B = [Spc p es (ss.set n ⟨sh.t.set k true, sh.f.set k true, sh.g⟩) was, A]) := by
  have h8 := okR_len hI.right
  have hal := idxs_len (fun e : Ent => e.1 == 1) es 0
  refine tri_introX Tryd.func15 rfl Tryd.ntmps15 rfl fun E X => ?_
  refine j_spc fun s wv rv sv qs R hro hq => ?_
  (refine j_nm rfl ?_; repeat (first | refine jo_cons ?_ | (refine jo_iso ?_; first | (refine jo_isbin ?_; first | refine jo_v (by first | exact pv_add rfl rfl (by omega) | exact pv_sub rfl rfl (by omega)) rfl ?_ | refine jo_pure tab_ok rfl rfl ?_) | refine jo_pure tab_ok rfl rfl ?_ | refine jo_want rfl ?_ | refine jo_skip rfl rfl ?_ | refine jo_load tab_ok rfl rfl rfl (by first | ((repeat first | exact Rd.here rfl | refine Rd.there ?_); done) | assumption) rfl ?_) | refine jo_nil ?_ | refine jc_seq ?_ | refine jc_skip ?_ | refine jc_region ?_ | refine jc_block ?_ | refine jc_ret ?_ | refine jc_exit ?_ | refine jx_then ?_ | refine jx_then_exit ?_ | refine jx_then_ret ?_ | refine jx_block ?_ | refine jx_block_ret ?_ | refine jx_block_hit ?_ | refine jx_block_miss rfl ?_ | refine jc_true rfl ?_ | refine jc_false rfl ?_))
  refine jo_load_agg tab_ok (vs := [rv]) rfl rfl rfl rfl (by first | ((repeat first | exact Rd.here rfl | refine Rd.there ?_); done) | assumption) rfl (jo_cons ?_)
  refine jo_call [3] (actives_tri hro hI.right) ent32 rfl ⟨rfl, rfl⟩ rfl ?_
  rintro v B rfl
  refine j_nm rfl ?_
  refine j_close [2, 2, 2, 1, 1, 1] rfl (spc_shut hro hq) ?_
  refine j_nm rfl ?_
  refine j_front [1] (j_sl_ro fun hra => ?_)
  obtain ⟨ab, an, ac, rfl, han, ham, haor⟩ := hra
  simp only [List.length_map, Nat.mul_one] at han
  have han : (acts es).length = an := han
  (refine j_nm rfl ?_; repeat (first | refine jo_cons ?_ | (refine jo_iso ?_; first | (refine jo_isbin ?_; first | refine jo_v (by first | exact pv_add rfl rfl (by omega) | exact pv_sub rfl rfl (by omega)) rfl ?_ | refine jo_pure tab_ok rfl rfl ?_) | refine jo_pure tab_ok rfl rfl ?_ | refine jo_want rfl ?_ | refine jo_skip rfl rfl ?_ | refine jo_load tab_ok rfl rfl rfl (by first | ((repeat first | exact Rd.here rfl | refine Rd.there ?_); done) | assumption) rfl ?_) | refine jo_nil ?_ | refine jc_seq ?_ | refine jc_skip ?_ | refine jc_region ?_ | refine jc_block ?_ | refine jc_ret ?_ | refine jc_exit ?_ | refine jx_then ?_ | refine jx_then_exit ?_ | refine jx_then_ret ?_ | refine jx_block ?_ | refine jx_block_ret ?_ | refine jx_block_hit ?_ | refine jx_block_miss rfl ?_ | refine jc_true rfl ?_ | refine jc_false rfl ?_))
  refine jc_loop (ι := Nat) (fun i => [(21, I i), (20, I an), (19, .slice ab an ac), (5, I (pickF (freeOf es ss) ((acts es).take i)).2), (4, I (pickF (freeOf es ss) ((acts es).take i)).1), (0, ptr p)])
    (fun _ => sl 3 1 (.slice ab an ac) ((acts es).map I) :: Spc p es ss was :: A :: [X]) (fun i => i ≤ an) (fun i => an - i) 0 [] [] (Nat.zero_le _) ⟨rfl, rfl, rfl, rfl, rfl, rfl, trivial⟩ rfl ?_
  intro i hi
  (refine j_nm rfl ?_; repeat (first | refine jo_cons ?_ | (refine jo_iso ?_; first | (refine jo_isbin ?_; first | refine jo_v (by first | exact pv_add rfl rfl (by omega) | exact pv_sub rfl rfl (by omega)) rfl ?_ | refine jo_pure tab_ok rfl rfl ?_) | refine jo_pure tab_ok rfl rfl ?_ | refine jo_want rfl ?_ | refine jo_skip rfl rfl ?_ | refine jo_load tab_ok rfl rfl rfl (by first | ((repeat first | exact Rd.here rfl | refine Rd.there ?_); done) | assumption) rfl ?_) | refine jo_nil ?_ | refine jc_seq ?_ | refine jc_skip ?_ | refine jc_region ?_ | refine jc_block ?_ | refine jc_ret ?_ | refine jc_exit ?_ | refine jx_then ?_ | refine jx_then_exit ?_ | refine jx_then_ret ?_ | refine jx_block ?_ | refine jx_block_ret ?_ | refine jx_block_hit ?_ | refine jx_block_miss rfl ?_ | refine jc_true rfl ?_ | refine jc_false rfl ?_))
  refine jc_dec rfl (fun h => ?_) (fun h => ?_)
  · have hi' : i < an := by omega
    have hia : i < (acts es).length := by omega
    obtain ⟨n, e, hne, hnd, _⟩ := acts_mem (List.getElem_mem hia)
    have hnl : n < es.length := (List.getElem?_eq_some_iff.1 hne).1
    obtain ⟨b, o, rfl, hrd⟩ := haor.resolve_left (by omega)
    have hnext : pickF (freeOf es ss) ((acts es).take (i + 1)) = pickS (freeOf es ss) (pickF (freeOf es ss) ((acts es).take i)) (n : Int) := by
      rw [List.take_succ_eq_append_getElem hia, pickF_snoc, hnd]
    (refine j_nm rfl ?_; repeat (first | refine jo_cons ?_ | (refine jo_iso ?_; first | (refine jo_isbin ?_; first | refine jo_v (by first | exact pv_add rfl rfl (by omega) | exact pv_sub rfl rfl (by omega)) rfl ?_ | refine jo_pure tab_ok rfl rfl ?_) | refine jo_pure tab_ok rfl rfl ?_ | refine jo_want rfl ?_ | refine jo_skip rfl rfl ?_ | refine jo_load tab_ok rfl rfl rfl (by first | ((repeat first | exact Rd.here rfl | refine Rd.there ?_); done) | assumption) rfl ?_) | refine jo_nil ?_ | refine jc_seq ?_ | refine jc_skip ?_ | refine jc_region ?_ | refine jc_block ?_ | refine jc_ret ?_ | refine jc_exit ?_ | refine jx_then ?_ | refine jx_then_exit ?_ | refine jx_then_ret ?_ | refine jx_block ?_ | refine jx_block_ret ?_ | refine jx_block_hit ?_ | refine jx_block_miss rfl ?_ | refine jc_true rfl ?_ | refine jc_false rfl ?_))
    refine jo_v (pv_index1 tab_ok i rfl rfl rfl rfl rfl rfl rfl hi') rfl (jo_cons ?_)
    refine jo_load tab_ok rfl rfl rfl ((hrd _).one (k := i) (v := I (n : Int)) (by rw [List.getElem?_map, List.getElem?_eq_getElem hia, hnd]; rfl)) rfl ?_
    (refine j_nm rfl ?_; repeat (first | refine jo_cons ?_ | (refine jo_iso ?_; first | (refine jo_isbin ?_; first | refine jo_v (by first | exact pv_add rfl rfl (by omega) | exact pv_sub rfl rfl (by omega)) rfl ?_ | refine jo_pure tab_ok rfl rfl ?_) | refine jo_pure tab_ok rfl rfl ?_ | refine jo_want rfl ?_ | refine jo_skip rfl rfl ?_ | refine jo_load tab_ok rfl rfl rfl (by first | ((repeat first | exact Rd.here rfl | refine Rd.there ?_); done) | assumption) rfl ?_) | refine jo_nil ?_ | refine jc_seq ?_ | refine jc_skip ?_ | refine jc_region ?_ | refine jc_block ?_ | refine jc_ret ?_ | refine jc_exit ?_ | refine jx_then ?_ | refine jx_then_exit ?_ | refine jx_then_ret ?_ | refine jx_block ?_ | refine jx_block_ret ?_ | refine jx_block_hit ?_ | refine jx_block_miss rfl ?_ | refine jc_true rfl ?_ | refine jc_false rfl ?_))
    refine jo_call [1] (freeSp_tri hI n hnl) ent33 rfl ⟨rfl, rfl⟩ rfl ?_
    rintro v B ⟨rfl, rfl⟩
    (refine j_nm rfl ?_; repeat (first | refine jo_cons ?_ | (refine jo_iso ?_; first | (refine jo_isbin ?_; first | refine jo_v (by first | exact pv_add rfl rfl (by omega) | exact pv_sub rfl rfl (by omega)) rfl ?_ | refine jo_pure tab_ok rfl rfl ?_) | refine jo_pure tab_ok rfl rfl ?_ | refine jo_want rfl ?_ | refine jo_skip rfl rfl ?_ | refine jo_load tab_ok rfl rfl rfl (by first | ((repeat first | exact Rd.here rfl | refine Rd.there ?_); done) | assumption) rfl ?_) | refine jo_nil ?_ | refine jc_seq ?_ | refine jc_skip ?_ | refine jc_region ?_ | refine jc_block ?_ | refine jc_ret ?_ | refine jc_exit ?_ | refine jx_then ?_ | refine jx_then_exit ?_ | refine jx_then_ret ?_ | refine jx_block ?_ | refine jx_block_ret ?_ | refine jx_block_hit ?_ | refine jx_block_miss rfl ?_ | refine jc_true rfl ?_ | refine jc_false rfl ?_))
    refine jc_dec rfl (fun hg => ?_) (fun hg => ?_)
    · have hn2 : pickF (freeOf es ss) ((acts es).take (i + 1)) = ((n : Int), freeOf es ss n) := by
        rw [hnext]; unfold pickS; rw [Int.toNat_natCast, if_pos hg]
      (refine j_nm rfl ?_; repeat (first | refine jo_cons ?_ | (refine jo_iso ?_; first | (refine jo_isbin ?_; first | refine jo_v (by first | exact pv_add rfl rfl (by omega) | exact pv_sub rfl rfl (by omega)) rfl ?_ | refine jo_pure tab_ok rfl rfl ?_) | refine jo_pure tab_ok rfl rfl ?_ | refine jo_want rfl ?_ | refine jo_skip rfl rfl ?_ | refine jo_load tab_ok rfl rfl rfl (by first | ((repeat first | exact Rd.here rfl | refine Rd.there ?_); done) | assumption) rfl ?_) | refine jo_nil ?_ | refine jc_seq ?_ | refine jc_skip ?_ | refine jc_region ?_ | refine jc_block ?_ | refine jc_ret ?_ | refine jc_exit ?_ | refine jx_then ?_ | refine jx_then_exit ?_ | refine jx_then_ret ?_ | refine jx_block ?_ | refine jx_block_ret ?_ | refine jx_block_hit ?_ | refine jx_block_miss rfl ?_ | refine jc_true rfl ?_ | refine jc_false rfl ?_))
      exact jx_round (i + 1) [1, 0, 0] [] hi' (by omega) ⟨rfl, rfl, rfl, by rw [hn2]; rfl, by rw [hn2]; rfl, rfl, trivial⟩ rfl
    · have hn2 : pickF (freeOf es ss) ((acts es).take (i + 1)) = pickF (freeOf es ss) ((acts es).take i) := by
        rw [hnext]; unfold pickS; rw [Int.toNat_natCast, if_neg hg]
      (refine j_nm rfl ?_; repeat (first | refine jo_cons ?_ | (refine jo_iso ?_; first | (refine jo_isbin ?_; first | refine jo_v (by first | exact pv_add rfl rfl (by omega) | exact pv_sub rfl rfl (by omega)) rfl ?_ | refine jo_pure tab_ok rfl rfl ?_) | refine jo_pure tab_ok rfl rfl ?_ | refine jo_want rfl ?_ | refine jo_skip rfl rfl ?_ | refine jo_load tab_ok rfl rfl rfl (by first | ((repeat first | exact Rd.here rfl | refine Rd.there ?_); done) | assumption) rfl ?_) | refine jo_nil ?_ | refine jc_seq ?_ | refine jc_skip ?_ | refine jc_region ?_ | refine jc_block ?_ | refine jc_ret ?_ | refine jc_exit ?_ | refine jx_then ?_ | refine jx_then_exit ?_ | refine jx_then_ret ?_ | refine jx_block ?_ | refine jx_block_ret ?_ | refine jx_block_hit ?_ | refine jx_block_miss rfl ?_ | refine jc_true rfl ?_ | refine jc_false rfl ?_))
      exact jx_round (i + 1) [1, 0, 0] [] hi' (by omega) ⟨rfl, rfl, rfl, by rw [hn2]; rfl, by rw [hn2]; rfl, rfl, trivial⟩ rfl
  have hin : (acts es).take i = acts es := List.take_of_length_le (by omega)
  rw [hin]
  refine j_drop 0 ?_
  (refine j_nm rfl ?_; repeat (first | refine jo_cons ?_ | (refine jo_iso ?_; first | (refine jo_isbin ?_; first | refine jo_v (by first | exact pv_add rfl rfl (by omega) | exact pv_sub rfl rfl (by omega)) rfl ?_ | refine jo_pure tab_ok rfl rfl ?_) | refine jo_pure tab_ok rfl rfl ?_ | refine jo_want rfl ?_ | refine jo_skip rfl rfl ?_ | refine jo_load tab_ok rfl rfl rfl (by first | ((repeat first | exact Rd.here rfl | refine Rd.there ?_); done) | assumption) rfl ?_) | refine jo_nil ?_ | refine jc_seq ?_ | refine jc_skip ?_ | refine jc_region ?_ | refine jc_block ?_ | refine jc_ret ?_ | refine jc_exit ?_ | refine jx_then ?_ | refine jx_then_exit ?_ | refine jx_then_ret ?_ | refine jx_block ?_ | refine jx_block_ret ?_ | refine jx_block_hit ?_ | refine jx_block_miss rfl ?_ | refine jc_true rfl ?_ | refine jc_false rfl ?_))
  refine jc_beq rfl (fun h0 => ?_) (fun h0 => ?_)
  · (refine j_nm rfl ?_; repeat (first | refine jo_cons ?_ | (refine jo_iso ?_; first | (refine jo_isbin ?_; first | refine jo_v (by first | exact pv_add rfl rfl (by omega) | exact pv_sub rfl rfl (by omega)) rfl ?_ | refine jo_pure tab_ok rfl rfl ?_) | refine jo_pure tab_ok rfl rfl ?_ | refine jo_want rfl ?_ | refine jo_skip rfl rfl ?_ | refine jo_load tab_ok rfl rfl rfl (by first | ((repeat first | exact Rd.here rfl | refine Rd.there ?_); done) | assumption) rfl ?_) | refine jo_nil ?_ | refine jc_seq ?_ | refine jc_skip ?_ | refine jc_region ?_ | refine jc_block ?_ | refine jc_ret ?_ | refine jc_exit ?_ | refine jx_then ?_ | refine jx_then_exit ?_ | refine jx_then_ret ?_ | refine jx_block ?_ | refine jx_block_ret ?_ | refine jx_block_hit ?_ | refine jx_block_miss rfl ?_ | refine jc_true rfl ?_ | refine jc_false rfl ?_))
    exact j_ret [0, 0] [] rfl (.inl ⟨h0, rfl, rfl⟩) ⟨rfl, rfl⟩
  obtain ⟨hm1, hm2, hm3⟩ := pickF_pos h0
  obtain ⟨n, e, hne, hnd, _⟩ := acts_mem hm1
  obtain ⟨sh, hsh, hok⟩ := sh_of hI hne
  obtain ⟨q, hqq, _⟩ := qs_of hq hne
  have hz := okR_size hI.right hne
  have hle := okSh_le hok hz
  have hnl : n < es.length := (List.getElem?_eq_some_iff.1 hne).1
  have hslot := free_slot (t := sh.t) (g := sh.g) (by rw [hok.t, hok.g]) (by
    rw [hnd] at hm2
    have hf : freeOf es ss n = e.2 - 2 - sh.used := by unfold freeOf; rw [hne, hsh]
    have hm2' : freeOf es ss n = (pickF (freeOf es ss) (acts es)).2 := hm2
    have := hok.t
    unfold Shl.used at hf
    omega)
  rw [hnd]
  refine j_spc fun s wv rv sv qs R hro hq => ?_
  obtain ⟨q, hqq, _⟩ := qs_of hq hne
  refine j_nm rfl ?_
  refine j_front [2] (j_sl_ro fun hrs => ?_)
  obtain ⟨qb, qn, qc, rfl, hqn, hqm, hqor⟩ := hrs
  simp only [List.length_map, Nat.mul_one] at hqn
  obtain ⟨b, o, rfl, hrd⟩ := hqor.resolve_left (by omega)
  (refine j_nm rfl ?_; repeat (first | refine jo_cons ?_ | (refine jo_iso ?_; first | (refine jo_isbin ?_; first | refine jo_v (by first | exact pv_add rfl rfl (by omega) | exact pv_sub rfl rfl (by omega)) rfl ?_ | refine jo_pure tab_ok rfl rfl ?_) | refine jo_pure tab_ok rfl rfl ?_ | refine jo_want rfl ?_ | refine jo_skip rfl rfl ?_ | refine jo_load tab_ok rfl rfl rfl (by first | ((repeat first | exact Rd.here rfl | refine Rd.there ?_); done) | assumption) rfl ?_) | refine jo_nil ?_ | refine jc_seq ?_ | refine jc_skip ?_ | refine jc_region ?_ | refine jc_block ?_ | refine jc_ret ?_ | refine jc_exit ?_ | refine jx_then ?_ | refine jx_then_exit ?_ | refine jx_then_ret ?_ | refine jx_block ?_ | refine jx_block_ret ?_ | refine jx_block_hit ?_ | refine jx_block_miss rfl ?_ | refine jc_true rfl ?_ | refine jc_false rfl ?_))
  refine jo_v (pv_index1 tab_ok n rfl rfl rfl rfl rfl rfl rfl (by omega)) rfl (jo_cons ?_)
  refine jo_load tab_ok rfl rfl rfl ((hrd _).one (k := n) (v := ptr q) (by rw [List.getElem?_map, hqq]; rfl)) rfl ?_
  refine j_front [4] (j_shelf n hqq hsh fun a1 b1 c1 => ?_)
  (refine j_nm rfl ?_; repeat (first | refine jo_cons ?_ | (refine jo_iso ?_; first | (refine jo_isbin ?_; first | refine jo_v (by first | exact pv_add rfl rfl (by omega) | exact pv_sub rfl rfl (by omega)) rfl ?_ | refine jo_pure tab_ok rfl rfl ?_) | refine jo_pure tab_ok rfl rfl ?_ | refine jo_want rfl ?_ | refine jo_skip rfl rfl ?_ | refine jo_load tab_ok rfl rfl rfl (by first | ((repeat first | exact Rd.here rfl | refine Rd.there ?_); done) | assumption) rfl ?_) | refine jo_nil ?_ | refine jc_seq ?_ | refine jc_skip ?_ | refine jc_region ?_ | refine jc_block ?_ | refine jc_ret ?_ | refine jc_exit ?_ | refine jx_then ?_ | refine jx_then_exit ?_ | refine jx_then_ret ?_ | refine jx_block ?_ | refine jx_block_ret ?_ | refine jx_block_hit ?_ | refine jx_block_miss rfl ?_ | refine jc_true rfl ?_ | refine jc_false rfl ?_))
  refine jo_call [1, 9] (free_tri hA a1 sh.t 2) ent34 rfl ⟨rfl, rfl⟩ rfl ?_
  rintro v B ⟨⟨r, hr, rfl⟩, rfl⟩
  obtain ⟨k0, rfl, _, hl0⟩ := look_next (fr := 2) (Nat.le_refl _) hslot (fun j h1 h2 => absurd h2 (by omega)) hr
  (refine j_nm rfl ?_; repeat (first | refine jo_cons ?_ | (refine jo_iso ?_; first | (refine jo_isbin ?_; first | refine jo_v (by first | exact pv_add rfl rfl (by omega) | exact pv_sub rfl rfl (by omega)) rfl ?_ | refine jo_pure tab_ok rfl rfl ?_) | refine jo_pure tab_ok rfl rfl ?_ | refine jo_want rfl ?_ | refine jo_skip rfl rfl ?_ | refine jo_load tab_ok rfl rfl rfl (by first | ((repeat first | exact Rd.here rfl | refine Rd.there ?_); done) | assumption) rfl ?_) | refine jo_nil ?_ | refine jc_seq ?_ | refine jc_skip ?_ | refine jc_region ?_ | refine jc_block ?_ | refine jc_ret ?_ | refine jc_exit ?_ | refine jx_then ?_ | refine jx_then_exit ?_ | refine jx_then_ret ?_ | refine jx_block ?_ | refine jx_block_ret ?_ | refine jx_block_hit ?_ | refine jx_block_miss rfl ?_ | refine jc_true rfl ?_ | refine jc_false rfl ?_))
  refine jc_loop (ι := Nat) (fun k => [(10, I k), (9, ptr q), (4, I n)])
    (fun _ => cl q [ptr a1, ptr b1, ptr c1] 81 :: Bm a1 sh.t :: Bm b1 sh.f :: Bm c1 sh.g :: A :: manyBut Sh qs ss n :: Ss (.slice (some ⟨b, o, none⟩) qn qc) qs :: cl p [ptr s, wv] 73 :: cl s [rv, .slice (some ⟨b, o, none⟩) qn qc] 71 :: R :: Was R wv was :: [X])
    (fun k => Look sh.t sh.g k) (fun k => sh.t.length - k) k0 [2, 0, 1, 1, 0] [] hl0 ⟨rfl, rfl, rfl, trivial⟩ rfl ?_
  intro k hk
  have hkl := hk.lt
  (refine j_nm rfl ?_; repeat (first | refine jo_cons ?_ | (refine jo_iso ?_; first | (refine jo_isbin ?_; first | refine jo_v (by first | exact pv_add rfl rfl (by omega) | exact pv_sub rfl rfl (by omega)) rfl ?_ | refine jo_pure tab_ok rfl rfl ?_) | refine jo_pure tab_ok rfl rfl ?_ | refine jo_want rfl ?_ | refine jo_skip rfl rfl ?_ | refine jo_load tab_ok rfl rfl rfl (by first | ((repeat first | exact Rd.here rfl | refine Rd.there ?_); done) | assumption) rfl ?_) | refine jo_nil ?_ | refine jc_seq ?_ | refine jc_skip ?_ | refine jc_region ?_ | refine jc_block ?_ | refine jc_ret ?_ | refine jc_exit ?_ | refine jx_then ?_ | refine jx_then_exit ?_ | refine jx_then_ret ?_ | refine jx_block ?_ | refine jx_block_ret ?_ | refine jx_block_hit ?_ | refine jx_block_miss rfl ?_ | refine jc_true rfl ?_ | refine jc_false rfl ?_))
  refine jo_call [3] (has_tri c1 sh.g k) ent35 rfl ⟨rfl, rfl⟩ rfl ?_
  rintro v B ⟨hv, rfl⟩
  rw [hasB_nat] at hv
  cases hgk : (sh.g[k]?).getD false with
  | true =>
    rw [hgk] at hv
    subst hv
    (refine j_nm rfl ?_; repeat (first | refine jo_cons ?_ | (refine jo_iso ?_; first | (refine jo_isbin ?_; first | refine jo_v (by first | exact pv_add rfl rfl (by omega) | exact pv_sub rfl rfl (by omega)) rfl ?_ | refine jo_pure tab_ok rfl rfl ?_) | refine jo_pure tab_ok rfl rfl ?_ | refine jo_want rfl ?_ | refine jo_skip rfl rfl ?_ | refine jo_load tab_ok rfl rfl rfl (by first | ((repeat first | exact Rd.here rfl | refine Rd.there ?_); done) | assumption) rfl ?_) | refine jo_nil ?_ | refine jc_seq ?_ | refine jc_skip ?_ | refine jc_region ?_ | refine jc_block ?_ | refine jc_ret ?_ | refine jc_exit ?_ | refine jx_then ?_ | refine jx_then_exit ?_ | refine jx_then_ret ?_ | refine jx_block ?_ | refine jx_block_ret ?_ | refine jx_block_hit ?_ | refine jx_block_miss rfl ?_ | refine jc_true rfl ?_ | refine jc_false rfl ?_))
    refine jo_call [2, 3] (free_tri hA a1 sh.t ((k : Int) + 1)) ent34 rfl ⟨rfl, rfl⟩ rfl ?_
    rintro v B ⟨⟨r, hr, rfl⟩, rfl⟩
    have hg1 : sh.g[k]? = some true := by
      cases hx : sh.g[k]? with
      | none => rw [hx] at hgk; cases hgk
      | some y => rw [hx] at hgk; simp at hgk; rw [hgk]
    obtain ⟨k2, rfl, hk2, hl2⟩ := look_next (fr := k + 1) (by have := hk.ge; omega) hslot (fun j h1 h2 => by
      by_cases hj : j < k
      · exact hk.on j h1 hj
      · obtain rfl : j = k := by omega
        exact .inr hg1) (r := r) (by exact hr)
    (refine j_nm rfl ?_; repeat (first | refine jo_cons ?_ | (refine jo_iso ?_; first | (refine jo_isbin ?_; first | refine jo_v (by first | exact pv_add rfl rfl (by omega) | exact pv_sub rfl rfl (by omega)) rfl ?_ | refine jo_pure tab_ok rfl rfl ?_) | refine jo_pure tab_ok rfl rfl ?_ | refine jo_want rfl ?_ | refine jo_skip rfl rfl ?_ | refine jo_load tab_ok rfl rfl rfl (by first | ((repeat first | exact Rd.here rfl | refine Rd.there ?_); done) | assumption) rfl ?_) | refine jo_nil ?_ | refine jc_seq ?_ | refine jc_skip ?_ | refine jc_region ?_ | refine jc_block ?_ | refine jc_ret ?_ | refine jc_exit ?_ | refine jx_then ?_ | refine jx_then_exit ?_ | refine jx_then_ret ?_ | refine jx_block ?_ | refine jx_block_ret ?_ | refine jx_block_hit ?_ | refine jx_block_miss rfl ?_ | refine jc_true rfl ?_ | refine jc_false rfl ?_))
    exact jx_round k2 [3, 0, 2, 1, 0] [] hl2 (by omega) ⟨rfl, rfl, rfl, trivial⟩ rfl
  | false =>
    rw [hgk] at hv
    subst hv
    have hg0 : sh.g[k]? = some false := by
      have hkg : k < sh.g.length := by rw [hok.g, ← hok.t]; exact hkl
      rw [List.getElem?_eq_getElem hkg] at hgk ⊢
      simpa using hgk
    have hkf : k < sh.f.length := by rw [hok.f, ← hok.t]; exact hkl
    (refine j_nm rfl ?_; repeat (first | refine jo_cons ?_ | (refine jo_iso ?_; first | (refine jo_isbin ?_; first | refine jo_v (by first | exact pv_add rfl rfl (by omega) | exact pv_sub rfl rfl (by omega)) rfl ?_ | refine jo_pure tab_ok rfl rfl ?_) | refine jo_pure tab_ok rfl rfl ?_ | refine jo_want rfl ?_ | refine jo_skip rfl rfl ?_ | refine jo_load tab_ok rfl rfl rfl (by first | ((repeat first | exact Rd.here rfl | refine Rd.there ?_); done) | assumption) rfl ?_) | refine jo_nil ?_ | refine jc_seq ?_ | refine jc_skip ?_ | refine jc_region ?_ | refine jc_block ?_ | refine jc_ret ?_ | refine jc_exit ?_ | refine jx_then ?_ | refine jx_then_exit ?_ | refine jx_then_ret ?_ | refine jx_block ?_ | refine jx_block_ret ?_ | refine jx_block_hit ?_ | refine jx_block_miss rfl ?_ | refine jc_true rfl ?_ | refine jc_false rfl ?_))
    refine jo_buildSlice tab_ok (cs := [I k]) rfl rfl rfl rfl rfl rfl (by first | (simp [Instr.fill]; done) | simp [Instr.fill, Value.cells]) rfl fun bA => ?_
    (refine j_nm rfl ?_; repeat (first | refine jo_cons ?_ | (refine jo_iso ?_; first | (refine jo_isbin ?_; first | refine jo_v (by first | exact pv_add rfl rfl (by omega) | exact pv_sub rfl rfl (by omega)) rfl ?_ | refine jo_pure tab_ok rfl rfl ?_) | refine jo_pure tab_ok rfl rfl ?_ | refine jo_want rfl ?_ | refine jo_skip rfl rfl ?_ | refine jo_load tab_ok rfl rfl rfl (by first | ((repeat first | exact Rd.here rfl | refine Rd.there ?_); done) | assumption) rfl ?_) | refine jo_nil ?_ | refine jc_seq ?_ | refine jc_skip ?_ | refine jc_region ?_ | refine jc_block ?_ | refine jc_ret ?_ | refine jc_exit ?_ | refine jx_then ?_ | refine jx_then_exit ?_ | refine jx_then_ret ?_ | refine jx_block ?_ | refine jx_block_ret ?_ | refine jx_block_hit ?_ | refine jx_block_miss rfl ?_ | refine jc_true rfl ?_ | refine jc_false rfl ?_))
    refine jo_call [3, 0] (set_one hkl) ent36 rfl ⟨rfl, rfl⟩ rfl ?_
    rintro v B ⟨rfl, rfl⟩
    (refine j_nm rfl ?_; repeat (first | refine jo_cons ?_ | (refine jo_iso ?_; first | (refine jo_isbin ?_; first | refine jo_v (by first | exact pv_add rfl rfl (by omega) | exact pv_sub rfl rfl (by omega)) rfl ?_ | refine jo_pure tab_ok rfl rfl ?_) | refine jo_pure tab_ok rfl rfl ?_ | refine jo_want rfl ?_ | refine jo_skip rfl rfl ?_ | refine jo_load tab_ok rfl rfl rfl (by first | ((repeat first | exact Rd.here rfl | refine Rd.there ?_); done) | assumption) rfl ?_) | refine jo_nil ?_ | refine jc_seq ?_ | refine jc_skip ?_ | refine jc_region ?_ | refine jc_block ?_ | refine jc_ret ?_ | refine jc_exit ?_ | refine jx_then ?_ | refine jx_then_exit ?_ | refine jx_then_ret ?_ | refine jx_block ?_ | refine jx_block_ret ?_ | refine jx_block_hit ?_ | refine jx_block_miss rfl ?_ | refine jc_true rfl ?_ | refine jc_false rfl ?_))
    refine jo_buildSlice tab_ok (cs := [I k]) rfl rfl rfl rfl rfl rfl (by first | (simp [Instr.fill]; done) | simp [Instr.fill, Value.cells]) rfl fun bB => ?_
    (refine j_nm rfl ?_; repeat (first | refine jo_cons ?_ | (refine jo_iso ?_; first | (refine jo_isbin ?_; first | refine jo_v (by first | exact pv_add rfl rfl (by omega) | exact pv_sub rfl rfl (by omega)) rfl ?_ | refine jo_pure tab_ok rfl rfl ?_) | refine jo_pure tab_ok rfl rfl ?_ | refine jo_want rfl ?_ | refine jo_skip rfl rfl ?_ | refine jo_load tab_ok rfl rfl rfl (by first | ((repeat first | exact Rd.here rfl | refine Rd.there ?_); done) | assumption) rfl ?_) | refine jo_nil ?_ | refine jc_seq ?_ | refine jc_skip ?_ | refine jc_region ?_ | refine jc_block ?_ | refine jc_ret ?_ | refine jc_exit ?_ | refine jx_then ?_ | refine jx_then_exit ?_ | refine jx_then_ret ?_ | refine jx_block ?_ | refine jx_block_ret ?_ | refine jx_block_hit ?_ | refine jx_block_miss rfl ?_ | refine jc_true rfl ?_ | refine jc_false rfl ?_))
    refine jo_call [5, 0] (set_one hkf) ent36 rfl ⟨rfl, rfl⟩ rfl ?_
    rintro v B ⟨rfl, rfl⟩
    (refine j_nm rfl ?_; repeat (first | refine jo_cons ?_ | (refine jo_iso ?_; first | (refine jo_isbin ?_; first | refine jo_v (by first | exact pv_add rfl rfl (by omega) | exact pv_sub rfl rfl (by omega)) rfl ?_ | refine jo_pure tab_ok rfl rfl ?_) | refine jo_pure tab_ok rfl rfl ?_ | refine jo_want rfl ?_ | refine jo_skip rfl rfl ?_ | refine jo_load tab_ok rfl rfl rfl (by first | ((repeat first | exact Rd.here rfl | refine Rd.there ?_); done) | assumption) rfl ?_) | refine jo_nil ?_ | refine jc_seq ?_ | refine jc_skip ?_ | refine jc_region ?_ | refine jc_block ?_ | refine jc_ret ?_ | refine jc_exit ?_ | refine jx_then ?_ | refine jx_then_exit ?_ | refine jx_then_ret ?_ | refine jx_block ?_ | refine jx_block_ret ?_ | refine jx_block_hit ?_ | refine jx_block_miss rfl ?_ | refine jc_true rfl ?_ | refine jc_false rfl ?_))
    refine jo_call [] (addr_tri n k) ent8 rfl ⟨rfl, rfl⟩ rfl ?_
    rintro v B ⟨rfl, rfl⟩
    (refine j_nm rfl ?_; repeat (first | refine jo_cons ?_ | (refine jo_iso ?_; first | (refine jo_isbin ?_; first | refine jo_v (by first | exact pv_add rfl rfl (by omega) | exact pv_sub rfl rfl (by omega)) rfl ?_ | refine jo_pure tab_ok rfl rfl ?_) | refine jo_pure tab_ok rfl rfl ?_ | refine jo_want rfl ?_ | refine jo_skip rfl rfl ?_ | refine jo_load tab_ok rfl rfl rfl (by first | ((repeat first | exact Rd.here rfl | refine Rd.there ?_); done) | assumption) rfl ?_) | refine jo_nil ?_ | refine jc_seq ?_ | refine jc_skip ?_ | refine jc_region ?_ | refine jc_block ?_ | refine jc_ret ?_ | refine jc_exit ?_ | refine jx_then ?_ | refine jx_then_exit ?_ | refine jx_then_ret ?_ | refine jx_block ?_ | refine jx_block_ret ?_ | refine jx_block_hit ?_ | refine jx_block_miss rfl ?_ | refine jc_true rfl ?_ | refine jc_false rfl ?_))
    refine j_close [5, 2, 0, 2, 3] rfl (shelf_shut hqq hsh) ?_
    refine j_nm rfl ?_
    refine j_close [5, 5, 4, 4, 0, 3] rfl (spc_shut hro hq) ?_
    refine j_nm rfl ?_
    have ha : addrOf n k = (n : Int) * 4096 + k := by
      have h5 : ¬ ((n : Int) < 0 ∨ 8 ≤ (n : Int) ∨ (k : Int) < 0 ∨ 4096 ≤ (k : Int)) := by omega
      simp only [addrOf, h5, if_false]
    rw [ha]
    exact j_ret [0, 0] [1, 1] rfl (.inr ⟨n, k, sh, rfl, hm3, hsh, ⟨hk.ge, hk.lt, hk.off, hg0, hk.on⟩, rfl, rfl⟩) ⟨rfl, rfl⟩
end S10
end Go.Proofs.YtejaonodaplbhaaDoor
