import Derived.Test.YtiikdofbaoidcaaBp
import Derived.Test.YtiikdofbaoidcaaRq
set_option linter.unusedVariables false
namespace Go.Proofs.Ytiikdofbaoidcaa
namespace Pj
open Go Go.Proofs.Ytiikdofbaoidcaa.Hp Mp Mq Rs Rt Ru Rv _root_.Go.Proofs.Ytiikdofbaoidcaa.So Mv Rk Rw Rz Rx Rc Bp Rq
set_option maxRecDepth 10000
set_option linter.unusedVariables false
set_option linter.unusedSimpArgs false
theorem fold_srt : ∀ (xs l : List Own), Srt l → Srt (xs.foldl putR l)
  | [], l, h => h
  | x :: xs, l, h => fold_srt xs _ (putR_srt h)
theorem put_keys {l : List Own} (h : Srt l) {y : Own} (hy : y.2 ≠ 0) (o : Two) : o ∈ (putR l y).map (·.1) ↔ o ∈ l.map (·.1) ∨ o = y.1 := by
  rw [List.mem_map, List.mem_map]
  constructor
  · rintro ⟨x, hx, rfl⟩
    rcases (putR_mem h x).1 hx with ⟨h1, _⟩ | ⟨rfl, _⟩
    · exact .inl ⟨x, h1, rfl⟩
    · exact .inr rfl
  · intro hh
    by_cases he : o = y.1
    · exact ⟨y, (putR_mem h y).2 (.inr ⟨rfl, hy⟩), he.symm⟩
    · rcases hh with ⟨x, hx, rfl⟩ | e
      · exact ⟨x, (putR_mem h x).2 (.inl ⟨hx, he⟩), rfl⟩
      · exact absurd e he
theorem fold_keys : ∀ (xs l : List Own), Srt l → (∀ x ∈ xs, x.2 ≠ 0) → ∀ o, o ∈ (xs.foldl putR l).map (·.1) ↔ o ∈ l.map (·.1) ∨ o ∈ xs.map (·.1)
  | [], l, _, _, o => by simp
  | x :: xs, l, h, hz, o => by
    rw [List.foldl_cons, fold_keys xs _ (putR_srt h) (fun y hy => hz y (List.mem_cons_of_mem _ hy)), put_keys h (hz x (List.mem_cons_self ..)), List.map_cons, List.mem_cons, or_assoc]
theorem of_key {l : List Own} {o : Two} (h : ofL l o ≠ 0) : o ∈ l.map (·.1) := Decidable.byContradiction fun hn => h (of_none hn)
/-- what Commit tells is what the document says -/
theorem com_chg {W R0 R was l : List Own} (hk : Wk W R0 R) (h0 : Lk was R0) (hR0 : Okr R0) (hl : Lk l R) (hR : Okr R) : comL W R (srtT (W.map (·.1))) = chgR was l := by
  have hS : ∀ o, o ∈ srtT (W.map (·.1)) ↔ o ∈ W.map (·.1) := fun o => (srtT_perm _).mem_iff
  have hSs := srtT_sorted (W.map (·.1)) hk.nd
  have hSn : (srtT (W.map (·.1))).Nodup := (srtT_perm _).nodup_iff.2 hk.nd
  generalize srtT (W.map (·.1)) = S at hS hSs hSn
  have z1 : ∀ x ∈ was, x.2 ≠ 0 := fun x hx => ((mem_of hR0 x).1 ((h0.mem x).1 hx)).1
  have z2 : ∀ x ∈ l, x.2 ≠ 0 := fun x hx => ((mem_of hR x).1 ((hl.mem x).1 hx)).1
  have hA : Srt (allR was l) := fold_srt _ _ (fold_srt _ _ List.Pairwise.nil)
  have hAk : ∀ o, o ∈ (allR was l).map (·.1) ↔ o ∈ was.map (·.1) ∨ o ∈ l.map (·.1) := fun o => by
    unfold allR
    rw [fold_keys l _ (fold_srt _ _ List.Pairwise.nil) z2, fold_keys was [] List.Pairwise.nil z1]
    simp
  generalize hall : allR was l = all at hA hAk
  have hk1 : S.filter (fun o => !decide (ofL W o = ofL R o)) = (all.filter fun x => !decide (ofL was x.1 = ofL l x.1)).map (·.1) := by
    refine srt2_eq (hSs.filter _) (srt_keys (hA.filter _)) ((List.perm_ext_iff_of_nodup (hSn.sublist List.filter_sublist) (srt_nodup (hA.filter _))).2 fun o => ?_)
    rw [List.mem_filter, hS]
    simp only [Bool.not_eq_true', decide_eq_false_iff_not]
    constructor
    · rintro ⟨h1, h2⟩
      rw [hk.on o h1] at h2
      have h3 : o ∈ all.map (·.1) := by
        rw [hAk]
        by_cases hz : ofL R0 o = 0
        · refine .inr (of_key ?_)
          rw [ofL_lk hl hR]
          omega
        · refine .inl (of_key ?_)
          rw [ofL_lk h0 hR0]
          exact hz
      obtain ⟨x, hx, rfl⟩ := List.mem_map.1 h3
      refine List.mem_map.2 ⟨x, List.mem_filter.2 ⟨hx, ?_⟩, rfl⟩
      rw [ofL_lk h0 hR0, ofL_lk hl hR]
      simpa using h2
    · intro hm
      obtain ⟨x, hx, rfl⟩ := List.mem_map.1 hm
      have h2 := (List.mem_filter.1 hx).2
      rw [ofL_lk h0 hR0, ofL_lk hl hR] at h2
      have h2 : ¬ ofL R0 x.1 = ofL R x.1 := by simpa using h2
      have h1 : x.1 ∈ W.map (·.1) := Decidable.byContradiction fun hn => h2 (hk.off _ hn).symm
      exact ⟨h1, by rw [hk.on _ h1]; exact h2⟩
  have e1 : comL W R S = (S.filter fun o => !decide (ofL W o = ofL R o)).map fun o => (o, ofL R0 o, ofL R o) := by
    unfold comL
    refine List.map_congr_left fun o ho => ?_
    have h1 := (hS o).1 (List.mem_filter.1 ho).1
    simp only [hk.on o h1]
  have e2 : chgR was l = ((all.filter fun x => !decide (ofL was x.1 = ofL l x.1)).map (·.1)).map fun o => (o, ofL R0 o, ofL R o) := by
    unfold chgR chgL
    rw [hall, List.map_map]
    refine List.map_congr_left fun x _ => ?_
    simp only [Function.comp, ofL_lk h0 hR0, ofL_lk hl hR]
  rw [e1, e2, hk1]
/-- a state of the play -/
structure Sg where
  i : Nat
  st : Option (List Own)
  R0 : List Own
  R : List Own
  l : List Own
  was : List Own
  lv : Value
  wv : Value
  C : Assn
structure Inv (n : Nat) (s : Sg) : Prop where
  i : s.i ≤ n
  ok : Okr s.R
  lk : Lk s.l s.R
  len : s.l.length ≤ s.i
  wlen : s.was.length ≤ s.i
  rl : Ro s.C 3 s.lv (rcells s.l)
  rw_ : Ro s.C 3 s.wv (rcells s.was)
  bg : ∀ W, s.st = some W → Wk W s.R0 s.R ∧ Lk s.was s.R0 ∧ Okr s.R0 ∧ W.length ≤ s.i
theorem inv_start (n : Nat) : Inv n ⟨0, none, [], [], [], [], .slice none 0 0, .slice none 0 0, star []⟩ :=
  ⟨Nat.zero_le _, ⟨by simp, fun x h => (by cases h)⟩, lk_nil, Nat.le_refl _, Nat.le_refl _, ro_nil, ro_nil, fun W h => (by cases h)⟩
theorem inv_same {n i : Nat} {st : Option (List Own)} {R0 R l was : List Own} {lv wv : Value} {C : Assn} (h : Inv n ⟨i, st, R0, R, l, was, lv, wv, C⟩) (hi : i < n) : Inv n ⟨i + 1, st, R0, R, l, was, lv, wv, C⟩ := by
  obtain ⟨h1, h2, h3, h4, h5, h6, h7, h8⟩ := h
  simp only at h1 h2 h3 h4 h5 h6 h7 h8
  exact ⟨by simp only; omega, h2, h3, by simp only; omega, by simp only; omega, h6, h7, fun W hW => by obtain ⟨a, b, c, d⟩ := h8 W hW; exact ⟨a, b, c, by simp only; omega⟩⟩
theorem inv_put {n i : Nat} {st : Option (List Own)} {R0 R l was : List Own} {lv wv lv' : Value} {C C' : Assn} (h : Inv n ⟨i, st, R0, R, l, was, lv, wv, C⟩) (hi : i < n) (o : Two) {a : Int} (ha : 0 ≤ a) (h6' : Ro C' 3 lv' (rcells (putR l (o, a)))) (h7' : Ro C' 3 wv (rcells was)) :
    Inv n ⟨i + 1, putS st R o a, R0, putL R o a, putR l (o, a), was, lv', wv, C'⟩ := by
  obtain ⟨h1, h2, h3, h4, h5, h6, h7, h8⟩ := h
  simp only at h1 h2 h3 h4 h5 h6 h7 h8
  have hpl := putR_len l (o, a)
  refine ⟨by simp only; omega, put_ok h2 o a, lk_put h3 (o, a) ha, by simp only; omega, by simp only; omega, h6', h7', fun W' hW' => ?_⟩
  cases st with
  | none => cases hW'
  | some W =>
    cases hW'
    obtain ⟨b1, b2, b3, b4⟩ := h8 W rfl
    have := putW_len W R o a
    exact ⟨wk_put b1 h2 o a, b2, b3, by simp only; omega⟩
theorem inv_begin {n i : Nat} {st : Option (List Own)} {R0 R l was : List Own} {lv wv : Value} {C : Assn} (h : Inv n ⟨i, st, R0, R, l, was, lv, wv, C⟩) (hi : i < n) : Inv n ⟨i + 1, some [], R, R, l, l, lv, lv, C⟩ := by
  obtain ⟨h1, h2, h3, h4, h5, h6, h7, h8⟩ := h
  simp only at h1 h2 h3 h4 h5 h6 h7 h8
  exact ⟨by simp only; omega, h2, h3, by simp only; omega, by simp only; omega, h6, h6, fun W hW => by cases hW; exact ⟨wk_start R, h3, h2, Nat.zero_le _⟩⟩
theorem inv_commit {n i : Nat} {st : Option (List Own)} {R0 R l was : List Own} {lv wv : Value} {C : Assn} (h : Inv n ⟨i, st, R0, R, l, was, lv, wv, C⟩) (hi : i < n) : Inv n ⟨i + 1, none, R0, R, l, was, lv, wv, C⟩ := by
  obtain ⟨h1, h2, h3, h4, h5, h6, h7, h8⟩ := inv_same h hi
  exact ⟨h1, h2, h3, h4, h5, h6, h7, fun W hW => (by cases hW)⟩
theorem inv_back {n i : Nat} {W R0 R R' l was : List Own} {lv wv : Value} {C : Assn} (h : Inv n ⟨i, some W, R0, R, l, was, lv, wv, C⟩) (hi : i < n) (hb : Bk W R (W.map (·.1)) R') : Inv n ⟨i + 1, none, R0, R', was, was, wv, wv, C⟩ := by
  obtain ⟨h1, h2, h3, h4, h5, h6, h7, h8⟩ := h
  simp only at h1 h2 h3 h4 h5 h6 h7 h8
  obtain ⟨b1, b2, b3, b4⟩ := h8 W rfl
  exact ⟨by simp only; omega, hb.ok, lk_same b2 b3 hb.ok (wk_back b1 hb), by simp only; omega, by simp only; omega, h7, h7, fun W hW => (by cases hW)⟩
theorem putS_neg {st : Option (List Own)} {R : List Own} {o : Two} {a : Int} (h : a < 0) : putS st R o a = st := by
  cases st with
  | none => rfl
  | some W => show some (putW W R o a) = some W; rw [show putW W R o a = W from if_pos h]
theorem putS_some (st : Option (List Own)) (R : List Own) (o : Two) (a : Int) : (putS st R o a).isSome = st.isSome := by cases st <;> rfl
abbrev Opv := Int × Own
def ocells (xs : List Opv) : List Value := xs.flatMap fun x => [I x.1, I x.2.1.1, I x.2.1.2, I x.2.2]
theorem ocells_len : ∀ xs : List Opv, (ocells xs).length = xs.length * 4
  | [] => rfl
  | x :: xs => by
    have := ocells_len xs
    unfold ocells at this ⊢
    rw [List.flatMap_cons, List.length_append, this]
    simp only [List.length_cons, List.length_nil]
    omega
theorem ocells_at : ∀ (xs : List Opv) (k : Nat) (hk : k < xs.length), (ocells xs)[k * 4]? = some (I xs[k].1) ∧ (ocells xs)[k * 4 + 1]? = some (I xs[k].2.1.1) ∧ (ocells xs)[k * 4 + 2]? = some (I xs[k].2.1.2) ∧ (ocells xs)[k * 4 + 3]? = some (I xs[k].2.2)
  | [], _, hk => by simp at hk
  | x :: xs, 0, _ => ⟨rfl, rfl, rfl, rfl⟩
  | x :: xs, k + 1, hk => by
    have hk' : k < xs.length := by simpa using hk
    have h1 := ocells_at xs k hk'
    have e1 : (k + 1) * 4 = k * 4 + 4 := by omega
    have e2 : ocells (x :: xs) = I x.1 :: I x.2.1.1 :: I x.2.1.2 :: I x.2.2 :: ocells xs := rfl
    rw [e1, e2]
    exact h1
theorem ocells_rd4 {L : List Assn} {b o : Nat} {xs : List Opv} (h : Rd L b o (ocells xs)) {k : Nat} (hk : k < xs.length) : Rd L b (o + k * 4) [I xs[k].1, I xs[k].2.1.1, I xs[k].2.1.2, I xs[k].2.2] := by
  obtain ⟨h1, h2, h3, h4⟩ := ocells_at xs k hk
  refine h.sub (k * 4) fun j u hj => ?_
  rcases j with _ | _ | _ | _ | j
  · simp at hj; subst hj; exact h1
  · simp at hj; subst hj; exact h2
  · simp at hj; subst hj; exact h3
  · simp at hj; subst hj; exact h4
  · simp at hj
theorem rd_op {L : List Assn} {q : Nat} {a b c d : Value} {t : TypeId} : Rd (cl q [a, b, c, d] t :: L) q 1 [b, c, d] := Rd.cells fun j u hj => by
  rcases j with _ | _ | _ | j
  · simp at hj; subst hj; rfl
  · simp at hj; subst hj; rfl
  · simp at hj; subst hj; rfl
  · simp at hj
end Pj
end Go.Proofs.Ytiikdofbaoidcaa
