import Derived.Test.YtiikdofbaoidcaaRv
namespace Go.Proofs.Ytiikdofbaoidcaa
namespace Rk
open Go Go.Proofs.Ytiikdofbaoidcaa.Hp Mp Mq Rs Rt Rv
set_option maxRecDepth 10000
set_option linter.unusedVariables false
set_option linter.unusedSimpArgs false
def lessB (a b : Own) : Bool := decide (a.1.1 < b.1.1) || (decide (a.1.1 = b.1.1) && decide (a.1.2 < b.1.2))
def oneB (a b : Own) : Bool := decide (a.1.1 = b.1.1) && decide (a.1.2 = b.1.2)
abbrev rv (a : Own) : Value := .agg #[I a.1.1, I a.1.2, I a.2]
theorem one_iff {a b : Own} : oneB a b = true ↔ a.1 = b.1 := by
  obtain ⟨⟨a1, a2⟩, a3⟩ := a
  obtain ⟨⟨b1, b2⟩, b3⟩ := b
  simp [oneB]
theorem less_iff {a b : Own} : lessB a b = true ↔ a.1.1 < b.1.1 ∨ a.1.1 = b.1.1 ∧ a.1.2 < b.1.2 := by
  obtain ⟨⟨a1, a2⟩, a3⟩ := a
  obtain ⟨⟨b1, b2⟩, b3⟩ := b
  simp [lessB]
theorem one_eq {a b : Own} : oneB a b = decide (a.1 = b.1) := by
  rw [Bool.eq_iff_iff, one_iff, decide_eq_true_eq]
theorem key_ext {a b : Two} (h1 : a.1 = b.1) (h2 : a.2 = b.2) : a = b := Prod.ext h1 h2
theorem less_trans {a b c : Own} (h1 : lessB a b = true) (h2 : lessB b c = true) : lessB a c = true := by
  rw [less_iff] at *
  omega
theorem less_ne {a b : Own} (h : lessB a b = true) : a.1 ≠ b.1 := fun e => by
  rw [less_iff] at h
  rw [e] at h
  omega
theorem less_tri3 (a b : Own) : lessB a b = true ∨ a.1 = b.1 ∨ lessB b a = true := by
  rw [less_iff, less_iff]
  by_cases h1 : a.1.1 = b.1.1
  · by_cases h2 : a.1.2 = b.1.2
    · exact .inr (.inl (key_ext h1 h2))
    · omega
  · omega
theorem less_key {a b c : Own} (h : a.1 = b.1) (h2 : lessB b c = true) : lessB a c = true := by
  rw [less_iff] at *
  rw [h]
  exact h2
theorem less_keyr {a b c : Own} (h : b.1 = c.1) (h2 : lessB a b = true) : lessB a c = true := by
  rw [less_iff] at *
  rw [← h]
  exact h2
def stepP (o : Own) (s : List Own × Bool) (y : Own) : List Own × Bool :=
  if s.2 = false ∧ lessB o y = true then (s.1 ++ [o] ++ (if oneB y o = true then [] else [y]), true) else (s.1 ++ (if oneB y o = true then [] else [y]), s.2)
def foldP (l : List Own) (o : Own) : List Own × Bool := l.foldl (stepP o) ([], decide (o.2 = 0))
def putR (l : List Own) (o : Own) : List Own := if (foldP l o).2 = true then (foldP l o).1 else (foldP l o).1 ++ [o]
theorem foldP_snoc (l : List Own) (o y : Own) : foldP (l ++ [y]) o = stepP o (foldP l o) y := by
  unfold foldP
  rw [List.foldl_append]
  rfl
theorem stepP_len (o : Own) (s : List Own × Bool) (y : Own) : (stepP o s y).1.length + (if (stepP o s y).2 = true then 0 else 1) ≤ s.1.length + (if s.2 = true then 0 else 1) + 1 := by
  unfold stepP
  by_cases h1 : s.2 = true <;> by_cases h2 : lessB o y = true <;> by_cases h3 : oneB y o = true <;> simp [h1, h2, h3] <;> omega
theorem foldP_len (o : Own) (l : List Own) : ∀ s : List Own × Bool, (l.foldl (stepP o) s).1.length + (if (l.foldl (stepP o) s).2 = true then 0 else 1) ≤ s.1.length + (if s.2 = true then 0 else 1) + l.length := by
  induction l with
  | nil => intro s; exact Nat.le_refl _
  | cons y l ih =>
    intro s
    have h1 := ih (stepP o s y)
    have h2 := stepP_len o s y
    rw [List.foldl_cons, List.length_cons]
    omega
theorem foldP_le (l : List Own) (o : Own) : (foldP l o).1.length + (if (foldP l o).2 = true then 0 else 1) ≤ l.length + 1 := by
  have := foldP_len o l ([], decide (o.2 = 0))
  have h2 : (if decide (o.2 = 0) = true then 0 else 1) ≤ 1 := by split <;> omega
  unfold foldP
  simp only [List.length_nil] at this
  omega
theorem putR_len (l : List Own) (o : Own) : (putR l o).length ≤ l.length + 1 := by
  have := foldP_le l o
  unfold putR
  split
  · omega
  · rename_i h
    rw [if_neg h] at this
    rw [List.length_append]
    simpa using this
theorem fold_put (o : Own) : ∀ (l : List Own) (s : List Own), l.foldl (stepP o) (s, true) = (s ++ l.filter (fun y => !oneB y o), true)
  | [], s => by simp
  | y :: l, s => by
    have e1 : stepP o (s, true) y = (s ++ (if oneB y o = true then [] else [y]), true) := by unfold stepP; simp
    rw [List.foldl_cons, e1, fold_put o l, List.filter_cons]
    by_cases h : oneB y o = true <;> simp [h]
abbrev Srt (l : List Own) : Prop := l.Pairwise fun a b => lessB a b = true
def ltF (l : List Own) (o : Own) : List Own := l.filter fun y => lessB y o
def gtF (l : List Own) (o : Own) : List Own := l.filter fun y => lessB o y
theorem nless {a b : Own} (h : lessB a b = true) : lessB b a = false := by
  cases h2 : lessB b a with
  | false => rfl
  | true => exact absurd rfl (less_ne (less_trans h h2))
theorem fold_ins (o : Own) : ∀ (l : List Own) (s : List Own), Srt l → (l.foldl (stepP o) (s, false)).1 ++ (if (l.foldl (stepP o) (s, false)).2 = true then [] else [o]) = s ++ ltF l o ++ [o] ++ gtF l o
  | [], s, _ => by simp [ltF, gtF]
  | y :: l, s, h => by
    unfold Srt at h
    rw [List.pairwise_cons] at h
    rw [List.foldl_cons]
    by_cases h1 : lessB o y = true
    · have hne : oneB y o = false := by
        cases h2 : oneB y o with
        | false => rfl
        | true => exact absurd (one_iff.1 h2).symm (less_ne h1)
      have e1 : stepP o (s, false) y = (s ++ [o] ++ [y], true) := by unfold stepP; simp [h1, hne]
      have hgt : ∀ z ∈ y :: l, lessB o z = true := fun z hz => by
        rcases List.mem_cons.1 hz with rfl | hz
        · exact h1
        · exact less_trans h1 (h.1 z hz)
      have e2 : gtF (y :: l) o = y :: l := List.filter_eq_self.2 hgt
      have e3 : ltF (y :: l) o = [] := List.filter_eq_nil_iff.2 fun z hz => by simp [nless (hgt z hz)]
      have e4 : l.filter (fun z => !oneB z o) = l := List.filter_eq_self.2 fun z hz => by
        have := less_ne (hgt z (List.mem_cons_of_mem _ hz))
        rw [one_eq]
        simp [Ne.symm this]
      rw [e1, fold_put, e2, e3, e4]
      simp
    · by_cases h2 : oneB y o = true
      · have e1 : stepP o (s, false) y = (s, false) := by unfold stepP; simp [h1, h2]
        have hk := one_iff.1 h2
        have h3 : lessB y o = false := by
          cases h3 : lessB y o with
          | false => rfl
          | true => exact absurd hk (less_ne h3)
        have e2 : ltF (y :: l) o = ltF l o := by unfold ltF; rw [List.filter_cons_of_neg (by simp [h3])]
        have e3 : gtF (y :: l) o = gtF l o := by unfold gtF; rw [List.filter_cons_of_neg (by simpa using h1)]
        rw [e1, fold_ins o l s h.2, e2, e3]
      · have h3 : lessB y o = true := ((less_tri3 y o).resolve_right fun hh => hh.elim (fun e => h2 (one_iff.2 e)) h1)
        have e1 : stepP o (s, false) y = (s ++ [y], false) := by unfold stepP; simp [h1, h2]
        have e2 : ltF (y :: l) o = y :: ltF l o := by unfold ltF; rw [List.filter_cons_of_pos (by simpa using h3)]
        have e3 : gtF (y :: l) o = gtF l o := by unfold gtF; rw [List.filter_cons_of_neg (by simpa using h1)]
        rw [e1, fold_ins o l _ h.2, e2, e3]
        simp
theorem putR_zero {l : List Own} {o : Own} (h : o.2 = 0) : putR l o = l.filter fun y => !oneB y o := by
  have e : foldP l o = (l.filter (fun y => !oneB y o), true) := by
    unfold foldP
    rw [show decide (o.2 = 0) = true by simpa using h, fold_put]
    rfl
  unfold putR
  rw [e]
  rfl
theorem putR_pos {l : List Own} {o : Own} (hs : Srt l) (h : o.2 ≠ 0) : putR l o = ltF l o ++ [o] ++ gtF l o := by
  have := fold_ins o l [] hs
  unfold putR foldP
  rw [show decide (o.2 = 0) = false by simpa using h]
  rw [List.nil_append] at this
  rw [← this]
  split <;> simp
theorem putR_mem {l : List Own} {o : Own} (hs : Srt l) (x : Own) : x ∈ putR l o ↔ (x ∈ l ∧ x.1 ≠ o.1) ∨ (x = o ∧ o.2 ≠ 0) := by
  by_cases h : o.2 = 0
  · rw [putR_zero h, List.mem_filter, one_eq]
    simp [h]
  · rw [putR_pos hs h]
    simp only [ltF, gtF, List.mem_append, List.mem_filter, List.mem_singleton]
    constructor
    · rintro ((⟨h1, h2⟩ | rfl) | ⟨h1, h2⟩)
      · exact .inl ⟨h1, less_ne h2⟩
      · exact .inr ⟨rfl, h⟩
      · exact .inl ⟨h1, fun e => less_ne h2 e.symm⟩
    · rintro (⟨h1, h2⟩ | ⟨rfl, _⟩)
      · rcases less_tri3 x o with h3 | h3 | h3
        · exact .inl (.inl ⟨h1, h3⟩)
        · exact absurd h3 h2
        · exact .inr ⟨h1, h3⟩
      · exact .inl (.inr rfl)
theorem putR_srt {l : List Own} {o : Own} (hs : Srt l) : Srt (putR l o) := by
  by_cases h : o.2 = 0
  · rw [putR_zero h]
    exact hs.filter _
  · rw [putR_pos hs h]
    unfold Srt
    rw [List.pairwise_append, List.pairwise_append]
    refine ⟨⟨hs.filter _, List.pairwise_singleton _ _, fun a ha b hb => ?_⟩, hs.filter _, fun a ha b hb => ?_⟩
    · rw [List.mem_singleton] at hb
      subst hb
      exact (List.mem_filter.1 ha).2
    · have hb2 := (List.mem_filter.1 hb).2
      rcases List.mem_append.1 ha with ha | ha
      · exact less_trans (List.mem_filter.1 ha).2 hb2
      · rw [List.mem_singleton] at ha
        subst ha
        exact hb2
/-- the document's list is the map -/
structure Lk (l R : List Own) : Prop where
  srt : Srt l
  mem : ∀ x, x ∈ l ↔ x ∈ R
theorem lk_nil : Lk [] [] := ⟨List.Pairwise.nil, fun x => by simp⟩
theorem lk_put {l R : List Own} (h : Lk l R) (o : Own) (ho : 0 ≤ o.2) : Lk (putR l o) (putL R o.1 o.2) := by
  refine ⟨putR_srt h.srt, fun x => ?_⟩
  rw [putR_mem h.srt, h.mem]
  unfold putL setL
  rw [if_neg (by omega)]
  split
  · rename_i h0
    rw [rm_mem]
    simp [h0]
  · rename_i h0
    rw [List.mem_cons, rm_mem]
    obtain ⟨o1, o2⟩ := o
    simp only at h0
    simp [h0, or_comm]
theorem srt_nodup {l : List Own} (h : Srt l) : (l.map (·.1)).Nodup := by
  rw [List.Nodup, List.pairwise_map]
  exact h.imp fun h1 => less_ne h1
theorem lk_perm {l R : List Own} (h : Lk l R) (hR : Okr R) : l.Perm R :=
  (List.perm_ext_iff_of_nodup (List.Pairwise.of_map _ (fun a b hne e => hne (by rw [e])) (srt_nodup h.srt)) (List.Pairwise.of_map _ (fun a b hne e => hne (by rw [e])) hR.nd)).2 h.mem
theorem lk_len {l R : List Own} (h : Lk l R) (hR : Okr R) : l.length = R.length := (lk_perm h hR).length_eq
theorem ofL_lk {l R : List Own} (h : Lk l R) (hR : Okr R) (o : Two) : ofL l o = ofL R o := by
  by_cases h0 : ofL R o = 0
  · rw [h0]
    refine ofL_none fun a ha => ?_
    have h1 := (h.mem _).1 ha
    have h2 := ofL_eq hR.nd h1
    have h3 := hR.pos _ h1
    have h3 : 0 < a := h3
    omega
  · exact ofL_eq (srt_nodup h.srt) ((h.mem _).2 (ofL_mem h0))
def rcells (xs : List Own) : List Value := xs.flatMap fun x => [I x.1.1, I x.1.2, I x.2]
theorem rcells_len : ∀ xs : List Own, (rcells xs).length = xs.length * 3
  | [] => rfl
  | x :: xs => by
    have := rcells_len xs
    unfold rcells at this ⊢
    rw [List.flatMap_cons, List.length_append, this]
    simp only [List.length_cons, List.length_nil]
    omega
theorem rcells_at : ∀ (xs : List Own) (k : Nat) (hk : k < xs.length), (rcells xs)[k * 3]? = some (I xs[k].1.1) ∧ (rcells xs)[k * 3 + 1]? = some (I xs[k].1.2) ∧ (rcells xs)[k * 3 + 2]? = some (I xs[k].2)
  | [], _, hk => by simp at hk
  | x :: xs, 0, _ => ⟨rfl, rfl, rfl⟩
  | x :: xs, k + 1, hk => by
    have hk' : k < xs.length := by simpa using hk
    have h1 := rcells_at xs k hk'
    have e1 : (k + 1) * 3 = k * 3 + 3 := by omega
    have e2 : rcells (x :: xs) = I x.1.1 :: I x.1.2 :: I x.2 :: rcells xs := rfl
    rw [e1, e2]
    exact h1
theorem rcells_snoc (xs : List Own) (x : Own) : rcells xs ++ [I x.1.1, I x.1.2, I x.2] = rcells (xs ++ [x]) := by
  unfold rcells
  rw [List.flatMap_append]
  rfl
end Rk
end Go.Proofs.Ytiikdofbaoidcaa
