import Derived.Test.YtiikdofbaoidcaaRk
namespace Go.Proofs.Ytiikdofbaoidcaa
namespace Rq
open Go Go.Proofs.Ytiikdofbaoidcaa.Hp Mp Mq Rs Rt Rv Rk
set_option maxRecDepth 10000
set_option linter.unusedVariables false
set_option linter.unusedSimpArgs false
theorem srt2_eq {a b : List Two} (ha : a.Pairwise fun x y => x.1 < y.1 ∨ x.1 = y.1 ∧ x.2 < y.2) (hb : b.Pairwise fun x y => x.1 < y.1 ∨ x.1 = y.1 ∧ x.2 < y.2) (hp : a.Perm b) : a = b :=
  List.Perm.eq_of_pairwise (le := fun x y : Two => x.1 < y.1 ∨ x.1 = y.1 ∧ x.2 ≤ y.2) (fun x y _ _ h1 h2 => key_ext (by omega) (by omega)) (ha.imp fun h => by omega) (hb.imp fun h => by omega) hp
theorem srt_keys {l : List Own} (h : Srt l) : (l.map (·.1)).Pairwise fun x y => x.1 < y.1 ∨ x.1 = y.1 ∧ x.2 < y.2 := by
  rw [List.pairwise_map]
  exact h.imp fun hh => less_iff.1 hh
theorem split_p {α : Type} (p : α → Bool) : ∀ l : List α, l.Pairwise (fun a b => p b = true → p a = true) → l = l.filter p ++ l.filter (fun x => !p x)
  | [], _ => rfl
  | a :: l, h => by
    rw [List.pairwise_cons] at h
    by_cases hp : p a = true
    · rw [List.filter_cons_of_pos hp, List.filter_cons_of_neg (by simp [hp]), List.cons_append, ← split_p p l h.2]
    · have hn : ∀ x ∈ l, ¬ p x = true := fun x hx hh => hp (h.1 x hx hh)
      rw [List.filter_cons_of_neg hp, List.filter_cons_of_pos (by simp [hp]), List.filter_eq_nil_iff.2 hn, List.nil_append]
      congr 1
      exact (List.filter_eq_self.2 fun x hx => by simpa using hn x hx).symm
theorem split_idx {α : Type} (p : α → Bool) {l : List α} (h : l.Pairwise (fun a b => p b = true → p a = true)) {j : Nat} (hj : j < l.length) : j < (l.filter p).length ↔ p l[j] = true := by
  have e := split_p p l h
  constructor
  · intro hlt
    have h1 : l[j] = (l.filter p)[j] := by
      have h2 : (l.filter p ++ l.filter (fun x => !p x))[j]? = some l[j] := by rw [← e]; exact List.getElem?_eq_getElem hj
      rw [List.getElem?_append_left hlt, List.getElem?_eq_getElem hlt] at h2
      exact (Option.some.inj h2).symm
    rw [h1]
    exact (List.mem_filter.1 (List.getElem_mem hlt)).2
  · intro hp
    refine Nat.lt_of_not_le fun hle => ?_
    have h2 : (l.filter p ++ l.filter (fun x => !p x))[j]? = some l[j] := by rw [← e]; exact List.getElem?_eq_getElem hj
    rw [List.getElem?_append_right hle] at h2
    have h3 := (List.mem_filter.1 (List.mem_of_getElem? h2)).2
    rw [hp] at h3
    cases h3
def seg (l : List Own) (v : Int) : List Own := l.filter fun y => decide (y.1.1 = v)
def ltV (l : List Own) (v : Int) : Nat := (l.filter fun y => decide (y.1.1 < v)).length
def leV (l : List Own) (v : Int) : Nat := (l.filter fun y => decide (y.1.1 ≤ v)).length
theorem srt_vol {l : List Own} (h : Srt l) : l.Pairwise fun a b => a.1.1 ≤ b.1.1 := h.imp fun hh => by have := less_iff.1 hh; omega
theorem mono_lt {l : List Own} (h : Srt l) (v : Int) : l.Pairwise fun a b => decide (b.1.1 < v) = true → decide (a.1.1 < v) = true := (srt_vol h).imp fun hh => by simp only [decide_eq_true_eq]; omega
theorem mono_le {l : List Own} (h : Srt l) (v : Int) : l.Pairwise fun a b => decide (b.1.1 ≤ v) = true → decide (a.1.1 ≤ v) = true := (srt_vol h).imp fun hh => by simp only [decide_eq_true_eq]; omega
theorem lt_idx {l : List Own} (h : Srt l) (v : Int) {j : Nat} (hj : j < l.length) : j < ltV l v ↔ l[j].1.1 < v := by
  have := split_idx _ (mono_lt h v) hj
  simpa [ltV] using this
theorem le_idx {l : List Own} (h : Srt l) (v : Int) {j : Nat} (hj : j < l.length) : j < leV l v ↔ l[j].1.1 ≤ v := by
  have := split_idx _ (mono_le h v) hj
  simpa [leV] using this
theorem le_split {l : List Own} (h : Srt l) (v : Int) : (l.filter fun y => decide (y.1.1 ≤ v)) = (l.filter fun y => decide (y.1.1 < v)) ++ seg l v := by
  have h1 := split_p (fun y : Own => decide (y.1.1 < v)) (l.filter fun y => decide (y.1.1 ≤ v)) ((mono_lt h v).filter _)
  rw [List.filter_filter, List.filter_filter] at h1
  rw [h1]
  congr 1
  · congr 1
    funext y
    rw [Bool.eq_iff_iff]
    simp only [Bool.and_eq_true, decide_eq_true_eq]
    omega
  · unfold seg
    congr 1
    funext y
    rw [Bool.eq_iff_iff]
    simp only [Bool.and_eq_true, Bool.not_eq_true', decide_eq_true_eq, decide_eq_false_iff_not]
    omega
theorem le_eq {l : List Own} (h : Srt l) (v : Int) : leV l v = ltV l v + (seg l v).length := by
  unfold leV ltV
  rw [le_split h v, List.length_append]
theorem le_le (l : List Own) (v : Int) : leV l v ≤ l.length := List.length_filter_le ..
theorem seg_at {l : List Own} (h : Srt l) (v : Int) {k : Nat} (hk : k < (seg l v).length) : ∃ hj : ltV l v + k < l.length, l[ltV l v + k] = (seg l v)[k] := by
  have e1 := split_p _ l (mono_le h v)
  have h2 := le_eq h v
  have h3 := le_le l v
  have hj : ltV l v + k < l.length := by omega
  refine ⟨hj, ?_⟩
  have h4 : (l.filter (fun y => decide (y.1.1 ≤ v)) ++ l.filter (fun x => !decide (x.1.1 ≤ v)))[ltV l v + k]? = some l[ltV l v + k] := by rw [← e1]; exact List.getElem?_eq_getElem hj
  rw [le_split h v, List.append_assoc, List.getElem?_append_right (by unfold ltV; omega), List.getElem?_append_left (by unfold ltV; omega)] at h4
  rw [show ltV l v + k - (l.filter fun y => decide (y.1.1 < v)).length = k by unfold ltV; omega, List.getElem?_eq_getElem hk] at h4
  exact (Option.some.inj h4).symm
/-- how many were counted ahead of number 'i' -/
def cntV (l : List Own) : Nat → Nat
  | 0 => 0
  | i + 1 => match l[i]? with
    | some x => leV l x.1.1
    | none => 0
theorem cntV_succ {l : List Own} {i : Nat} (hi : i < l.length) : cntV l (i + 1) = leV l l[i].1.1 := by
  simp [cntV, List.getElem?_eq_getElem hi]
theorem cntV_same {l : List Own} {i : Nat} (hi : i + 1 < l.length) (he : l[i].1.1 = l[i + 1].1.1) : cntV l (i + 2) = cntV l (i + 1) := by
  rw [cntV_succ hi, cntV_succ (by omega), he]
theorem cntV_start {l : List Own} (h : Srt l) {i : Nat} (hi : i < l.length) (hs : ∀ j (hj : i = j + 1), l[j].1.1 ≠ l[i].1.1) : cntV l i = i ∧ ltV l l[i].1.1 = i ∧ cntV l (i + 1) = i + (seg l l[i].1.1).length := by
  have h0 := (lt_idx h l[i].1.1 hi)
  have h3 := le_eq h l[i].1.1
  rw [cntV_succ hi]
  rcases i with _ | j
  · have h1 : ltV l l[0].1.1 = 0 := by
      have : ¬ 0 < ltV l l[0].1.1 := fun hh => by have := h0.1 hh; omega
      omega
    exact ⟨rfl, h1, by omega⟩
  · have hj : j < l.length := by omega
    have hne := hs j rfl
    have hle : l[j].1.1 ≤ l[j + 1].1.1 := List.pairwise_iff_getElem.1 (srt_vol h) j (j + 1) hj hi (by omega)
    have h1 := (lt_idx h l[j + 1].1.1 hj).2 (by omega)
    have h2 : ¬ j + 1 < ltV l l[j + 1].1.1 := fun hh => by have := h0.1 hh; omega
    have h4 : ltV l l[j + 1].1.1 = j + 1 := by omega
    refine ⟨?_, h4, by omega⟩
    rw [cntV_succ hj]
    have h5 := (le_idx h l[j].1.1 hj).2 (Int.le_refl _)
    have h6 : ¬ j + 1 < leV l l[j].1.1 := fun hh => by have := (le_idx h l[j].1.1 hi).1 hh; omega
    omega
theorem cntV_end {l : List Own} (h : Srt l) : cntV l l.length = l.length := by
  cases hl : l.length with
  | zero => rfl
  | succ j =>
    have hj : j < l.length := by omega
    rw [cntV_succ hj]
    have h5 := (le_idx h l[j].1.1 hj).2 (Int.le_refl _)
    have := le_le l l[j].1.1
    omega
end Rq
end Go.Proofs.Ytiikdofbaoidcaa
