import Derived.Test.YtlldbcdcpjfloaaPp
namespace Go.Proofs.Ytlldbcdcpjfloaa
open Pp
namespace Pq
theorem regs_flat (l : List Int) : (regs l).flatMap (fun r => r.2) = l := by
  refine regs_ind (p := fun l rs => rs.flatMap (fun r => r.2) = l) rfl ?_ l
  intro l a h
  rcases step_cases (regs l) a with ⟨e, _⟩ | ⟨ini, r0, e0, _, _, e⟩
  · rw [e, List.flatMap_append, h]; simp
  · rw [e0, List.flatMap_append] at h
    simp only [List.flatMap_cons, List.flatMap_nil, List.append_nil] at h
    rw [e, List.flatMap_append]
    simp only [List.flatMap_cons, List.flatMap_nil, List.append_nil]
    rw [← List.append_assoc, h]
theorem regs_dev (l : List Int) : ∀ r ∈ regs l, ∀ a ∈ r.2, a / 4096 = r.1 := by
  refine regs_ind (p := fun _ rs => ∀ r ∈ rs, ∀ a ∈ r.2, a / 4096 = r.1) (by simp) ?_ l
  intro l a h r hr x hx
  rcases step_cases (regs l) a with ⟨e, _⟩ | ⟨ini, r0, e0, h1, _, e⟩
  · rw [e] at hr
    rcases List.mem_append.1 hr with hr | hr
    · exact h r hr x hx
    · simp at hr; subst hr; simp at hx; rw [hx]
  · rw [e] at hr
    rw [e0] at h
    rcases List.mem_append.1 hr with hr | hr
    · exact h r (List.mem_append_left _ hr) x hx
    · simp at hr; subst hr
      simp only [List.mem_append, List.mem_singleton] at hx
      rcases hx with hx | hx
      · have := h r0 (by simp) x hx
        simp only; omega
      · simp only; rw [hx]
theorem regs_full (l : List Int) : ∀ i r r', (regs l)[i]? = some r → (regs l)[i + 1]? = some r' → r'.1 = r.1 → r.2.length = 4 := by
  refine regs_ind (p := fun _ rs => ∀ i (r r' : Reg), rs[i]? = some r → rs[i + 1]? = some r' → r'.1 = r.1 → r.2.length = 4) (by simp) ?_ l
  intro l a h i r r' hr hr' hd
  rcases step_cases (regs l) a with ⟨e, hn⟩ | ⟨ini, r0, e0, h1, h2, e⟩
  · rw [e] at hr hr'
    generalize regs l = rs at h hn hr hr'
    rcases Nat.lt_trichotomy (i + 1) rs.length with hl | hl | hl
    · rw [List.getElem?_append_left (by omega)] at hr
      rw [List.getElem?_append_left (by omega)] at hr'
      exact h i r r' hr hr' hd
    · rw [List.getElem?_append_left (by omega)] at hr
      rw [List.getElem?_append_right (by omega), hl, Nat.sub_self] at hr'
      simp at hr'
      subst hr'
      have hg : rs.getLast? = some r := by rw [List.getLast?_eq_getElem?, ← hl, Nat.add_sub_cancel, hr]
      have := hn r hg
      simp only at hd
      refine Classical.byContradiction fun hc => this ⟨hd.symm, hc⟩
    · rw [List.getElem?_eq_none (by simp; omega)] at hr'
      cases hr'
  · rw [e] at hr hr'
    rw [e0] at h
    rcases Nat.lt_trichotomy (i + 1) ini.length with hl | hl | hl
    · rw [List.getElem?_append_left (by omega)] at hr hr'
      exact h i r r' (by rw [List.getElem?_append_left (by omega)]; exact hr) (by rw [List.getElem?_append_left (by omega)]; exact hr') hd
    · rw [List.getElem?_append_left (by omega)] at hr
      rw [List.getElem?_append_right (by omega), hl, Nat.sub_self] at hr'
      simp at hr'
      subst hr'
      exact h i r r0 (by rw [List.getElem?_append_left (by omega)]; exact hr) (by rw [List.getElem?_append_right (by omega), hl, Nat.sub_self]; rfl) (by simp only at hd; omega)
    · rw [List.getElem?_eq_none (by simp; omega)] at hr'
      cases hr'
/-- how many stand ahead of a region -/
def off (rs : List Reg) (i : Nat) : Nat := ((rs.take i).flatMap fun r => r.2).length
theorem off_zero (rs : List Reg) : off rs 0 = 0 := by simp [off]
theorem off_next {rs : List Reg} {i : Nat} {r : Reg} (h : rs[i]? = some r) : off rs (i + 1) = off rs i + r.2.length := by
  have hi := (List.getElem?_eq_some_iff.1 h).1
  have e : rs[i] = r := by rw [List.getElem?_eq_getElem hi] at h; exact Option.some.inj h
  unfold off
  rw [List.take_succ_eq_append_getElem hi, List.flatMap_append, List.length_append, e]
  simp
theorem off_all {l : List Int} {i : Nat} (h : (regs l).length ≤ i) : off (regs l) i = l.length := by
  unfold off
  rw [List.take_of_length_le h, regs_flat]
theorem flat_at {rs : List Reg} {i j : Nat} {r : Reg} {a : Int} (h : rs[i]? = some r) (hj : r.2[j]? = some a) : (rs.flatMap fun r => r.2)[off rs i + j]? = some a := by
  have hi := (List.getElem?_eq_some_iff.1 h).1
  have e : rs[i] = r := by rw [List.getElem?_eq_getElem hi] at h; exact Option.some.inj h
  have hj' := (List.getElem?_eq_some_iff.1 hj).1
  have e2 : rs = rs.take i ++ r :: rs.drop (i + 1) := by
    conv => lhs; rw [← List.take_append_drop i rs, List.drop_eq_getElem_cons hi, e]
  unfold off
  conv => lhs; lhs; rw [e2]
  rw [List.flatMap_append, List.getElem?_append_right (by omega), List.flatMap_cons, List.getElem?_append_left (by omega)]
  rw [show ((rs.take i).flatMap fun r => r.2).length + j - ((rs.take i).flatMap fun r => r.2).length = j by omega]
  exact hj
/-- the last one seen -/
def lst (l : List Int) (c : Nat) : Int := match c with | 0 => 0 | c + 1 => l[c]?.getD 0
theorem lst_next {l : List Int} {c : Nat} {a : Int} (h : l[c]? = some a) : lst l (c + 1) = a := by simp [lst, h]
theorem lst_lt {l : List Int} (hs : l.Pairwise (· < ·)) (h1 : ∀ x ∈ l, 1 ≤ x) {c : Nat} {a : Int} (h : l[c]? = some a) : lst l c < a := by
  cases c with
  | zero =>
    have := h1 a (List.mem_of_getElem? h)
    simp only [lst]; omega
  | succ c =>
    have hc := (List.getElem?_eq_some_iff.1 h).1
    have e : l[c + 1] = a := by rw [List.getElem?_eq_getElem hc] at h; exact Option.some.inj h
    have := List.pairwise_iff_getElem.1 hs c (c + 1) (by omega) hc (by omega)
    simp only [lst]
    rw [List.getElem?_eq_getElem (by omega)]
    simp only [Option.getD_some]
    omega
/-- how many regions the devices ahead have -/
def cnt (q : List Int) (d : Nat) : Nat := ((List.range d).flatMap fun d : Nat => ch (d : Int) (dv d q)).length
theorem cnt_zero (q : List Int) : cnt q 0 = 0 := rfl
theorem cnt_next (q : List Int) (d : Nat) : cnt q (d + 1) = cnt q d + ((dv d q).length + 3) / 4 := by
  unfold cnt
  rw [List.range_succ, List.flatMap_append, List.length_append]
  simp [ch_len]
theorem cnt_all (q : List Int) : cnt q 8 = (cut q).length := rfl
theorem cut_at (q : List Int) (d n : Nat) (hd : d < 8) (h : 4 * n < (dv d q).length) : (cut q)[cnt q d + n]? = some ((d : Int), ((dv d q).drop (4 * n)).take 4) := by
  have hlen : (ch (d : Int) (dv d q)).length = ((dv d q).length + 3) / 4 := ch_len _ _
  unfold cut cnt
  rw [range_part d hd, List.flatMap_append, List.getElem?_append_right (by omega), List.flatMap_cons, List.getElem?_append_left (by omega)]
  rw [show ((List.range d).flatMap fun d : Nat => ch (d : Int) (dv d q)).length + n - ((List.range d).flatMap fun d : Nat => ch (d : Int) (dv d q)).length = n by omega]
  exact ch_get _ _ _ h
theorem cnt_mono (q : List Int) (d : Nat) (hd : d ≤ 8) : cnt q d ≤ (cut q).length := by
  have : ∀ k, d + k ≤ 8 → cnt q d ≤ cnt q (d + k) := by
    intro k
    induction k with
    | zero => intro _; exact Nat.le_refl _
    | succ k ih =>
      intro h
      have h1 := ih (by omega)
      have h2 := cnt_next q (d + k)
      rw [← Nat.add_assoc, h2]
      omega
  have h := this (8 - d) (by omega)
  rw [show d + (8 - d) = 8 by omega, cnt_all] at h
  exact h
theorem region_nil {l : List Int} (h : l.Nodup) (d n : Nat) : region l (d : Int) n = [] ↔ (dv d (srt l)).length ≤ 4 * n := by
  rw [region_eq h]
  constructor
  · intro e
    have := congrArg List.length e
    simp at this
    omega
  · intro e
    rw [List.drop_eq_nil_of_le e]; rfl
theorem first_region {l : List Int} (h : l.Nodup) (h0 : ∀ x ∈ l, 0 ≤ x ∧ x < 32768) (d : Nat) (hd : d < 8) : (match (regs (srt l)).find? (fun r => r.1 == (d : Int)) with | some r => r.2 | none => []) = region l (d : Int) 0 := by
  rw [regs_cut (srt_le l) (fun x hx => h0 x (srt_mem.1 hx)), region_eq h]
  have e1 : (cut (srt l)).find? (fun r => r.1 == (d : Int)) = (ch (d : Int) (dv d (srt l))).find? (fun r => r.1 == (d : Int)) := by
    unfold cut
    rw [range_part d hd, List.flatMap_append, List.find?_append, List.flatMap_cons, List.find?_append]
    have n1 : ((List.range d).flatMap fun d : Nat => ch (d : Int) (dv d (srt l))).find? (fun r => r.1 == (d : Int)) = none := by
      rw [List.find?_eq_none]
      intro r hr
      obtain ⟨d', hd', hc⟩ := List.mem_flatMap.1 hr
      have := List.mem_range.1 hd'
      unfold ch at hc
      obtain ⟨n, _, rfl⟩ := List.mem_map.1 hc
      simp only [beq_iff_eq]
      omega
    have n2 : ((List.range' (d + 1) (7 - d)).flatMap fun d : Nat => ch (d : Int) (dv d (srt l))).find? (fun r => r.1 == (d : Int)) = none := by
      rw [List.find?_eq_none]
      intro r hr
      obtain ⟨d', hd', hc⟩ := List.mem_flatMap.1 hr
      have := List.mem_range'_1.1 hd'
      unfold ch at hc
      obtain ⟨n, _, rfl⟩ := List.mem_map.1 hc
      simp only [beq_iff_eq]
      omega
    rw [n1, n2]
    simp
  rw [e1]
  by_cases hq : dv d (srt l) = []
  · rw [hq, ch_nil]; rfl
  · have hl : 0 < (dv d (srt l)).length := List.length_pos_iff.2 hq
    have hg := ch_get (d : Int) (dv d (srt l)) 0 (by omega)
    cases hc : ch (d : Int) (dv d (srt l)) with
    | nil => rw [hc] at hg; cases hg
    | cons r rs =>
      rw [hc] at hg
      simp only [List.getElem?_cons_zero, Option.some.injEq] at hg
      subst hg
      simp
end Pq
end Go.Proofs.Ytlldbcdcpjfloaa
