namespace Go.Proofs.Ytlldbcdcpjfloaa
namespace Pp
abbrev Reg := Int × List Int
def stepR (out : List Reg) (a : Int) : List Reg :=
  match out.getLast? with
  | none => [(a / 4096, [a])]
  | some r => if r.1 = a / 4096 ∧ r.2.length ≠ 4 then out.dropLast ++ [(r.1, r.2 ++ [a])] else out ++ [(a / 4096, [a])]
def regs (l : List Int) : List Reg := l.foldl stepR []
theorem step_nil (a : Int) : stepR [] a = [(a / 4096, [a])] := rfl
theorem step_more (ini : List Reg) (r : Reg) (a : Int) (h1 : r.1 = a / 4096) (h2 : r.2.length ≠ 4) : stepR (ini ++ [r]) a = ini ++ [(a / 4096, r.2 ++ [a])] := by
  unfold stepR
  simp [h1, h2]
theorem step_new (out : List Reg) (a : Int) (h : ∀ r, out.getLast? = some r → ¬ (r.1 = a / 4096 ∧ r.2.length ≠ 4)) : stepR out a = out ++ [(a / 4096, [a])] := by
  unfold stepR
  split
  · rename_i h0
    rw [List.getLast?_eq_none_iff.1 h0]; rfl
  · rename_i r hr
    rw [if_neg (h r hr)]
theorem regs_snoc (l : List Int) (a : Int) : regs (l ++ [a]) = stepR (regs l) a := by simp [regs]
theorem regs_take {l : List Int} {i : Nat} (hi : i < l.length) : regs (l.take (i + 1)) = stepR (regs (l.take i)) l[i] := by
  rw [List.take_succ_eq_append_getElem hi, regs_snoc]
theorem step_len (out : List Reg) (a : Int) : (stepR out a).length ≤ out.length + 1 := by
  unfold stepR
  split
  · simp
  · rename_i r hr
    split
    · simp only [List.length_append, List.length_dropLast, List.length_singleton]; omega
    · simp
theorem regs_ind {p : List Int → List Reg → Prop} (h0 : p [] []) (h1 : ∀ l a, p l (regs l) → p (l ++ [a]) (stepR (regs l) a)) (l : List Int) : p l (regs l) := by
  have : ∀ k, k ≤ l.length → p (l.take k) (regs (l.take k)) := by
    intro k
    induction k with
    | zero => intro _; rw [List.take_zero]; exact h0
    | succ k ih =>
      intro hk
      rw [List.take_succ_eq_append_getElem (by omega), regs_snoc]
      exact h1 _ _ (ih (by omega))
  have h := this l.length (Nat.le_refl _)
  rwa [List.take_length] at h
theorem regs_len (l : List Int) : (regs l).length ≤ l.length := by
  refine regs_ind (p := fun l r => r.length ≤ l.length) (Nat.le_refl _) ?_ l
  intro l a h
  have := step_len (regs l) a
  simp only [List.length_append, List.length_singleton]
  omega
theorem step_cases (out : List Reg) (a : Int) : (stepR out a = out ++ [(a / 4096, [a])] ∧ ∀ r, out.getLast? = some r → ¬ (r.1 = a / 4096 ∧ r.2.length ≠ 4)) ∨
    ∃ ini r, out = ini ++ [r] ∧ r.1 = a / 4096 ∧ r.2.length ≠ 4 ∧ stepR out a = ini ++ [(a / 4096, r.2 ++ [a])] := by
  by_cases h : ∀ r, out.getLast? = some r → ¬ (r.1 = a / 4096 ∧ r.2.length ≠ 4)
  · exact .inl ⟨step_new out a h, h⟩
  · obtain ⟨r, hr⟩ := Classical.not_forall.1 h
    obtain ⟨h1, h2⟩ := Classical.not_imp.1 hr
    have h3 := Classical.not_not.1 h2
    obtain ⟨ini, rfl⟩ := List.getLast?_eq_some_iff.1 h1
    exact .inr ⟨ini, r, rfl, h3.1, h3.2, step_more ini r a h3.1 h3.2⟩
theorem regs_small (l : List Int) : ∀ r ∈ regs l, 1 ≤ r.2.length ∧ r.2.length ≤ 4 := by
  refine regs_ind (p := fun _ rs => ∀ r ∈ rs, 1 ≤ r.2.length ∧ r.2.length ≤ 4) (by simp) ?_ l
  intro l a h r hr
  rcases step_cases (regs l) a with ⟨e, _⟩ | ⟨ini, r0, e0, _, h2, e⟩
  · rw [e] at hr
    rcases List.mem_append.1 hr with hr | hr
    · exact h r hr
    · simp at hr; subst hr; simp
  · rw [e] at hr
    rw [e0] at h
    rcases List.mem_append.1 hr with hr | hr
    · exact h r (List.mem_append_left _ hr)
    · simp at hr; subst hr
      have := h r0 (by simp)
      simp only [List.length_append, List.length_singleton]
      omega
/-- a device's addresses, cut -/
def ch (d : Int) (q : List Int) : List Reg := (List.range ((q.length + 3) / 4)).map fun n => (d, (q.drop (4 * n)).take 4)
theorem ch_nil (d : Int) : ch d [] = [] := rfl
theorem ch_len (d : Int) (q : List Int) : (ch d q).length = (q.length + 3) / 4 := by simp [ch]
theorem ch_get (d : Int) (q : List Int) (n : Nat) (h : 4 * n < q.length) : (ch d q)[n]? = some (d, (q.drop (4 * n)).take 4) := by
  unfold ch
  rw [List.getElem?_map, List.getElem?_range (by omega)]
  rfl
theorem ch_head (d : Int) (q : List Int) (h : q ≠ []) : ∃ ini, ch d q = ini ++ [(d, (q.drop (4 * ((q.length - 1) / 4))).take 4)] ∧ ini = (List.range ((q.length - 1) / 4)).map fun n => (d, (q.drop (4 * n)).take 4) := by
  have hl : 0 < q.length := List.length_pos_iff.2 h
  refine ⟨_, ?_, rfl⟩
  unfold ch
  rw [show (q.length + 3) / 4 = (q.length - 1) / 4 + 1 by omega, List.range_succ, List.map_append]
  rfl
theorem drop_snoc (q : List Int) (a : Int) (n : Nat) (h : n ≤ q.length) : (q ++ [a]).drop n = q.drop n ++ [a] := by
  rw [List.drop_append_of_le_length h]
theorem ch_same (d : Int) (q : List Int) (a : Int) (k : Nat) (h : 4 * k ≤ q.length) :
    (List.range k).map (fun n => (d, ((q ++ [a]).drop (4 * n)).take 4)) = (List.range k).map (fun n => (d, (q.drop (4 * n)).take 4)) := by
  apply List.map_congr_left
  intro n hn
  have hn : n < k := List.mem_range.1 hn
  rw [drop_snoc q a _ (by omega), List.take_append_of_le_length (by simp; omega)]
theorem ch_new (d : Int) (q : List Int) (a : Int) (h : q.length % 4 = 0) : ch d (q ++ [a]) = ch d q ++ [(d, [a])] := by
  obtain ⟨ini, h1, h2⟩ := ch_head d (q ++ [a]) (by simp)
  rw [h1, h2]
  simp only [List.length_append, List.length_singleton, Nat.add_sub_cancel]
  rw [ch_same d q a _ (by omega), drop_snoc q a _ (by omega), List.drop_eq_nil_of_le (by omega)]
  unfold ch
  rw [show (q.length + 3) / 4 = q.length / 4 by omega]
  rfl
theorem ch_more (d : Int) (q : List Int) (a : Int) (h : q.length % 4 ≠ 0) : ∃ ini as, ch d q = ini ++ [(d, as)] ∧ ch d (q ++ [a]) = ini ++ [(d, as ++ [a])] ∧ as.length ≠ 4 ∧ as.length = q.length % 4 := by
  have hne : q ≠ [] := by intro e; subst e; simp at h
  obtain ⟨ini, h1, h2⟩ := ch_head d q hne
  obtain ⟨ini2, h3, h4⟩ := ch_head d (q ++ [a]) (by simp)
  have e1 : (q.length - 1) / 4 = q.length / 4 := by omega
  have e2 : ((q ++ [a]).length - 1) / 4 = q.length / 4 := by simp
  rw [e1] at h1 h2
  rw [e2] at h3 h4
  rw [ch_same d q a _ (by omega), ← h2] at h4
  have e3 : ((q ++ [a]).drop (4 * (q.length / 4))).take 4 = (q.drop (4 * (q.length / 4))).take 4 ++ [a] := by
    rw [drop_snoc q a _ (by omega)]
    rw [List.take_of_length_le (by simp; omega), List.take_of_length_le (by simp; omega)]
  rw [h4, e3] at h3
  refine ⟨ini, _, h1, h3, ?_, ?_⟩ <;> simp <;> omega
def dv (d : Nat) (p : List Int) : List Int := p.filter fun a => decide (a / 4096 = (d : Int))
def cut (p : List Int) : List Reg := (List.range 8).flatMap fun d : Nat => ch (d : Int) (dv d p)
theorem range_part (d : Nat) (h : d < 8) : List.range 8 = List.range d ++ d :: List.range' (d + 1) (7 - d) := by
  have : d = 0 ∨ d = 1 ∨ d = 2 ∨ d = 3 ∨ d = 4 ∨ d = 5 ∨ d = 6 ∨ d = 7 := by omega
  rcases this with rfl | rfl | rfl | rfl | rfl | rfl | rfl | rfl <;> rfl
theorem dv_snoc (d : Nat) (p : List Int) (a : Int) : dv d (p ++ [a]) = dv d p ++ if a / 4096 = (d : Int) then [a] else [] := by
  unfold dv
  rw [List.filter_append]
  by_cases h : a / 4096 = (d : Int) <;> simp [h]
theorem flat_same {p : List Int} {a : Int} {d0 : Nat} (hd : a / 4096 = (d0 : Int)) : ∀ l : List Nat, d0 ∉ l → (l.flatMap fun d : Nat => ch (d : Int) (dv d (p ++ [a]))) = l.flatMap fun d : Nat => ch (d : Int) (dv d p)
  | [], _ => rfl
  | d :: l, h => by
    simp only [List.mem_cons, not_or] at h
    rw [List.flatMap_cons, List.flatMap_cons, flat_same hd l h.2, dv_snoc, if_neg (by intro e; apply h.1; omega), List.append_nil]
theorem flat_last {p : List Int} {d0 : Nat} : ∀ k, k ≤ d0 → ∀ r, ((List.range k).flatMap fun d : Nat => ch (d : Int) (dv d p)).getLast? = some r → r.1 ≠ (d0 : Int) := by
  intro k hk r hr
  have hm := List.mem_of_getLast? hr
  rw [List.mem_flatMap] at hm
  obtain ⟨d, hd, hc⟩ := hm
  have hd := List.mem_range.1 hd
  unfold ch at hc
  obtain ⟨n, _, rfl⟩ := List.mem_map.1 hc
  simp only
  omega
theorem cut_snoc {p : List Int} {a : Int} (h0 : 0 ≤ a) (h1 : a < 32768) (hp : ∀ x ∈ p, x ≤ a) : cut (p ++ [a]) = stepR (cut p) a := by
  obtain ⟨d0, hd⟩ : ∃ d0 : Nat, a / 4096 = (d0 : Int) := ⟨(a / 4096).toNat, by omega⟩
  have hd8 : d0 < 8 := by omega
  have hrest : ∀ q : List Int, (∀ x ∈ q, x ≤ a) → (List.range' (d0 + 1) (7 - d0)).flatMap (fun d : Nat => ch (d : Int) (dv d q)) = [] := by
    intro q hq
    rw [List.flatMap_eq_nil_iff]
    intro d hd'
    have hd' := List.mem_range'_1.1 hd'
    have : dv d q = [] := by
      unfold dv
      rw [List.filter_eq_nil_iff]
      intro x hx
      have := hq x hx
      simp only [decide_eq_true_eq]
      omega
    rw [this, ch_nil]
  have hpa : ∀ x ∈ p ++ [a], x ≤ a := fun x hx => by
    rcases List.mem_append.1 hx with hx | hx
    · exact hp x hx
    · simp at hx; omega
  have e1 : cut p = (List.range d0).flatMap (fun d : Nat => ch (d : Int) (dv d p)) ++ ch d0 (dv d0 p) := by
    unfold cut
    rw [range_part d0 hd8, List.flatMap_append, List.flatMap_cons, hrest p hp, List.append_nil]
  have e2 : cut (p ++ [a]) = (List.range d0).flatMap (fun d : Nat => ch (d : Int) (dv d p)) ++ ch d0 (dv d0 p ++ [a]) := by
    unfold cut
    rw [range_part d0 hd8, List.flatMap_append, List.flatMap_cons, hrest _ hpa, List.append_nil, flat_same hd _ (by simp), dv_snoc, if_pos hd]
  rw [e1, e2]
  generalize hq : dv d0 p = q
  by_cases hm : q.length % 4 = 0
  · rw [ch_new _ _ _ hm, step_new _ _ ?_, hd, List.append_assoc]
    intro r hr
    by_cases hne : q = []
    · subst hne
      rw [ch_nil, List.append_nil] at hr
      have := flat_last d0 (Nat.le_refl _) r hr
      rw [hd]
      exact fun h => this h.1
    · obtain ⟨ini, h3, _⟩ := ch_head d0 q hne
      rw [h3, ← List.append_assoc, List.getLast?_append] at hr
      simp at hr
      subst hr
      rintro ⟨_, h5⟩
      apply h5
      have hl : 0 < q.length := List.length_pos_iff.2 hne
      simp
      omega
  · obtain ⟨ini, as, h3, h4, h5, _⟩ := ch_more d0 q a hm
    rw [h3, h4, ← List.append_assoc, ← List.append_assoc, step_more _ (_, as) _ hd.symm h5, hd]
theorem regs_cut {l : List Int} (hs : l.Pairwise (· ≤ ·)) (h0 : ∀ x ∈ l, 0 ≤ x ∧ x < 32768) : regs l = cut l := by
  have : ∀ k, k ≤ l.length → regs (l.take k) = cut (l.take k) := by
    intro k
    induction k with
    | zero => intro _; rw [List.take_zero]; rfl
    | succ k ih =>
      intro hk
      have hm : l[k] ∈ l := List.getElem_mem _
      rw [regs_take (by omega), ih (by omega), List.take_succ_eq_append_getElem (by omega)]
      refine (cut_snoc (h0 _ hm).1 (h0 _ hm).2 fun x hx => ?_).symm
      obtain ⟨j, hj, rfl⟩ := List.mem_iff_getElem.1 hx
      rw [List.length_take] at hj
      rw [List.getElem_take]
      exact List.pairwise_iff_getElem.1 hs j k (by omega) (by omega) (by omega)
  have h := this l.length (Nat.le_refl _)
  rwa [List.take_length] at h
/-! the sorted list -/
def srt (l : List Int) : List Int := l.mergeSort fun x y => decide (x ≤ y)
theorem srt_perm (l : List Int) : (srt l).Perm l := List.mergeSort_perm _ _
theorem srt_le (l : List Int) : (srt l).Pairwise (· ≤ ·) := by
  have h := List.pairwise_mergeSort (le := fun x y : Int => decide (x ≤ y)) (by intro a b c; simp only [decide_eq_true_eq]; omega) (by intro a b; simp only [Bool.or_eq_true, decide_eq_true_eq]; omega) l
  exact h.imp fun h => by simpa using h
theorem srt_len (l : List Int) : (srt l).length = l.length := (srt_perm l).length_eq
theorem srt_mem {l : List Int} {x : Int} : x ∈ srt l ↔ x ∈ l := (srt_perm l).mem_iff
theorem srt_of_perm {l k : List Int} (h : l.Perm k) : srt l = srt k :=
  List.Perm.eq_of_pairwise (fun a b _ _ h1 h2 => by omega) (srt_le l) (srt_le k) ((srt_perm l).trans (h.trans (srt_perm k).symm))
theorem srt_lt {l : List Int} (h : l.Nodup) : (srt l).Pairwise (· < ·) := by
  have h1 := srt_le l
  have h2 : (srt l).Nodup := (srt_perm l).nodup_iff.2 h
  rw [List.pairwise_iff_getElem] at *
  intro i j hi hj hij
  have := h1 i j hi hj hij
  have := List.pairwise_iff_getElem.1 h2 i j hi hj hij
  omega
def okL (l : List Int) : Prop := (∀ x ∈ l, 1 ≤ x ∧ x < 32768) ∧ l.Nodup
instance (l : List Int) : Decidable (okL l) := by unfold okL; infer_instance
theorem okL_perm {l k : List Int} (h : l.Perm k) : okL l ↔ okL k := by
  unfold okL
  rw [h.nodup_iff]
  constructor <;> (rintro ⟨h1, h2⟩; refine ⟨fun x hx => h1 x ?_, h2⟩)
  · exact h.mem_iff.2 hx
  · exact h.mem_iff.1 hx
/-- the test over the sorted list -/
theorem okL_sorted {s : List Int} (hs : s.Pairwise (· ≤ ·)) : okL s ↔ ((∀ (h : 0 < s.length), 1 ≤ s[0] ∧ s[s.length - 1] < 32768) ∧ ∀ i (h : i + 1 < s.length), s[i] ≠ s[i + 1]) := by
  have hle := List.pairwise_iff_getElem.1 hs
  constructor
  · rintro ⟨h1, h2⟩
    refine ⟨fun h => ⟨(h1 _ (List.getElem_mem _)).1, (h1 _ (List.getElem_mem _)).2⟩, fun i h => ?_⟩
    exact List.pairwise_iff_getElem.1 h2 i (i + 1) (by omega) h (by omega)
  · rintro ⟨h1, h2⟩
    refine ⟨fun x hx => ?_, ?_⟩
    · obtain ⟨i, hi, rfl⟩ := List.mem_iff_getElem.1 hx
      obtain ⟨h3, h4⟩ := h1 (by omega)
      have a1 : s[0] ≤ s[i] := by
        rcases Nat.eq_zero_or_pos i with h | h
        · subst h; omega
        · exact hle 0 i (by omega) hi h
      have a2 : s[i] ≤ s[s.length - 1] := by
        rcases Nat.lt_or_ge i (s.length - 1) with h | h
        · exact hle i _ hi (by omega) h
        · have : i = s.length - 1 := by omega
          subst this; omega
      omega
    · rw [List.nodup_iff_pairwise_ne, List.pairwise_iff_getElem]
      intro i j hi hj hij
      have a1 := h2 i (by omega)
      have a2 := hle i (i + 1) hi (by omega) (by omega)
      have a3 : s[i + 1] ≤ s[j] := by
        rcases Nat.lt_or_ge (i + 1) j with h | h
        · exact hle (i + 1) j (by omega) hj h
        · have : i + 1 = j := by omega
          subst this; omega
      omega
/-! the reference -/
def rank (l : List Int) (x : Int) : Nat := (l.filter fun y => decide (y / 4096 = x / 4096 ∧ y < x)).length
def region (l : List Int) (d : Int) (n : Nat) : List Int := (List.range 4).flatMap fun j => l.filter fun x => decide (x / 4096 = d ∧ rank l x = 4 * n + j)
theorem lt_take {t : List Int} (ht : t.Pairwise (· < ·)) {i : Nat} (hi : i < t.length) : (t.filter fun y => decide (y < t[i])).length = i := by
  have hp := List.pairwise_iff_getElem.1 ht
  have h : t.filter (fun y => decide (y < t[i])) = t.take i := by
    have hz : ∀ j (hj : j < t.length), (j < i → t[j] < t[i]) ∧ (i ≤ j → ¬ t[j] < t[i]) := fun j hj => by
      refine ⟨fun h => hp j i hj hi h, fun h => ?_⟩
      rcases Nat.eq_or_lt_of_le h with h | h
      · subst h; omega
      · have := hp i j hi hj h; omega
    generalize t[i] = z at hz
    have e : t = t.take i ++ t.drop i := (List.take_append_drop i t).symm
    conv => lhs; rw [e]
    rw [List.filter_append]
    have e1 : (t.take i).filter (fun y => decide (y < z)) = t.take i := by
      rw [List.filter_eq_self]
      intro y hy
      obtain ⟨j, hj, rfl⟩ := List.mem_iff_getElem.1 hy
      rw [List.length_take] at hj
      rw [List.getElem_take]
      simpa using (hz j (by omega)).1 (by omega)
    have e2 : (t.drop i).filter (fun y => decide (y < z)) = [] := by
      rw [List.filter_eq_nil_iff]
      intro y hy
      obtain ⟨j, hj, rfl⟩ := List.mem_iff_getElem.1 hy
      rw [List.length_drop] at hj
      rw [List.getElem_drop]
      simpa using (hz (i + j) (by omega)).2 (by omega)
    rw [e1, e2, List.append_nil]
  rw [h, List.length_take]
  omega
theorem dv_srt_perm (l : List Int) (d : Nat) : (dv d (srt l)).Perm (dv d l) := (srt_perm l).filter _
theorem dv_lt {l : List Int} (h : l.Nodup) (d : Nat) : (dv d (srt l)).Pairwise (· < ·) := (srt_lt h).filter _
theorem rank_at {l : List Int} (h : l.Nodup) (d : Nat) {i : Nat} (hi : i < (dv d (srt l)).length) : rank l (dv d (srt l))[i] = i := by
  have hd : (dv d (srt l))[i] / 4096 = (d : Int) := of_decide_eq_true (List.mem_filter.1 (show (dv d (srt l))[i] ∈ (srt l).filter _ from List.getElem_mem hi)).2
  unfold rank
  rw [hd]
  have e : (l.filter fun y => decide (y / 4096 = (d : Int) ∧ y < (dv d (srt l))[i])) = (dv d l).filter fun y => decide (y < (dv d (srt l))[i]) := by
    unfold dv
    rw [List.filter_filter]
    apply List.filter_congr
    intro y _
    rw [Bool.decide_and, Bool.and_comm]
  rw [e, ((dv_srt_perm l d).symm.filter _).length_eq]
  exact lt_take (dv_lt h d) hi
theorem filter_one {l : List Int} (h : l.Nodup) {p : Int → Bool} {a : Int} (ha : a ∈ l) (hp : ∀ x ∈ l, p x = true ↔ x = a) : l.filter p = [a] := by
  have h1 : l.filter p = l.filter (fun x => decide (x = a)) := List.filter_congr fun x hx => by
    have := hp x hx
    cases hpx : p x with
    | true => rw [hpx] at this; simp [this.1 rfl]
    | false => rw [hpx] at this; simp; intro e; have := this.2 e; cases this
  rw [h1]
  have h2 : (l.filter fun x => decide (x = a)) = List.replicate (l.count a) a := by
    rw [← List.filter_beq]
    rfl
  rw [h2, h.count, if_pos ha]
  rfl
theorem region_at {l : List Int} (h : l.Nodup) (d : Nat) (r : Nat) : (l.filter fun x => decide (x / 4096 = (d : Int) ∧ rank l x = r)) = match (dv d (srt l))[r]? with | some a => [a] | none => [] := by
  have hkey : ∀ x ∈ l, x / 4096 = (d : Int) → ∃ (i : Nat) (hi : i < (dv d (srt l)).length), (dv d (srt l))[i] = x := fun x hx hd => by
    have : x ∈ dv d (srt l) := List.mem_filter.2 ⟨srt_mem.2 hx, by simpa using hd⟩
    exact List.mem_iff_getElem.1 this
  cases hr : (dv d (srt l))[r]? with
  | none =>
    rw [List.filter_eq_nil_iff]
    intro x hx
    simp only [decide_eq_true_eq]
    rintro ⟨h1, h2⟩
    obtain ⟨i, hi, rfl⟩ := hkey x hx h1
    rw [rank_at h d hi] at h2
    subst h2
    rw [List.getElem?_eq_getElem hi] at hr
    cases hr
  | some a =>
    obtain ⟨hi, e⟩ := List.getElem?_eq_some_iff.1 hr
    have hm : a ∈ dv d (srt l) := by rw [← e]; exact List.getElem_mem _
    have hm2 := List.mem_filter.1 hm
    refine filter_one h (srt_mem.1 hm2.1) fun x hx => ?_
    simp only [decide_eq_true_eq]
    constructor
    · rintro ⟨h1, h2⟩
      obtain ⟨j, hj, rfl⟩ := hkey x hx h1
      rw [rank_at h d hj] at h2
      subst h2
      exact e
    · rintro rfl
      refine ⟨by simpa using hm2.2, ?_⟩
      rw [← e]
      exact rank_at h d hi
theorem four_take (t : List Int) (n : Nat) : ((List.range 4).flatMap fun j => match t[4 * n + j]? with | some a => [a] | none => []) = (t.drop (4 * n)).take 4 := by
  have e : ∀ (u : List Int), ((List.range 4).flatMap fun j => match u[j]? with | some a => [a] | none => []) = u.take 4 := by
    intro u
    match u with
    | [] => rfl
    | [_] => rfl
    | [_, _] => rfl
    | [_, _, _] => rfl
    | _ :: _ :: _ :: _ :: _ => rfl
  rw [← e]
  simp only [List.getElem?_drop]
theorem region_eq {l : List Int} (h : l.Nodup) (d n : Nat) : region l (d : Int) n = ((dv d (srt l)).drop (4 * n)).take 4 := by
  unfold region
  rw [← four_take]
  congr 1
  funext j
  exact region_at h d _
end Pp
end Go.Proofs.Ytlldbcdcpjfloaa
