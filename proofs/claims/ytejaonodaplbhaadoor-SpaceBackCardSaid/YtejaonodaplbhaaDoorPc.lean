import Derived.Test.YtejaonodaplbhaaDoorPb
namespace Go.Proofs.YtejaonodaplbhaaDoor
namespace Pc
open Go Go.Proofs.YtejaonodaplbhaaDoor.Hp Sp S2 S3 S4 S5 S6 S7 S8 S9 S10 S14 S15 Rb1 Rb2 Rb3 Rb4 Rb5 Rb6 Pb
set_option maxRecDepth 10000
set_option linter.unusedVariables false
set_option linter.unusedSimpArgs false
/-! ## counts -/
theorem cnt_take (l : List Bool) : ∀ m, ((List.range m).filter fun k => l[k]?.getD false).length = (l.take m).count true
  | 0 => by simp
  | m + 1 => by
    have ih := cnt_take l m
    rw [List.range_succ, List.filter_append, List.length_append, ih, List.take_add_one, List.count_append]
    congr 1
    cases h : l[m]? with
    | none => simp [h]
    | some b => cases b <;> simp [h]
theorem cnt_all {l : List Bool} {m : Nat} (h : l.length ≤ m) : ((List.range m).filter fun k => l[k]?.getD false).length = l.count true := by
  rw [cnt_take, List.take_of_length_le h]
theorem fil_or (p q : Nat → Bool) : ∀ l : List Nat, (∀ x ∈ l, p x = true → q x = false) → (l.filter fun x => p x || q x).length = (l.filter p).length + (l.filter q).length
  | [], _ => rfl
  | x :: l, h => by
    have ih := fil_or p q l fun y hy => h y (List.mem_cons_of_mem _ hy)
    have hx := h x (List.mem_cons_self ..)
    cases hp : p x with
    | true => simp [hp, hx hp, ih]; omega
    | false => cases hq : q x <;> simp [hp, hq, ih]; omega
theorem hw_zero {sh : Shl} {k : Nat} (h : hwS sh k ≠ 0) : sh.t[k]? = some true ∨ sh.g[k]? = some true := by
  unfold hwS at h
  split at h
  · exact .inl (by assumption)
  · split at h
    · exact .inr (by assumption)
    · exact absurd rfl h
theorem cls_eq {es : List Ent} {ss : List Shl} {ms : List Ent} (h : Rel es ss ms) (p : Int → Bool) (hp0 : p 0 = false) {n : Nat} {sh : Shl} (hs : ss[n]? = some sh) :
    (ms.filter fun m => decide (m.1 / 4096 = (n : Int)) && p m.2).length = ((List.range 4096).filter fun k => p (hwS sh k)).length := by
  have e1 : (ms.filter fun m => decide (m.1 / 4096 = (n : Int)) && p m.2).length = ((ms.filter fun m => decide (m.1 / 4096 = (n : Int)) && p m.2).map (·.1)).length := by simp
  have e2 : ((List.range 4096).filter fun k => p (hwS sh k)).length = (((List.range 4096).filter fun k => p (hwS sh k)).map fun k : Nat => (n : Int) * 4096 + k).length := by simp
  rw [e1, e2]
  apply List.Perm.length_eq
  rw [List.perm_ext_iff_of_nodup]
  · intro a
    rw [List.mem_map, List.mem_map]
    constructor
    · rintro ⟨m, hm, rfl⟩
      obtain ⟨h1, h2⟩ := List.mem_filter.1 hm
      simp only [Bool.and_eq_true, decide_eq_true_eq] at h2
      obtain ⟨⟨n', k⟩, hx⟩ := h.room m h1
      obtain ⟨h3, h4⟩ := room_addr hx
      have hn : n' = n := by omega
      subst hn
      refine ⟨k, List.mem_filter.2 ⟨List.mem_range.2 h4, ?_⟩, h3.symm⟩
      rw [← h.eq m.1 n' k sh hx hs, how_mem h.nod h1]
      exact h2.2
    · rintro ⟨k, hk, rfl⟩
      obtain ⟨h1, h2⟩ := List.mem_filter.1 hk
      have hne : hwS sh k ≠ 0 := fun e => by rw [e, hp0] at h2; cases h2
      have hr := h.bits n k sh hs (hw_zero hne)
      have he := h.eq _ n k sh hr hs
      obtain ⟨m, hm, h3, h4⟩ := mem_how (ms := ms) (a := (n : Int) * 4096 + k) (by rw [he]; exact hne)
      refine ⟨m, List.mem_filter.2 ⟨hm, ?_⟩, h3⟩
      have := List.mem_range.1 h1
      simp only [Bool.and_eq_true, decide_eq_true_eq]
      refine ⟨by rw [h3]; omega, ?_⟩
      rw [h4, he]; exact h2
  · exact h.nod.sublist ((List.filter_sublist).map _)
  · rw [List.nodup_iff_pairwise_ne, List.pairwise_map]
    refine List.Pairwise.imp ?_ (List.Pairwise.filter _ (List.nodup_iff_pairwise_ne.1 List.nodup_range))
    intro a b hab e
    exact hab (by omega)
theorem bit_get {l : List Bool} {k : Nat} : (l[k]?.getD false = true) ↔ l[k]? = some true := by
  cases l[k]? with
  | none => simp
  | some b => simp
theorem rel_len4 {es : List Ent} {ss : List Shl} {ms : List Ent} (h : Rel es ss ms) {n : Nat} {sh : Shl} (hs : ss[n]? = some sh) : ∃ e, es[n]? = some e ∧ okSh e.2 sh ∧ sh.t.length ≤ 4096 ∧ sh.g.length ≤ 4096 := by
  have hn : n < es.length := by have := (List.getElem?_eq_some_iff.1 hs).1; have := h.inv.len; omega
  have he : es[n]? = some es[n] := List.getElem?_eq_getElem hn
  have ho := h.inv.ok n _ _ he hs
  have hz := okR_size h.inv.right he
  have := ho.t
  have := ho.g
  exact ⟨_, he, ho, by omega, by omega⟩
theorem used_eq {es : List Ent} {ss : List Shl} {ms : List Ent} (h : Rel es ss ms) {n : Nat} {sh : Shl} (hs : ss[n]? = some sh) : usedL ms n = sh.used := by
  obtain ⟨e, he, ho, l1, l2⟩ := rel_len4 h hs
  have h1 := cls_eq h (fun x => decide (x ≠ 0)) (by simp) hs
  have h2 : (ms.filter fun m => decide (m.1 / 4096 = (n : Int)) && decide (m.2 ≠ 0)) = ms.filter fun m => decide (m.1 / 4096 = (n : Int)) := List.filter_congr fun m hm => by
    have := h.how m hm
    have : decide (m.2 ≠ 0) = true := decide_eq_true (by omega)
    rw [this, Bool.and_true]
  have h3 : ((List.range 4096).filter fun k => decide (hwS sh k ≠ 0)) = (List.range 4096).filter fun k => sh.t[k]?.getD false || sh.g[k]?.getD false := List.filter_congr fun k _ => by
    rw [Bool.eq_iff_iff, Bool.or_eq_true, bit_get, bit_get, decide_eq_true_eq]
    refine ⟨hw_zero, fun hb => ?_⟩
    unfold hwS
    rcases hb with hb | hb
    · rw [if_pos hb]; split <;> omega
    · split
      · split <;> omega
      · omega
  unfold usedL Shl.used
  rw [← h2, h1, h3, fil_or, cnt_all l1, cnt_all l2]
  intro k _ hk
  cases hg : sh.g[k]?.getD false with
  | false => rfl
  | true => exact absurd (bit_get.1 hg) (h.tg n k sh hs (bit_get.1 hk))
theorem gcD_eq {es : List Ent} {ss : List Shl} {ms : List Ent} (h : Rel es ss ms) {n : Nat} {sh : Shl} (hs : ss[n]? = some sh) :
    (ms.filter fun m => decide (m.1 / 4096 = (n : Int)) && decide (2 < m.2)).length = sh.g.count true := by
  obtain ⟨e, he, ho, l1, l2⟩ := rel_len4 h hs
  rw [cls_eq h (fun x => decide (2 < x)) (by simp) hs, ← cnt_all l2]
  congr 1
  apply List.filter_congr
  intro k _
  rw [Bool.eq_iff_iff, bit_get, decide_eq_true_eq]
  unfold hwS
  constructor
  · intro hb
    split at hb
    · split at hb <;> omega
    · split at hb
      · assumption
      · omega
  · intro hb
    have ht : ¬ sh.t[k]? = some true := fun ht => h.tg n k sh hs ht hb
    rw [if_neg ht, if_pos hb]
    omega
theorem split_sum (ms : List Ent) (N : Nat) (hN : ∀ m ∈ ms, 0 ≤ m.1 / 4096 ∧ m.1 / 4096 < N) : gcnt ms = ((List.range N).map fun n : Nat => (ms.filter fun m => decide (m.1 / 4096 = (n : Int)) && decide (2 < m.2)).length).sum := by
  induction ms with
  | nil =>
    simp only [gcnt, List.filter_nil, List.length_nil]
    have : ∀ l : List Nat, (l.map fun _ => 0).sum = 0 := fun l => by induction l with
      | nil => rfl
      | cons x l ih => simp [ih]
    rw [this]
  | cons m ms ih =>
    have ih := ih fun x hx => hN x (List.mem_cons_of_mem _ hx)
    have hm := hN m (List.mem_cons_self ..)
    obtain ⟨d, hd⟩ : ∃ d : Nat, m.1 / 4096 = (d : Int) := ⟨(m.1 / 4096).toNat, by omega⟩
    have key : ∀ N : Nat, ((List.range N).map fun n : Nat => ((m :: ms).filter fun m => decide (m.1 / 4096 = (n : Int)) && decide (2 < m.2)).length).sum =
        ((List.range N).map fun n : Nat => (ms.filter fun m => decide (m.1 / 4096 = (n : Int)) && decide (2 < m.2)).length).sum + (if d < N ∧ 2 < m.2 then 1 else 0) := by
      intro N
      induction N with
      | zero => simp
      | succ N ihN =>
        rw [List.range_succ, List.map_append, List.map_append, List.sum_append, List.sum_append, ihN]
        have e1 : ((m :: ms).filter fun m => decide (m.1 / 4096 = (N : Int)) && decide (2 < m.2)).length = (ms.filter fun m => decide (m.1 / 4096 = (N : Int)) && decide (2 < m.2)).length + (if d = N ∧ 2 < m.2 then 1 else 0) := by
          by_cases hc : d = N ∧ 2 < m.2
          · rw [if_pos hc, List.filter_cons_of_pos (by simp [hd, hc.1, hc.2])]; simp
          · rw [if_neg hc, List.filter_cons_of_neg (by simp only [hd, Bool.and_eq_true, decide_eq_true_eq]; intro hh; exact hc ⟨by omega, hh.2⟩)]; simp
        simp only [List.map_cons, List.map_nil, List.sum_cons, List.sum_nil, e1]
        by_cases h2 : 2 < m.2
        · rcases Nat.lt_trichotomy d N with hl | hl | hl
          · rw [if_pos ⟨hl, h2⟩, if_neg (by omega), if_pos ⟨by omega, h2⟩]; omega
          · rw [if_neg (by omega), if_pos ⟨hl, h2⟩, if_pos ⟨by omega, h2⟩]; omega
          · rw [if_neg (by omega), if_neg (by omega), if_neg (by omega)]; omega
        · rw [if_neg (by omega), if_neg (by omega), if_neg (by omega)]; omega
    rw [key, ← ih]
    unfold gcnt
    by_cases h2 : 2 < m.2
    · rw [List.filter_cons_of_pos (by simpa using h2), if_pos ⟨by omega, h2⟩]; simp
    · rw [List.filter_cons_of_neg (by simpa using h2), if_neg (by omega)]; rfl
theorem gcnt_eq {es : List Ent} {ss : List Shl} {ms : List Ent} (h : Rel es ss ms) : gcnt ms = gsum ss := by
  rw [split_sum ms ss.length ?_]
  · unfold gsum
    congr 1
    apply List.ext_getElem
    · simp
    · intro i h1 h2
      simp only [List.length_map, List.length_range] at h1
      simp only [List.getElem_map, List.getElem_range]
      exact gcD_eq h (List.getElem?_eq_getElem h1)
  · intro m hm
    obtain ⟨⟨n, k⟩, hx⟩ := h.room m hm
    obtain ⟨e, he, _, _, _, h1, h2⟩ := roomAt_some hx
    have := (List.getElem?_eq_some_iff.1 he).1
    have := h.inv.len
    omega
theorem free_eq {es : List Ent} {ss : List Shl} {ms : List Ent} (h : Rel es ss ms) {n : Nat} {e : Ent} (he : es[n]? = some e) : freeL es ms n = if e.1 = 1 then freeOf es ss n else 0 := by
  have hn : n < ss.length := by have := (List.getElem?_eq_some_iff.1 he).1; have := h.inv.len; omega
  have hs : ss[n]? = some ss[n] := List.getElem?_eq_getElem hn
  unfold freeL freeOf
  rw [he, hs]
  simp only
  rw [used_eq h hs]
theorem acts_take {es : List Ent} {i : Nat} {e : Ent} (he : es[i]? = some e) : idxs (fun e => e.1 == 1) 0 (es.take (i + 1)) = idxs (fun e => e.1 == 1) 0 (es.take i) ++ if e.1 = 1 then [(i : Int)] else [] := by
  have hi := (List.getElem?_eq_some_iff.1 he).1
  have e1 : es[i] = e := by rw [List.getElem?_eq_getElem hi] at he; exact Option.some.inj he
  rw [List.take_succ_eq_append_getElem hi, idxs_snoc, e1, List.length_take]
  by_cases h : e.1 = 1
  · simp [h]; omega
  · simp [h]
theorem sum_eq {es : List Ent} {ss : List Shl} {ms : List Ent} (h : Rel es ss ms) : freeSumL es ms es.length = sumF es ss (acts es) := by
  have : ∀ i, i ≤ es.length → freeSumL es ms i = sumF es ss (idxs (fun e => e.1 == 1) 0 (es.take i)) := by
    intro i
    induction i with
    | zero => intro _; rw [List.take_zero]; rfl
    | succ i ih =>
      intro hi
      have he : es[i]? = some es[i] := List.getElem?_eq_getElem (by omega)
      rw [freeSumL_next, ih (by omega), acts_take he, free_eq h he]
      by_cases h1 : es[i].1 = 1
      · rw [if_pos h1, if_pos h1, sumF_snoc, Int.toNat_natCast]
      · rw [if_neg h1, if_neg h1, List.append_nil, Int.add_zero]
  have := this es.length (Nat.le_refl _)
  rwa [List.take_length] at this
theorem best_eq {es : List Ent} {ss : List Shl} {ms : List Ent} (h : Rel es ss ms) : (bestL (freeL es ms) es.length = none ∧ (pickF (freeOf es ss) (acts es)).2 = 0) ∨
    (∃ n : Nat, bestL (freeL es ms) es.length = some n ∧ (pickF (freeOf es ss) (acts es)).1 = n ∧ 0 < (pickF (freeOf es ss) (acts es)).2) := by
  have : ∀ i, i ≤ es.length → (bestL (freeL es ms) i = none ∧ pickF (freeOf es ss) (idxs (fun e => e.1 == 1) 0 (es.take i)) = (0, 0)) ∨
      (∃ n : Nat, bestL (freeL es ms) i = some n ∧ pickF (freeOf es ss) (idxs (fun e => e.1 == 1) 0 (es.take i)) = ((n : Int), freeL es ms n) ∧ 0 < freeL es ms n) := by
    intro i
    induction i with
    | zero => intro _; exact .inl ⟨rfl, by rw [List.take_zero]; rfl⟩
    | succ i ih =>
      intro hi
      have he : es[i]? = some es[i] := List.getElem?_eq_getElem (by omega)
      have hf := free_eq h he
      rw [bestL_next, acts_take he]
      by_cases h1 : es[i].1 = 1
      · rw [if_pos h1] at hf
        rw [if_pos h1, pickF_snoc]
        rcases ih (by omega) with ⟨h2, h3⟩ | ⟨n, h2, h3, h4⟩
        · rw [h2, h3]
          simp only [bestS, pickS, Int.toNat_natCast]
          by_cases h5 : 0 < freeL es ms i
          · rw [if_pos h5, if_pos (by omega)]
            exact .inr ⟨i, rfl, by rw [hf], h5⟩
          · rw [if_neg h5, if_neg (by omega)]
            exact .inl ⟨rfl, rfl⟩
        · rw [h2, h3]
          simp only [bestS, pickS, Int.toNat_natCast]
          by_cases h5 : freeL es ms n < freeL es ms i
          · rw [if_pos ⟨by omega, h5⟩, if_pos (by omega)]
            exact .inr ⟨i, rfl, by rw [hf], by omega⟩
          · rw [if_neg (fun hc => h5 hc.2), if_neg (by omega)]
            exact .inr ⟨n, rfl, rfl, h4⟩
      · rw [if_neg h1] at hf
        rw [if_neg h1, List.append_nil]
        rcases ih (by omega) with ⟨h2, h3⟩ | ⟨n, h2, h3, h4⟩
        · rw [h2]
          simp only [bestS]
          rw [if_neg (by omega)]
          exact .inl ⟨rfl, h3⟩
        · rw [h2]
          simp only [bestS]
          rw [if_neg (by omega)]
          exact .inr ⟨n, rfl, h3, h4⟩
  have h9 := this es.length (Nat.le_refl _)
  rw [List.take_length] at h9
  rcases h9 with ⟨h2, h3⟩ | ⟨n, h2, h3, h4⟩
  · exact .inl ⟨h2, by rw [show acts es = idxs (fun e => e.1 == 1) 0 es from rfl, h3]⟩
  · exact .inr ⟨n, h2, by rw [show acts es = idxs (fun e => e.1 == 1) 0 es from rfl, h3], by rw [show acts es = idxs (fun e => e.1 == 1) 0 es from rfl, h3]; exact h4⟩
end Pc
end Go.Proofs.YtejaonodaplbhaaDoor
