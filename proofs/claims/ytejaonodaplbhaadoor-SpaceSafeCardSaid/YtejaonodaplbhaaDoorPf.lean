import Derived.Test.YtejaonodaplbhaaDoorSp10
namespace Go.Proofs.YtejaonodaplbhaaDoor
namespace Pf
open Go Go.Proofs.YtejaonodaplbhaaDoor.Hp Sp S2 S3 S4 S5 S6 S7 S8 S9 S10
set_option maxRecDepth 10000
set_option linter.unusedVariables false
set_option linter.unusedSimpArgs false

theorem count_set {l : List Bool} : ∀ {k : Nat}, l[k]? = some false → (l.set k true).count true = l.count true + 1 := by
  induction l with
  | nil => intro k h; simp at h
  | cons b l ih =>
    intro k h
    cases k with
    | zero => simp at h; subst h; simp
    | succ k => simp at h; simp [List.count_cons, ih h]; omega
theorem idxs_ge {pr : Ent → Bool} {es : List Ent} {n : Nat} {d : Int} (h : d ∈ idxs pr n es) : (n : Int) ≤ d := by
  obtain ⟨i, e, _, h2, _⟩ := idxs_mem h
  omega
theorem idxs_nodup (pr : Ent → Bool) : ∀ (es : List Ent) (n : Nat), (idxs pr n es).Nodup
  | [], n => by simp [idxs]
  | e :: es, n => by
    simp only [idxs]
    cases pr e with
    | true =>
      simp only [if_true, List.singleton_append, List.nodup_cons]
      exact ⟨fun h => by have := idxs_ge h; omega, idxs_nodup pr es (n + 1)⟩
    | false => simpa using idxs_nodup pr es (n + 1)
theorem mem_acts {es : List Ent} {n : Nat} {e : Ent} (h : es[n]? = some e) (h1 : e.1 = 1) : (n : Int) ∈ acts es := by
  have key : ∀ (es : List Ent) (m n : Nat), es[n]? = some e → ((m + n : Nat) : Int) ∈ idxs (fun e => e.1 == 1) m es := by
    intro es
    induction es with
    | nil => intro m n h; simp at h
    | cons x es ih =>
      intro m n h
      cases n with
      | zero => simp at h; subst h; simp [idxs, h1]
      | succ n =>
        simp at h
        have := ih (m + 1) n h
        rw [show m + (n + 1) = m + 1 + n from by omega]
        exact List.mem_append_right _ this
  simpa using key es 0 n h
/-- one sector more is taken -/
abbrev tk (sh : Shl) (k : Nat) : Shl := ⟨sh.t.set k true, sh.f.set k true, sh.g⟩
theorem tk_used {sh : Shl} {k : Nat} (h : sh.t[k]? = some false) : (tk sh k).used = sh.used + 1 := by
  unfold Shl.used
  simp only [count_set h]
  omega
theorem freeOf_set {es : List Ent} {ss : List Shl} {n k : Nat} {sh : Shl} {e : Ent} (he : es[n]? = some e) (hs : ss[n]? = some sh) (hk : sh.t[k]? = some false) (m : Nat) :
    freeOf es (ss.set n (tk sh k)) m = if m = n then freeOf es ss m - 1 else freeOf es ss m := by
  have hn : n < ss.length := (List.getElem?_eq_some_iff.1 hs).1
  unfold freeOf
  by_cases h : m = n
  · subst h
    rw [if_pos rfl, he, hs, List.getElem?_set_self hn]
    simp only [tk_used hk]
    omega
  · rw [if_neg h, List.getElem?_set_ne (fun e => h e.symm)]
theorem sumF_set {es : List Ent} {ss : List Shl} {n k : Nat} {sh : Shl} {e : Ent} (he : es[n]? = some e) (hs : ss[n]? = some sh) (hk : sh.t[k]? = some false) :
    ∀ (l : List Int), l.Nodup → (∀ d ∈ l, 0 ≤ d) → sumF es (ss.set n (tk sh k)) l = sumF es ss l - if (n : Int) ∈ l then 1 else 0
  | [], _, _ => by simp [sumF]
  | d :: l, hnd, h0 => by
    rw [List.nodup_cons] at hnd
    have ih := sumF_set he hs hk l hnd.2 (fun x hx => h0 x (List.mem_cons_of_mem _ hx))
    have hd := h0 d (List.mem_cons_self ..)
    have e1 : ∀ s, sumF es s (d :: l) = freeOf es s d.toNat + sumF es s l := fun s => by simp [sumF]
    rw [e1, e1, ih, freeOf_set he hs hk]
    by_cases h : d = n
    · subst h
      rw [if_pos (by simp), if_neg hnd.1, if_pos (List.mem_cons_self ..)]
      omega
    · rw [if_neg (by omega)]
      by_cases h2 : (n : Int) ∈ l
      · rw [if_pos h2, if_pos (List.mem_cons_of_mem _ h2)]; omega
      · rw [if_neg h2, if_neg (by simp [h2]; omega)]; omega
theorem acts_nonneg {es : List Ent} : ∀ d ∈ acts es, 0 ≤ d := fun d hd => by
  obtain ⟨n, e, _, h, _⟩ := acts_mem hd
  omega
theorem inv_set {es : List Ent} {ss : List Shl} {n k : Nat} {sh : Shl} (hI : Inv es ss) (hs : ss[n]? = some sh) (t f g : List Bool) (ht : t.length = sh.t.length) (hf : f.length = sh.f.length) (hg : g.length = sh.g.length) : Inv es (ss.set n ⟨t, f, g⟩) := by
  have hn : n < ss.length := (List.getElem?_eq_some_iff.1 hs).1
  refine ⟨hI.right, by simpa using hI.len, fun i a s h1 h2 => ?_⟩
  by_cases e : n = i
  · subst e
    rw [List.getElem?_set_self hn] at h2
    cases h2
    have := hI.ok n a sh h1 hs
    exact ⟨by simp only [ht]; exact this.t, by simp only [hf]; exact this.f, by simp only [hg]; exact this.g⟩
  · rw [List.getElem?_set_ne e] at h2
    exact hI.ok i a s h1 h2
theorem sum_pos {es : List Ent} {ss : List Shl} : ∀ {l : List Int}, 0 < sumF es ss l → ∃ d ∈ l, 0 < freeOf es ss d.toNat
  | [], h => by simp [sumF] at h
  | d :: l, h => by
    have e1 : sumF es ss (d :: l) = freeOf es ss d.toNat + sumF es ss l := by simp [sumF]
    rw [e1] at h
    by_cases h1 : 0 < freeOf es ss d.toNat
    · exact ⟨d, List.mem_cons_self .., h1⟩
    · obtain ⟨x, hx, h2⟩ := sum_pos (es := es) (ss := ss) (l := l) (by omega)
      exact ⟨x, List.mem_cons_of_mem _ hx, h2⟩
theorem sum_zero {es : List Ent} {ss : List Shl} : ∀ {l : List Int}, (∀ d ∈ l, 0 ≤ freeOf es ss d.toNat) → 0 ≤ sumF es ss l ∧ (sumF es ss l = 0 → ∀ d ∈ l, freeOf es ss d.toNat = 0)
  | [], _ => by simp [sumF]
  | d :: l, h => by
    obtain ⟨h1, h2⟩ := sum_zero (l := l) (fun x hx => h x (List.mem_cons_of_mem _ hx))
    have h3 := h d (List.mem_cons_self ..)
    have e1 : sumF es ss (d :: l) = freeOf es ss d.toNat + sumF es ss l := by simp [sumF]
    rw [e1]
    refine ⟨by omega, fun hz x hx => ?_⟩
    rcases List.mem_cons.1 hx with rfl | hx
    · omega
    · exact h2 (by omega) x hx
/-- how far the law has come -/
structure Fl (es : List Ent) (tot : Int) (i : Nat) (ss : List Shl) (seen : List Bool) : Prop where
  inv : Inv es ss
  sum : sumF es ss (acts es) = tot - i
  pos : ∀ d ∈ acts es, 0 ≤ freeOf es ss d.toNat
  len : seen.length = 32768
  seen : ∀ a : Nat, seen[a]? = some true → ∃ (n k : Nat) (sh : Shl), a = n * 4096 + k ∧ k < 4096 ∧ ss[n]? = some sh ∧ sh.t[k]? = some true
theorem grown_used (z : Int) : (Shl.grow noSh z).used = 0 := by
  simp [Shl.grow, growL, noSh, Shl.used, List.count_replicate]
theorem start_free {es : List Ent} {n : Nat} {e : Ent} (he : es[n]? = some e) : freeOf es (turned [] es) n = e.2 - 2 := by
  unfold freeOf
  rw [he, turned_at [] es n e he]
  simp [grown_used]
theorem fl_start {es : List Ent} (hok : okR es = true) {m : Nat} (hm : m = 32768) : Fl es (sumF es (turned [] es) (acts es)) 0 (turned [] es) (List.replicate m false) := by
  refine ⟨inv_turned inv_nil (fit_nil es) hok, by simp, fun d hd => ?_, by rw [List.length_replicate, hm], fun a ha => ?_⟩
  · obtain ⟨n, e, hne, rfl, h1⟩ := acts_mem hd
    rw [Int.toNat_natCast, start_free hne]
    simp only [okR, Bool.and_eq_true, List.all_eq_true] at hok
    have := hok.2 e (List.mem_of_getElem? hne)
    unfold rightE at this
    rw [if_pos (.inl h1)] at this
    simp at this
    omega
  · rw [List.getElem?_replicate] at ha
    split at ha <;> cases ha
theorem fl_more {es : List Ent} {tot : Int} {i : Nat} {ss : List Shl} {seen : List Bool} (h : Fl es tot i ss seen) (hi : (i : Int) < tot) : (pickF (freeOf es ss) (acts es)).2 ≠ 0 := by
  obtain ⟨d, hd, h1⟩ := sum_pos (es := es) (ss := ss) (l := acts es) (by rw [h.sum]; omega)
  have := pickF_max (f := freeOf es ss) hd
  omega
theorem fl_end {es : List Ent} {tot : Int} {i : Nat} {ss : List Shl} {seen : List Bool} (h : Fl es tot i ss seen) (hi : ¬ (i : Int) < tot) (hit : (i : Int) ≤ tot ∨ i = 0) :
    sumF es ss (acts es) = 0 ∧ (pickF (freeOf es ss) (acts es)).2 = 0 := by
  obtain ⟨h1, h2⟩ := sum_zero h.pos
  have hs := h.sum
  have h0 : sumF es ss (acts es) = 0 := by omega
  refine ⟨h0, ?_⟩
  refine Classical.byContradiction fun hn => ?_
  obtain ⟨hm, hf, hp⟩ := pickF_pos hn
  have := h2 h0 _ hm
  omega
theorem fl_step {es : List Ent} {tot : Int} {i : Nat} {ss : List Shl} {seen : List Bool} (h : Fl es tot i ss seen) {n k : Nat} {sh : Shl} (hn : (pickF (freeOf es ss) (acts es)).1 = (n : Int)) (hp : 0 < (pickF (freeOf es ss) (acts es)).2)
    (hs : ss[n]? = some sh) (hf : IsFst sh.t sh.g k) : ∃ e, es[n]? = some e ∧ k < 4096 ∧ n < 8 ∧ seen[n * 4096 + k]? = some false ∧ Fl es tot (i + 1) (ss.set n (tk sh k)) (seen.set (n * 4096 + k) true) ∧
      ∀ (m : Nat) (x : Ent), es[m]? = some x → x.1 = 1 → freeOf es (ss.set n (tk sh k)) m ≤ freeOf es (ss.set n (tk sh k)) n + 1 := by
  obtain ⟨hm, hfr, _⟩ := pickF_pos (f := freeOf es ss) (l := acts es) (by omega)
  obtain ⟨n', e, hne, hn', h1⟩ := acts_mem hm
  obtain rfl : n' = n := by omega
  have h8 := okR_len h.inv.right
  have hnl : n' < es.length := (List.getElem?_eq_some_iff.1 hne).1
  have hz := okR_size h.inv.right hne
  have hok := h.inv.ok n' e sh hne hs
  have hk : k < 4096 := by have := hf.lt; have := hok.t; omega
  have hfk : k < sh.f.length := by have := hf.lt; have := hok.t; have := hok.f; omega
  have hnl2 : n' < ss.length := (List.getElem?_eq_some_iff.1 hs).1
  rw [hn'] at hfr
  rw [Int.toNat_natCast] at hfr
  have hsa : seen[n' * 4096 + k]? = some false := by
    have hl : n' * 4096 + k < seen.length := by rw [h.len]; omega
    cases hb : seen[n' * 4096 + k] with
    | false => rw [List.getElem?_eq_getElem hl, hb]
    | true =>
      obtain ⟨n2, k2, sh2, ha, hk2, hs2, ht2⟩ := h.seen _ (by rw [List.getElem?_eq_getElem hl, hb])
      obtain rfl : n2 = n' := by omega
      obtain rfl : k2 = k := by omega
      rw [hs] at hs2
      cases hs2
      rw [hf.offT] at ht2
      cases ht2
  refine ⟨e, hne, hk, by omega, hsa, ⟨inv_set (k := k) h.inv hs _ _ _ (by simp) (by simp) rfl, ?_, ?_, by simpa using h.len, ?_⟩, ?_⟩
  · rw [sumF_set hne hs hf.offT _ (idxs_nodup _ _ _) acts_nonneg, h.sum, if_pos (mem_acts hne h1)]
    omega
  · intro d hd
    rw [freeOf_set hne hs hf.offT]
    have := h.pos d hd
    split
    · rename_i hdn
      rw [hdn, hfr]; omega
    · exact this
  · intro a ha
    by_cases hax : n' * 4096 + k = a
    · subst hax
      refine ⟨n', k, tk sh k, rfl, hk, by rw [List.getElem?_set_self hnl2], ?_⟩
      exact List.getElem?_set_self hf.lt
    · rw [List.getElem?_set_ne hax] at ha
      obtain ⟨n2, k2, sh2, ha2, hk2, hs2, ht2⟩ := h.seen a ha
      by_cases hnn : n' = n2
      · subst hnn
        rw [hs] at hs2
        cases hs2
        refine ⟨n', k2, tk sh k, ha2, hk2, by rw [List.getElem?_set_self hnl2], ?_⟩
        have : k ≠ k2 := by omega
        rw [List.getElem?_set_ne this]
        exact ht2
      · exact ⟨n2, k2, sh2, ha2, hk2, by rw [List.getElem?_set_ne hnn]; exact hs2, ht2⟩
  · intro m x hx hx1
    rw [freeOf_set hne hs hf.offT, freeOf_set hne hs hf.offT, if_pos rfl]
    have := pickF_max (f := freeOf es ss) (mem_acts hx hx1)
    rw [Int.toNat_natCast] at this
    split
    · rename_i e; subst e; omega
    · omega
end Pf
end Go.Proofs.YtejaonodaplbhaaDoor
