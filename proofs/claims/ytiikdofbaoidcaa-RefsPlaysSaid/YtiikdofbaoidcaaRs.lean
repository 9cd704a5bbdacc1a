import Derived.Test.YtiikdofbaoidcaaMq
namespace Go.Proofs.Ytiikdofbaoidcaa
namespace Rs
open Go Go.Proofs.Ytiikdofbaoidcaa.Hp Mp Mq
set_option maxRecDepth 10000
set_option linter.unusedVariables false
set_option linter.unusedSimpArgs false
abbrev Own := Two × Int
def omap (R : List Own) : List (Two × Value) := R.map fun x => (x.1, I x.2)
def bmap (Bs : List (Int × Nat)) : List (Int × Value) := Bs.map fun x => (x.1, .map (some x.2))
def imap (is : List Two) : List (Two × Value) := is.map fun o => (o, I 1)
def ofL (R : List Own) (o : Two) : Int := match R.find? (fun x => decide (x.1 = o)) with
  | some x => x.2
  | none => 0
def rmL (R : List Own) (o : Two) : List Own := R.filter fun x => !decide (x.1 = o)
theorem find_map {α β γ : Type} (f : α → β × γ) (p : β × γ → Bool) : ∀ l : List α, (l.map f).find? p = (l.find? fun x => p (f x)).map f
  | [] => rfl
  | x :: l => by
    rw [List.map_cons]
    cases h : p (f x) with
    | true => rw [List.find?_cons_of_pos h, List.find?_cons_of_pos (by simpa using h)]; rfl
    | false => rw [List.find?_cons_of_neg (by simp [h]), List.find?_cons_of_neg (by simp [h])]; exact find_map f p l
theorem lkv_of (R : List Own) (o : Two) : lkv false (I 0) (mget (omap R) o) = I (ofL R o) := by
  unfold lkv mget omap ofL
  rw [find_map]
  cases R.find? (fun x => decide (x.1 = o)) <;> rfl
theorem lkv_of2 (R : List Own) (o : Two) : lkv true (I 0) (mget (omap R) o) = .tuple #[I (ofL R o), .bool (R.find? fun x => decide (x.1 = o)).isSome] := by
  unfold lkv mget omap ofL
  rw [find_map]
  cases R.find? (fun x => decide (x.1 = o)) <;> rfl
theorem filter_map_fst {α β γ : Type} [DecidableEq β] (f : α → β × γ) (g : α → β) (hg : ∀ x, (f x).1 = g x) (o : β) (l : List α) : (l.map f).filter (fun x => !decide (x.1 = o)) = (l.filter fun x => !decide (g x = o)).map f := by
  rw [List.filter_map]
  congr 2
  funext x
  simp [Function.comp, hg]
theorem mdel_of (R : List Own) (o : Two) : mdel (omap R) o = omap (rmL R o) := filter_map_fst (fun x : Own => (x.1, I x.2)) (·.1) (fun _ => rfl) o R
theorem mput_of (R : List Own) (o : Two) (a : Int) : mput (omap R) o (I a) = omap ((o, a) :: rmL R o) := by
  unfold mput
  rw [show (omap R).filter (fun x => !decide (x.1 = o)) = omap (rmL R o) from mdel_of R o]
  rfl
theorem ofL_mem {R : List Own} {o : Two} (h : ofL R o ≠ 0) : (o, ofL R o) ∈ R := by
  unfold ofL at h ⊢
  cases hf : R.find? (fun x => decide (x.1 = o)) with
  | none => simp [hf] at h
  | some x =>
    have h1 := List.find?_some hf
    have h2 := List.mem_of_find?_eq_some hf
    simp only [decide_eq_true_eq] at h1
    simp only
    rw [← h1]
    exact h2
theorem ofL_eq {R : List Own} (hn : (R.map (·.1)).Nodup) {o : Two} {a : Int} (h : (o, a) ∈ R) : ofL R o = a := by
  have h1 := mget_some (D := omap R) (a := o) (v := I a) (by unfold omap; rw [List.map_map]; exact hn) (List.mem_map.2 ⟨_, h, rfl⟩)
  have h2 := lkv_of R o
  rw [h1] at h2
  simp only [lkv, Bool.false_eq_true, if_false, Option.getD_some] at h2
  injection h2 with _ h3
  exact h3.symm
theorem ofL_none {R : List Own} {o : Two} (h : ∀ a, (o, a) ∉ R) : ofL R o = 0 := by
  unfold ofL
  rw [List.find?_eq_none.2 fun x hx => by simp only [decide_eq_true_eq]; intro e; exact h x.2 (by rw [← e]; exact hx)]
theorem rm_mem {R : List Own} {o : Two} {x : Own} : x ∈ rmL R o ↔ x ∈ R ∧ x.1 ≠ o := by unfold rmL; rw [List.mem_filter]; simp
theorem rm_nodup {R : List Own} (h : (R.map (·.1)).Nodup) (o : Two) : ((rmL R o).map (·.1)).Nodup := h.sublist ((List.filter_sublist).map _)
theorem rm_none {R : List Own} {o : Two} (h : ∀ a, (o, a) ∉ R) : rmL R o = R := List.filter_eq_self.2 fun x hx => by
  simp only [Bool.not_eq_true', decide_eq_false_iff_not]
  intro e
  exact h x.2 (by rw [← e]; exact hx)
theorem add_nodup {R : List Own} {o : Two} {a : Int} (h : (R.map (·.1)).Nodup) (hn : ∀ a, (o, a) ∉ R) : (((o, a) :: R).map (·.1)).Nodup := by
  rw [List.map_cons, List.nodup_cons]
  refine ⟨fun hm => ?_, h⟩
  obtain ⟨x, hx, e⟩ := List.mem_map.1 hm
  exact hn x.2 (by rw [← show x.1 = o from e]; exact hx)
theorem rm_off (R : List Own) (o : Two) : ∀ a, (o, a) ∉ rmL R o := fun a h => (rm_mem.1 h).2 rfl
/-- the map from addresses to owners fits the one from owners to addresses -/
structure By (R : List Own) (Bs : List (Int × Nat)) (Is : List (List Two)) : Prop where
  len : Bs.length = Is.length
  nd : (Bs.map (·.1)).Nodup
  nod : ∀ (i : Nat) (is : List Two), Is[i]? = some is → is.Nodup ∧ is ≠ []
  mem : ∀ (i : Nat) (a : Int) (k : Nat) (is : List Two), Bs[i]? = some (a, k) → Is[i]? = some is → ∀ o, o ∈ is ↔ (o, a) ∈ R
  all : ∀ (o : Two) (a : Int), (o, a) ∈ R → ∃ (i k : Nat), Bs[i]? = some (a, k)
theorem By.at_ {R : List Own} {Bs : List (Int × Nat)} {Is : List (List Two)} (h : By R Bs Is) {o : Two} {a : Int} (hm : (o, a) ∈ R) : ∃ (i k : Nat) (is : List Two), Bs[i]? = some (a, k) ∧ Is[i]? = some is ∧ o ∈ is := by
  obtain ⟨i, k, hi⟩ := h.all o a hm
  have hl : i < Is.length := by have := (List.getElem?_eq_some_iff.1 hi).1; have := h.len; omega
  exact ⟨i, k, Is[i], hi, List.getElem?_eq_getElem hl, (h.mem i a k _ hi (List.getElem?_eq_getElem hl) o).2 hm⟩
theorem By.get {R : List Own} {Bs : List (Int × Nat)} {Is : List (List Two)} (h : By R Bs Is) {i k : Nat} {a : Int} (hi : Bs[i]? = some (a, k)) : mget (bmap Bs) a = some (.map (some k)) :=
  mget_some (by unfold bmap; rw [List.map_map]; exact h.nd) (List.mem_map.2 ⟨_, List.mem_of_getElem? hi, rfl⟩)
theorem By.miss {R : List Own} {Bs : List (Int × Nat)} {Is : List (List Two)} (h : By R Bs Is) {a : Int} (hn : ∀ o, (o, a) ∉ R) : mget (bmap Bs) a = none := by
  refine mget_none fun x hx e => ?_
  obtain ⟨y, hy, rfl⟩ := List.mem_map.1 hx
  obtain ⟨i, hi⟩ := List.getElem?_of_mem hy
  have hl : i < Is.length := by have := (List.getElem?_eq_some_iff.1 hi).1; have := h.len; omega
  obtain ⟨_, hne⟩ := h.nod i _ (List.getElem?_eq_getElem hl)
  obtain ⟨o, ho⟩ := List.exists_mem_of_ne_nil _ hne
  have e : y.1 = a := e
  exact hn o ((h.mem i a y.2 _ (by rw [← e]; exact hi) (List.getElem?_eq_getElem hl) o).1 ho)
theorem nd_idx {Bs : List (Int × Nat)} (h : (Bs.map (·.1)).Nodup) {i j : Nat} {a : Int} {k k' : Nat} (hi : Bs[i]? = some (a, k)) (hj : Bs[j]? = some (a, k')) : i = j := by
  have h1 : (Bs.map (·.1))[i]? = some a := by rw [List.getElem?_map, hi]; rfl
  have h2 : (Bs.map (·.1))[j]? = some a := by rw [List.getElem?_map, hj]; rfl
  exact (List.getElem?_inj (List.getElem?_eq_some_iff.1 h1).1 h).1 (h1.trans h2.symm)
def offI (is : List Two) (o : Two) : List Two := is.filter fun x => !decide (x = o)
theorem mdel_i (is : List Two) (o : Two) : mdel (imap is) o = imap (offI is o) := filter_map_fst (fun o : Two => (o, I 1)) (fun x => x) (fun _ => rfl) o is
theorem mem_offI {is : List Two} {o x : Two} : x ∈ offI is o ↔ x ∈ is ∧ x ≠ o := by unfold offI; rw [List.mem_filter]; simp
theorem mput_i {is : List Two} {o : Two} (h : o ∉ is) : mput (imap is) o (I 1) = imap (o :: is) := by
  unfold mput
  rw [show (imap is).filter (fun x => !decide (x.1 = o)) = imap (offI is o) from mdel_i is o]
  have : offI is o = is := List.filter_eq_self.2 fun x hx => by simp only [Bool.not_eq_true', decide_eq_false_iff_not]; intro e; rw [e] at hx; exact h hx
  rw [this]
  rfl
theorem mdel_b {Bs : List (Int × Nat)} (h : (Bs.map (·.1)).Nodup) {i k : Nat} {a : Int} (hi : Bs[i]? = some (a, k)) : mdel (bmap Bs) a = bmap (Bs.eraseIdx i) := by
  unfold mdel bmap
  rw [filter_map_fst (fun x : Int × Nat => (x.1, Value.map (some x.2))) (·.1) (fun _ => rfl) a Bs]
  congr 1
  refine ChangeMaps.filter_eq_eraseIdx (fun x : Int × Nat => decide (x.1 = a)) Bs i _ hi (by simp) ?_
  rw [List.Nodup, List.pairwise_map] at h
  refine h.imp ?_
  intro p q hne ⟨h1, h2⟩
  simp only [decide_eq_true_eq] at h1 h2
  exact hne (h1.trans h2.symm)
theorem mput_b {Bs : List (Int × Nat)} {a : Int} {k : Nat} (h : mget (bmap Bs) a = none) : mput (bmap Bs) a (.map (some k)) = bmap ((a, k) :: Bs) := by
  have : (bmap Bs).filter (fun x => !decide (x.1 = a)) = bmap Bs := List.filter_eq_self.2 fun x hx => by
    unfold mget at h
    rw [Option.map_eq_none_iff, List.find?_eq_none] at h
    simpa using h x hx
  unfold mput
  rw [this]
  rfl
theorem by_keep {R : List Own} {Bs : List (Int × Nat)} {Is : List (List Two)} (h : By R Bs Is) (hR : (R.map (·.1)).Nodup) {o : Two} {a : Int} (hm : (o, a) ∈ R) {i k : Nat} {is : List Two} (hi : Bs[i]? = some (a, k)) (hs : Is[i]? = some is) (hne : offI is o ≠ []) : By (rmL R o) Bs (Is.set i (offI is o)) := by
  have hil := (List.getElem?_eq_some_iff.1 hs).1
  refine ⟨by rw [List.length_set]; exact h.len, h.nd, fun j js hj => ?_, fun j a' k' js hj hjs o' => ?_, fun o' a' hm' => h.all o' a' (rm_mem.1 hm').1⟩
  · rw [List.getElem?_set] at hj
    split at hj
    · rename_i e
      subst e
      cases hj
      exact ⟨(h.nod i is hs).1.sublist List.filter_sublist, hne⟩
    · exact h.nod j js hj
  · rw [List.getElem?_set] at hjs
    split at hjs
    · rename_i e
      subst e
      cases hjs
      rw [hi] at hj
      cases hj
      rw [mem_offI, rm_mem, h.mem i a k is hi hs o']
    · rename_i hij
      rw [rm_mem, h.mem j a' k' js hj hjs o']
      refine ⟨fun h1 => ⟨h1, fun e => ?_⟩, fun h1 => h1.1⟩
      have e : o' = o := e
      subst e
      have e2 : a' = a := (ofL_eq hR h1).symm.trans (ofL_eq hR hm)
      subst e2
      exact hij (nd_idx h.nd hi hj)
theorem by_drop {R : List Own} {Bs : List (Int × Nat)} {Is : List (List Two)} (h : By R Bs Is) (hR : (R.map (·.1)).Nodup) {o : Two} {a : Int} (hm : (o, a) ∈ R) {i k : Nat} {is : List Two} (hi : Bs[i]? = some (a, k)) (hs : Is[i]? = some is) (hne : offI is o = []) : By (rmL R o) (Bs.eraseIdx i) (Is.eraseIdx i) := by
  have hil := (List.getElem?_eq_some_iff.1 hs).1
  have hib := (List.getElem?_eq_some_iff.1 hi).1
  have old : ∀ j : Nat, ∃ j' : Nat, j' ≠ i ∧ (Bs.eraseIdx i)[j]? = Bs[j']? ∧ (Is.eraseIdx i)[j]? = Is[j']? := fun j => by
    rw [List.getElem?_eraseIdx, List.getElem?_eraseIdx]
    by_cases hji : j < i
    · exact ⟨j, by omega, by rw [if_pos hji], by rw [if_pos hji]⟩
    · exact ⟨j + 1, by omega, by rw [if_neg hji], by rw [if_neg hji]⟩
  refine ⟨by rw [List.length_eraseIdx, List.length_eraseIdx, if_pos hil, if_pos hib, h.len], h.nd.sublist ((List.eraseIdx_sublist _ _).map _), fun j js hj => ?_, fun j a' k' js hj hjs o' => ?_, fun o' a' hm' => ?_⟩
  · obtain ⟨j', _, _, e2⟩ := old j
    exact h.nod j' js (e2 ▸ hj)
  · obtain ⟨j', hne', e1, e2⟩ := old j
    rw [e1] at hj
    rw [e2] at hjs
    rw [rm_mem, h.mem j' a' k' js hj hjs o']
    refine ⟨fun h1 => ⟨h1, fun e => ?_⟩, fun h1 => h1.1⟩
    have e : o' = o := e
    subst e
    have e2 : a' = a := (ofL_eq hR h1).symm.trans (ofL_eq hR hm)
    subst e2
    exact hne' (nd_idx h.nd hj hi)
  · obtain ⟨h1, h2⟩ := rm_mem.1 hm'
    have h2 : o' ≠ o := h2
    obtain ⟨j, k', hj⟩ := h.all o' a' h1
    have hji : j ≠ i := fun e => by
      rw [e, hi] at hj
      cases hj
      have := mem_offI.2 ⟨(h.mem i a k is hi hs o').2 h1, h2⟩
      rw [hne] at this
      cases this
    by_cases hlt : j < i
    · exact ⟨j, k', by rw [List.getElem?_eraseIdx, if_pos hlt]; exact hj⟩
    · exact ⟨j - 1, k', by rw [List.getElem?_eraseIdx, if_neg (by omega), show j - 1 + 1 = j by omega]; exact hj⟩
theorem by_add {R : List Own} {Bs : List (Int × Nat)} {Is : List (List Two)} (h : By R Bs Is) {o : Two} {a : Int} (hn : ∀ a, (o, a) ∉ R) {i k : Nat} {is : List Two} (hi : Bs[i]? = some (a, k)) (hs : Is[i]? = some is) : By ((o, a) :: R) Bs (Is.set i (o :: is)) := by
  have hil := (List.getElem?_eq_some_iff.1 hs).1
  have hno : o ∉ is := fun ho => hn a ((h.mem i a k is hi hs o).1 ho)
  refine ⟨by rw [List.length_set]; exact h.len, h.nd, fun j js hj => ?_, fun j a' k' js hj hjs o' => ?_, fun o' a' hm' => ?_⟩
  · rw [List.getElem?_set] at hj
    split at hj
    · rename_i e
      subst e
      cases hj
      exact ⟨List.nodup_cons.2 ⟨hno, (h.nod i is hs).1⟩, by simp⟩
    · exact h.nod j js hj
  · rw [List.getElem?_set] at hjs
    split at hjs
    · rename_i e
      subst e
      cases hjs
      rw [hi] at hj
      cases hj
      rw [List.mem_cons, List.mem_cons, h.mem i a k is hi hs o']
      simp
    · rename_i hij
      rw [List.mem_cons, h.mem j a' k' js hj hjs o']
      refine ⟨.inr, fun h1 => h1.resolve_left fun e => ?_⟩
      cases e
      exact hij (nd_idx h.nd hi hj)
  · rcases List.mem_cons.1 hm' with e | hm'
    · cases e; exact ⟨i, k, hi⟩
    · exact h.all o' a' hm'
theorem by_new {R : List Own} {Bs : List (Int × Nat)} {Is : List (List Two)} (h : By R Bs Is) {o : Two} {a : Int} (hn : ∀ a, (o, a) ∉ R) (hb : mget (bmap Bs) a = none) (k : Nat) : By ((o, a) :: R) ((a, k) :: Bs) ([o] :: Is) := by
  have hna : a ∉ Bs.map (·.1) := fun hm => by
    obtain ⟨x, hx, e⟩ := List.mem_map.1 hm
    unfold mget at hb
    rw [Option.map_eq_none_iff, List.find?_eq_none] at hb
    exact hb (x.1, .map (some x.2)) (List.mem_map.2 ⟨x, hx, rfl⟩) (by simpa using e)
  refine ⟨by simp [h.len], by rw [List.map_cons, List.nodup_cons]; exact ⟨hna, h.nd⟩, fun j js hj => ?_, fun j a' k' js hj hjs o' => ?_, fun o' a' hm' => ?_⟩
  · rcases j with _ | j
    · simp at hj; subst hj; simp
    · exact h.nod j js (by simpa using hj)
  · rcases j with _ | j
    · simp only [List.getElem?_cons_zero, Option.some.injEq, Prod.mk.injEq] at hj hjs
      obtain ⟨rfl, rfl⟩ := hj
      subst hjs
      rw [List.mem_singleton, List.mem_cons]
      refine ⟨fun e => .inl (by rw [e]), fun h1 => (h1.elim (fun e => congrArg Prod.fst e) fun h2 => ?_)⟩
      obtain ⟨i, k2, hi⟩ := h.all o' a h2
      exact absurd (List.mem_map.2 ⟨_, List.mem_of_getElem? hi, rfl⟩) hna
    · simp only [List.getElem?_cons_succ] at hj hjs
      rw [List.mem_cons, h.mem j a' k' js hj hjs o']
      refine ⟨.inr, fun h1 => h1.resolve_left fun e => ?_⟩
      cases e
      exact hna (List.mem_map.2 ⟨_, List.mem_of_getElem? hj, rfl⟩)
  · rcases List.mem_cons.1 hm' with e | hm'
    · cases e; exact ⟨0, k, rfl⟩
    · obtain ⟨i, k', hi⟩ := h.all o' a' hm'
      exact ⟨i + 1, k', by simpa using hi⟩
theorem by_nil : By [] [] [] := ⟨rfl, by simp, fun _ _ h => by simp at h, fun _ _ _ _ h => by simp at h, fun _ _ h => by cases h⟩
end Rs
end Go.Proofs.Ytiikdofbaoidcaa
