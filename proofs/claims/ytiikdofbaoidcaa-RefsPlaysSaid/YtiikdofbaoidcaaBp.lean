import Derived.Test.YtiikdofbaoidcaaRc
import Derived.Test.YtiikdofbaoidcaaRx
import Derived.Test.YtiikdofbaoidcaaMv
namespace Go.Proofs.Ytiikdofbaoidcaa
namespace Bp
open Go Go.Proofs.Ytiikdofbaoidcaa.Hp Mp Mq Rs Rt Ru Rv _root_.Go.Proofs.Ytiikdofbaoidcaa.So Mv Rk Rw Rz Rx Rc
set_option maxRecDepth 10000
set_option linter.unusedVariables false
set_option linter.unusedSimpArgs false
theorem of_nn {R : List Own} (h : Okr R) (o : Two) : 0 ≤ ofL R o := by
  by_cases h0 : ofL R o = 0
  · omega
  · have := h.pos _ (ofL_mem h0)
    have : 0 < ofL R o := this
    omega
theorem mem_of {R : List Own} (h : Okr R) (x : Own) : x ∈ R ↔ x.2 ≠ 0 ∧ ofL R x.1 = x.2 := by
  constructor
  · intro hx
    have h1 := h.pos _ hx
    exact ⟨by omega, ofL_eq h.nd hx⟩
  · rintro ⟨h1, h2⟩
    have h3 := ofL_mem (R := R) (o := x.1) (by rw [h2]; exact h1)
    rw [h2] at h3
    exact h3
theorem lk_same {l R R' : List Own} (h : Lk l R) (h1 : Okr R) (h2 : Okr R') (he : ∀ o, ofL R' o = ofL R o) : Lk l R' := ⟨h.srt, fun x => by rw [h.mem, mem_of h1, mem_of h2, he]⟩
theorem of_none {W : List Own} {o : Two} (h : o ∉ W.map (·.1)) : ofL W o = 0 := ofL_none fun a ha => h (List.mem_map.2 ⟨_, ha, rfl⟩)
theorem of_put {R : List Own} (o : Two) {a : Int} (ha : 0 ≤ a) (o' : Two) : ofL (putL R o a) o' = if o' = o then a else ofL R o' := by
  unfold putL
  rw [if_neg (by omega), of_set]
/-- what was kept since Begin, where the map was R0 -/
structure Wk (W R0 R : List Own) : Prop where
  nd : (W.map (·.1)).Nodup
  pos : ∀ x ∈ W, 0 ≤ x.2
  on : ∀ o, o ∈ W.map (·.1) → ofL W o = ofL R0 o
  off : ∀ o, o ∉ W.map (·.1) → ofL R o = ofL R0 o
theorem wk_start (R : List Own) : Wk [] R R := ⟨by simp, fun x h => (by cases h), fun o h => (by cases h), fun o _ => rfl⟩
theorem find_on {W : List Own} {o : Two} : (W.find? fun x => decide (x.1 = o)).isSome = true ↔ o ∈ W.map (·.1) := by
  rw [List.find?_isSome, List.mem_map]
  constructor
  · rintro ⟨x, hx, h⟩
    exact ⟨x, hx, by simpa using h⟩
  · rintro ⟨x, hx, h⟩
    exact ⟨x, hx, by simpa using h⟩
theorem putW_len (W R : List Own) (o : Two) (a : Int) : (putW W R o a).length ≤ W.length + 1 := by
  have := rm_len W o
  unfold putW
  split
  · omega
  · split
    · omega
    · rw [List.length_cons]; omega
theorem wk_put {W R0 R : List Own} (h : Wk W R0 R) (hR : Okr R) (o : Two) (a : Int) : Wk (putW W R o a) R0 (putL R o a) := by
  by_cases ha : a < 0
  · rw [show putW W R o a = W from if_pos ha, show putL R o a = R from if_pos ha]
    exact h
  have ha : 0 ≤ a := by omega
  have hp := fun o' => of_put (R := R) o ha o'
  by_cases hk : o ∈ W.map (·.1)
  · have e : putW W R o a = W := by unfold putW; rw [if_neg (by omega), if_pos (find_on.2 hk)]
    rw [e]
    refine ⟨h.nd, h.pos, h.on, fun o' ho' => ?_⟩
    rw [hp, if_neg (fun e => ho' (by rw [e]; exact hk))]
    exact h.off o' ho'
  · have hrm : rmL W o = W := rm_none fun b hb => hk (List.mem_map.2 ⟨_, hb, rfl⟩)
    have e : putW W R o a = (o, ofL R o) :: W := by unfold putW; rw [if_neg (by omega), if_neg (fun hh => hk (find_on.1 hh)), hrm]
    rw [e]
    refine ⟨?_, fun x hx => ?_, fun o' ho' => ?_, fun o' ho' => ?_⟩
    · rw [List.map_cons, List.nodup_cons]
      exact ⟨hk, h.nd⟩
    · rcases List.mem_cons.1 hx with rfl | hx
      · exact of_nn hR o
      · exact h.pos x hx
    · rw [of_cons]
      by_cases h1 : o' = o
      · rw [if_pos h1, h1]
        exact h.off o hk
      · rw [if_neg h1]
        rw [List.map_cons] at ho'
        exact h.on o' ((List.mem_cons.1 ho').resolve_left h1)
    · rw [List.map_cons, List.mem_cons, not_or] at ho'
      rw [hp, if_neg ho'.1]
      exact h.off o' ho'.2
theorem wk_back {W R0 R R' : List Own} (h : Wk W R0 R) (hb : Bk W R (W.map (·.1)) R') (o : Two) : ofL R' o = ofL R0 o := by
  rw [hb.of o]
  split
  · rename_i h1
    exact h.on o h1
  · rename_i h1
    exact h.off o h1
/-- the keys of what changed, in order -/
theorem com_mem {W R : List Own} {S : List Two} {c : Chg} : c ∈ comL W R S ↔ (c.1 ∈ S ∧ ofL W c.1 ≠ ofL R c.1) ∧ c.2 = (ofL W c.1, ofL R c.1) := by
  unfold comL
  rw [List.mem_map]
  constructor
  · rintro ⟨o, ho, rfl⟩
    obtain ⟨h1, h2⟩ := List.mem_filter.1 ho
    exact ⟨⟨h1, by simpa using h2⟩, rfl⟩
  · rintro ⟨⟨h1, h2⟩, h3⟩
    exact ⟨c.1, List.mem_filter.2 ⟨h1, by simpa using h2⟩, by rw [← h3]⟩
theorem com_keys (W R : List Own) (S : List Two) : (comL W R S).map (·.1) = S.filter fun o => !decide (ofL W o = ofL R o) := by
  unfold comL
  rw [List.map_map]
  exact List.map_id' _
theorem com_nd {W R : List Own} {S : List Two} (h : S.Nodup) : ((comL W R S).map (·.1)).Nodup := by
  rw [com_keys]
  exact h.sublist List.filter_sublist
/-- the list behind the first changes -/
def wasF (l : List Own) (c : List Chg) : List Own := c.foldl (fun l x => putR l (x.1, x.2.2)) l
def mapF (R : List Own) (c : List Chg) : List Own := c.foldl (fun R x => putL R x.1 x.2.2) R
theorem wasF_take {l : List Own} {c : List Chg} {i : Nat} (hi : i < c.length) : wasF l (c.take (i + 1)) = putR (wasF l (c.take i)) (c[i].1, c[i].2.2) := by
  unfold wasF
  rw [List.take_succ_eq_append_getElem hi, List.foldl_append]
  rfl
theorem mapF_take {l : List Own} {c : List Chg} {i : Nat} (hi : i < c.length) : mapF l (c.take (i + 1)) = putL (mapF l (c.take i)) c[i].1 c[i].2.2 := by
  unfold mapF
  rw [List.take_succ_eq_append_getElem hi, List.foldl_append]
  rfl
theorem wasF_len : ∀ (c : List Chg) (l : List Own), (wasF l c).length ≤ l.length + c.length
  | [], l => by simp [wasF]
  | x :: c, l => by
    have h1 := wasF_len c (putR l (x.1, x.2.2))
    have h2 := putR_len l (x.1, x.2.2)
    rw [List.length_cons]
    have e : wasF l (x :: c) = wasF (putR l (x.1, x.2.2)) c := rfl
    rw [e]
    omega
/-- behind 'i' changes: the list and a map that fits it -/
structure Cm (R0 : List Own) (l : List Own) (c : List Chg) (i : Nat) : Prop where
  lk : Lk (wasF l (c.take i)) (mapF R0 (c.take i))
  ok : Okr (mapF R0 (c.take i))
  yes : ∀ (j : Nat) (hj : j < c.length), j < i → ofL (mapF R0 (c.take i)) c[j].1 = c[j].2.2
  no : ∀ o, o ∉ (c.take i).map (·.1) → ofL (mapF R0 (c.take i)) o = ofL R0 o
theorem cm_start {R0 l : List Own} (c : List Chg) (h : Lk l R0) (hk : Okr R0) : Cm R0 l c 0 := ⟨h, hk, fun j _ h => by omega, fun o _ => rfl⟩
theorem cm_off {c : List Chg} (hn : (c.map (·.1)).Nodup) {i : Nat} (hi : i < c.length) : c[i].1 ∉ (c.take i).map (·.1) := fun hm => by
  obtain ⟨x, hx, e⟩ := List.mem_map.1 hm
  obtain ⟨j, hj, e2⟩ := List.getElem_of_mem hx
  rw [List.length_take] at hj
  rw [List.getElem_take] at e2
  rw [List.Nodup, List.pairwise_map] at hn
  have := List.pairwise_iff_getElem.1 hn j i (by omega) hi (by omega)
  rw [e2] at this
  exact this e
theorem cm_step {R0 l : List Own} {c : List Chg} {i : Nat} (hn : (c.map (·.1)).Nodup) (hp : ∀ x ∈ c, 0 ≤ x.2.2) (h : Cm R0 l c i) (hi : i < c.length) : Cm R0 l c (i + 1) := by
  have ha := hp _ (List.getElem_mem hi)
  have hof := fun o' => of_put (R := mapF R0 (c.take i)) c[i].1 ha o'
  refine ⟨?_, ?_, fun j hj hji => ?_, fun o ho => ?_⟩
  · rw [wasF_take hi, mapF_take hi]
    exact lk_put h.lk (c[i].1, c[i].2.2) ha
  · rw [mapF_take hi]
    exact put_ok h.ok _ _
  · rw [mapF_take hi, hof]
    by_cases hj2 : j = i
    · subst hj2
      rw [if_pos rfl]
    · rw [if_neg fun e => ?_]
      · exact h.yes j hj (by omega)
      · rw [List.Nodup, List.pairwise_map] at hn
        exact List.pairwise_iff_getElem.1 hn j i hj hi (by omega) e
  · rw [List.take_succ_eq_append_getElem hi, List.map_append, List.mem_append, not_or] at ho
    rw [mapF_take hi, hof, if_neg (fun e => ho.2 (by rw [e]; simp))]
    exact h.no o ho.1
theorem cm_of {R0 l : List Own} {c : List Chg} {i : Nat} (hn : (c.map (·.1)).Nodup) (h : Cm R0 l c i) (hi : i < c.length) : ofL (wasF l (c.take i)) c[i].1 = ofL R0 c[i].1 := by
  rw [ofL_lk h.lk h.ok]
  exact h.no _ (cm_off hn hi)
/-- behind all changes the list is the map -/
theorem cm_end {W R0 R l m : List Own} {S : List Two} (hk : Wk W R0 R) (hS : ∀ o, o ∈ S ↔ o ∈ W.map (·.1)) (h : Cm R0 l (comL W R S) (comL W R S).length) (hm : Lk m R) (hR : Okr R) (o : Two) : ofL (wasF l (comL W R S)) o = ofL m o := by
  have hl := ofL_lk h.lk h.ok o
  have hno := h.no o
  have hy := h.yes
  rw [List.take_length] at hl hno hy
  rw [hl, ofL_lk hm hR o]
  by_cases hc : o ∈ (comL W R S).map (·.1)
  · obtain ⟨x, hx, rfl⟩ := List.mem_map.1 hc
    obtain ⟨j, hj, e⟩ := List.getElem_of_mem hx
    have h2 := hy j hj hj
    rw [e] at h2
    rw [h2, (com_mem.1 hx).2]
  · rw [hno hc]
    by_cases hw : o ∈ W.map (·.1)
    · rw [← hk.on o hw]
      refine Decidable.byContradiction fun hne => hc (List.mem_map.2 ⟨(o, ofL W o, ofL R o), com_mem.2 ⟨⟨(hS o).2 hw, hne⟩, rfl⟩, rfl⟩)
    · exact (hk.off o hw).symm
theorem chg_nil {was now : List Own} (h : ∀ o, ofL was o = ofL now o) : chgR was now = [] := by
  unfold chgR chgL
  rw [List.filter_eq_nil_iff.2 fun x _ => by simp [h x.1]]
  rfl
theorem com_from {W R0 R : List Own} {S : List Two} (hk : Wk W R0 R) (hS : ∀ o, o ∈ S ↔ o ∈ W.map (·.1)) {c : Chg} (hc : c ∈ comL W R S) : c.2.1 = ofL R0 c.1 ∧ c.2.2 = ofL R c.1 ∧ c.2.1 ≠ c.2.2 := by
  obtain ⟨⟨h1, h2⟩, h3⟩ := com_mem.1 hc
  rw [h3]
  exact ⟨hk.on _ ((hS _).1 h1), rfl, h2⟩
theorem lk_putN {l R : List Own} (h : Lk l R) (x : Own) : Lk (putN l x) (putL R x.1 x.2) := by
  by_cases hx : x.2 < 0
  · rw [show putN l x = l from if_pos hx, show putL R x.1 x.2 = R from if_pos hx]
    exact h
  · rw [show putN l x = putR l x from if_neg hx]
    exact lk_put h x (by omega)
theorem putN_len (l : List Own) (x : Own) : (putN l x).length ≤ l.length + 1 := by
  have := putR_len l x
  unfold putN
  split <;> omega
end Bp
end Go.Proofs.Ytiikdofbaoidcaa
