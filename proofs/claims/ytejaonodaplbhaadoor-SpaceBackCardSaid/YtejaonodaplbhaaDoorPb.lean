import Derived.Test.YtejaonodaplbhaaDoorRb6
import Derived.Test.YtejaonodaplbhaaDoorSp15
import Derived.Test.YtejaonodaplbhaaDoorSp10
namespace Go.Proofs.YtejaonodaplbhaaDoor
namespace Pb
open Go Go.Proofs.YtejaonodaplbhaaDoor.Hp Sp S2 S3 S4 S5 S6 S7 S8 S9 S10 S14 S15 Rb1 Rb2 Rb3 Rb4 Rb5 Rb6
set_option maxRecDepth 10000
set_option linter.unusedVariables false
set_option linter.unusedSimpArgs false
/-! ## marks -/
theorem find_off {a b : Int} : ∀ ms : List Ent, (offL ms a).find? (fun m => m.1 == b) = if b = a then none else ms.find? (fun m => m.1 == b)
  | [] => by simp [offL]
  | m :: ms => by
    have ih := find_off (a := a) (b := b) ms
    unfold offL at ih ⊢
    by_cases h1 : m.1 = a
    · rw [List.filter_cons_of_neg (by simp [h1]), ih]
      by_cases h2 : b = a
      · simp [h2]
      · rw [if_neg h2, if_neg h2, List.find?_cons_of_neg (by simp; intro e; exact h2 (e.symm.trans h1))]
    · rw [List.filter_cons_of_pos (by simp [h1])]
      by_cases h3 : m.1 = b
      · have h2 : ¬ b = a := fun e => h1 (h3.trans e)
        rw [List.find?_cons_of_pos (by simp [h3]), if_neg h2, List.find?_cons_of_pos (by simp [h3])]
      · rw [List.find?_cons_of_neg (by simp [h3]), ih, List.find?_cons_of_neg (by simp [h3])]
theorem how_put {ms : List Ent} {a b h : Int} (hh : 0 ≤ h) : howL (putL ms a h) b = if b = a then h else howL ms b := by
  unfold howL putL
  by_cases h0 : 0 < h
  · rw [if_pos h0, List.find?_append, find_off]
    by_cases hb : b = a
    · subst hb; simp
    · rw [if_neg hb, if_neg hb]
      cases hf : ms.find? (fun m => m.1 == b) with
      | none =>
        have : ¬ a = b := fun e => hb e.symm
        simp [this]
      | some m => simp
  · have h00 : h = 0 := by omega
    subst h00
    rw [if_neg (by omega), find_off]
    by_cases hb : b = a
    · rw [if_pos hb, if_pos hb]
    · rw [if_neg hb, if_neg hb]
theorem mem_off {ms : List Ent} {a : Int} {m : Ent} : m ∈ offL ms a ↔ m ∈ ms ∧ m.1 ≠ a := by unfold offL; rw [List.mem_filter]; simp
theorem mem_put {ms : List Ent} {a h : Int} {m : Ent} : m ∈ putL ms a h ↔ (m ∈ ms ∧ m.1 ≠ a) ∨ (0 < h ∧ m = (a, h)) := by
  unfold putL
  by_cases h0 : 0 < h
  · rw [if_pos h0, List.mem_append, mem_off]; simp [h0]
  · rw [if_neg h0, mem_off]; simp [h0]
theorem off_nodup {ms : List Ent} (h : (ms.map (·.1)).Nodup) (a : Int) : ((offL ms a).map (·.1)).Nodup := h.sublist ((List.filter_sublist).map _)
theorem put_nodup {ms : List Ent} (h : (ms.map (·.1)).Nodup) (a k : Int) : ((putL ms a k).map (·.1)).Nodup := by
  unfold putL
  by_cases h0 : 0 < k
  · rw [if_pos h0, List.map_append, List.nodup_append]
    refine ⟨off_nodup h a, by simp, fun x hx y hy => ?_⟩
    obtain ⟨m, hm, rfl⟩ := List.mem_map.1 hx
    simp at hy
    subst hy
    exact (mem_off.1 hm).2
  · rw [if_neg h0]; exact off_nodup h a
theorem put_len (ms : List Ent) (a k : Int) : (putL ms a k).length ≤ ms.length + 1 := by
  have h1 : (offL ms a).length ≤ ms.length := List.length_filter_le ..
  unfold putL
  split
  · simp; omega
  · omega
theorem how_mem {ms : List Ent} (h : (ms.map (·.1)).Nodup) : ∀ {m : Ent}, m ∈ ms → howL ms m.1 = m.2 := by
  intro m hm
  unfold howL
  cases hf : ms.find? (fun x => x.1 == m.1) with
  | none =>
    have := List.find?_eq_none.1 hf m hm
    simp at this
  | some x =>
    have hx := List.mem_of_find?_eq_some hf
    have hx1 : x.1 = m.1 := by simpa using List.find?_some hf
    have : x = m := by
      obtain ⟨i, hi, rfl⟩ := List.mem_iff_getElem.1 hx
      obtain ⟨j, hj, rfl⟩ := List.mem_iff_getElem.1 hm
      have hp := List.pairwise_iff_getElem.1 h
      rcases Nat.lt_trichotomy i j with hij | hij | hij
      · have := hp i j (by simpa using hi) (by simpa using hj) hij
        simp only [List.getElem_map] at this
        exact absurd hx1 this
      · subst hij; rfl
      · have := hp j i (by simpa using hj) (by simpa using hi) hij
        simp only [List.getElem_map] at this
        exact absurd hx1.symm this
    subst this; rfl
theorem how_nonmem {ms : List Ent} {a : Int} (h : ∀ m ∈ ms, m.1 ≠ a) : howL ms a = 0 := how_none h
theorem mem_how {ms : List Ent} {a : Int} (h : howL ms a ≠ 0) : ∃ m ∈ ms, m.1 = a ∧ m.2 = howL ms a := by
  unfold howL at h ⊢
  cases hf : ms.find? (fun m => m.1 == a) with
  | none => rw [hf] at h; exact absurd rfl h
  | some m => exact ⟨m, List.mem_of_find?_eq_some hf, by simpa using List.find?_some hf, rfl⟩
/-! ## bits and marks -/
def hwS (sh : Shl) (k : Nat) : Int := if sh.t[k]? = some true then (if sh.f[k]? = some true then 2 else 1) else if sh.g[k]? = some true then 3 else 0
structure Rel (es : List Ent) (ss : List Shl) (ms : List Ent) : Prop where
  inv : Inv es ss
  nod : (ms.map (·.1)).Nodup
  how : ∀ m ∈ ms, 1 ≤ m.2 ∧ m.2 ≤ 3
  room : ∀ m ∈ ms, ∃ x, roomAt es m.1 = some x
  bits : ∀ (n k : Nat) (sh : Shl), ss[n]? = some sh → sh.t[k]? = some true ∨ sh.g[k]? = some true → roomAt es ((n : Int) * 4096 + k) = some (n, k)
  ft : ∀ (n k : Nat) (sh : Shl), ss[n]? = some sh → sh.f[k]? = some true → sh.t[k]? = some true
  tg : ∀ (n k : Nat) (sh : Shl), ss[n]? = some sh → sh.t[k]? = some true → ¬ sh.g[k]? = some true
  eq : ∀ (a : Int) (n k : Nat) (sh : Shl), roomAt es a = some (n, k) → ss[n]? = some sh → howL ms a = hwS sh k
theorem room_addr {es : List Ent} {a : Int} {n k : Nat} (h : roomAt es a = some (n, k)) : a = (n : Int) * 4096 + k ∧ k < 4096 := by
  obtain ⟨e, _, _, _, _, h1, h2⟩ := roomAt_some h
  exact ⟨h1, h2⟩
theorem Rel.nonneg {es : List Ent} {ss : List Shl} {ms : List Ent} (h : Rel es ss ms) : nonneg ms := by
  intro m hm
  obtain ⟨⟨n, k⟩, hx⟩ := h.room m hm
  obtain ⟨e, he, _, _, _, h1, h2⟩ := roomAt_some hx
  have := (List.getElem?_eq_some_iff.1 he).1
  have := okR_len h.inv.right
  omega
theorem rel_put {es : List Ent} {ss : List Shl} {ms : List Ent} (h : Rel es ss ms) {a : Int} {n k : Nat} {sh sh' : Shl} (hr : roomAt es a = some (n, k)) (hs : ss[n]? = some sh)
    (lt : sh'.t.length = sh.t.length) (lf : sh'.f.length = sh.f.length) (lg : sh'.g.length = sh.g.length)
    (ot : ∀ j, j ≠ k → sh'.t[j]? = sh.t[j]?) (of : ∀ j, j ≠ k → sh'.f[j]? = sh.f[j]?) (og : ∀ j, j ≠ k → sh'.g[j]? = sh.g[j]?)
    (kf : sh'.f[k]? = some true → sh'.t[k]? = some true) (kg : sh'.t[k]? = some true → ¬ sh'.g[k]? = some true) :
    Rel es (ss.set n sh') (putL ms a (hwS sh' k)) := by
  have hn : n < ss.length := (List.getElem?_eq_some_iff.1 hs).1
  have ha := (room_addr hr).1
  have hw : 0 ≤ hwS sh' k ∧ hwS sh' k ≤ 3 := by unfold hwS; split <;> (split <;> omega)
  have get : ∀ m s2, (ss.set n sh')[m]? = some s2 → (m = n ∧ s2 = sh') ∨ (m ≠ n ∧ ss[m]? = some s2) := fun m s2 hm => by
    by_cases e : n = m
    · subst e
      rw [List.getElem?_set_self hn] at hm
      exact .inl ⟨rfl, (Option.some.inj hm).symm⟩
    · rw [List.getElem?_set_ne e] at hm
      exact .inr ⟨fun e2 => e e2.symm, hm⟩
  refine ⟨⟨h.inv.right, by rw [List.length_set]; exact h.inv.len, fun i e s he hi => ?_⟩, put_nodup h.nod _ _, ?_, ?_, ?_, ?_, ?_, ?_⟩
  · rcases get i s hi with ⟨rfl, rfl⟩ | ⟨_, h2⟩
    · have := h.inv.ok i e sh he hs
      exact ⟨lt.trans this.t, lf.trans this.f, lg.trans this.g⟩
    · exact h.inv.ok i e s he h2
  · intro m hm
    rcases mem_put.1 hm with ⟨h1, _⟩ | ⟨h1, rfl⟩
    · exact h.how m h1
    · exact ⟨by omega, hw.2⟩
  · intro m hm
    rcases mem_put.1 hm with ⟨h1, _⟩ | ⟨h1, rfl⟩
    · exact h.room m h1
    · exact ⟨_, hr⟩
  · intro m j s2 hm hb
    rcases get m s2 hm with ⟨rfl, rfl⟩ | ⟨_, h2⟩
    · by_cases hj : j = k
      · subst hj; rw [← ha]; exact hr
      · rw [ot j hj, og j hj] at hb
        exact h.bits m j sh hs hb
    · exact h.bits m j s2 h2 hb
  · intro m j s2 hm hb
    rcases get m s2 hm with ⟨rfl, rfl⟩ | ⟨_, h2⟩
    · by_cases hj : j = k
      · subst hj; exact kf hb
      · rw [of j hj] at hb; rw [ot j hj]; exact h.ft m j sh hs hb
    · exact h.ft m j s2 h2 hb
  · intro m j s2 hm hb
    rcases get m s2 hm with ⟨rfl, rfl⟩ | ⟨_, h2⟩
    · by_cases hj : j = k
      · subst hj; exact kg hb
      · rw [ot j hj] at hb; rw [og j hj]; exact h.tg m j sh hs hb
    · exact h.tg m j s2 h2 hb
  · intro b m j s2 hb hm
    rw [how_put hw.1]
    have hb1 := (room_addr hb)
    have hk4 := (room_addr hr).2
    by_cases e : b = a
    · rw [if_pos e]
      subst e
      rw [hr] at hb
      cases hb
      rcases get n s2 hm with ⟨_, rfl⟩ | ⟨h2, _⟩
      · rfl
      · exact absurd rfl h2
    · rw [if_neg e]
      rcases get m s2 hm with ⟨rfl, rfl⟩ | ⟨_, h2⟩
      · have hj : j ≠ k := fun e2 => e (by subst e2; rw [hb1.1, ha])
        rw [h.eq b m j sh hb hs]
        unfold hwS
        rw [ot j hj, of j hj, og j hj]
      · exact h.eq b m j s2 hb h2
end Pb
end Go.Proofs.YtejaonodaplbhaaDoor
