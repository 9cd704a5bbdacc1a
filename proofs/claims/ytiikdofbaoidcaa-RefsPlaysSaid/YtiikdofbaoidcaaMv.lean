import Derived.Test.YtiikdofbaoidcaaRv
namespace Go.Proofs.Ytiikdofbaoidcaa
namespace Mv
open Go Go.Proofs.Ytiikdofbaoidcaa.Hp Mp Mq Rs Rt Rv
set_option maxRecDepth 10000
set_option linter.unusedVariables false
set_option linter.unusedSimpArgs false
theorem rm_len (R : List Own) (o : Two) : (rmL R o).length ≤ R.length := List.length_filter_le ..
theorem put_len (R : List Own) (o : Two) (a : Int) : (putL R o a).length ≤ R.length + 1 := by
  have := rm_len R o
  unfold putL setL
  split
  · omega
  · split
    · omega
    · rw [List.length_cons]; omega
theorem put_ok {R : List Own} (h : Okr R) (o : Two) (a : Int) : Okr (putL R o a) := by
  unfold putL
  split
  · exact h
  · exact set_ok h o (by omega)
/-- R1, but these owners name 'to' -/
structure Mov (R1 : List Own) (to : Int) (os : List Two) (R : List Own) : Prop where
  ok : Okr R
  mem : ∀ x : Own, x ∈ R ↔ (x.1 ∈ os ∧ x.2 = to) ∨ (x.1 ∉ os ∧ x ∈ R1)
theorem mov_start {R1 : List Own} {to : Int} (h : Okr R1) : Mov R1 to [] R1 := ⟨h, fun x => by simp⟩
theorem mov_step {R1 R : List Own} {to : Int} {os : List Two} (h : Mov R1 to os R) (ht : 0 < to) (o : Two) : Mov R1 to (os ++ [o]) (putL R o to) := by
  refine ⟨put_ok h.ok o to, fun x => ?_⟩
  have e : putL R o to = (o, to) :: rmL R o := by
    unfold putL setL
    rw [if_neg (by omega), if_neg (by omega)]
  rw [e, List.mem_cons, rm_mem, h.mem x, List.mem_append, List.mem_singleton]
  obtain ⟨x1, x2⟩ := x
  simp only [Prod.mk.injEq]
  by_cases hx : x1 = o
  · simp [hx]
  · simp [hx]
theorem key_one {R : List Own} (h : Okr R) {o : Two} {a b : Int} (h1 : (o, a) ∈ R) (h2 : (o, b) ∈ R) : a = b := (ofL_eq h.nd h1).symm.trans (ofL_eq h.nd h2)
theorem mov_len {R1 R : List Own} {to : Int} {os : List Two} (h1 : Okr R1) (h : Mov R1 to os R) (hk : ∀ o ∈ os, ∃ a, (o, a) ∈ R1) : R.length = R1.length := by
  have hp : (R.map (·.1)).Perm (R1.map (·.1)) := by
    refine (List.perm_ext_iff_of_nodup h.ok.nd h1.nd).2 fun o => ?_
    rw [List.mem_map, List.mem_map]
    constructor
    · rintro ⟨x, hx, rfl⟩
      rcases (h.mem x).1 hx with ⟨h2, _⟩ | ⟨_, h2⟩
      · obtain ⟨a, ha⟩ := hk _ h2
        exact ⟨_, ha, rfl⟩
      · exact ⟨x, h2, rfl⟩
    · rintro ⟨x, hx, rfl⟩
      by_cases ho : x.1 ∈ os
      · exact ⟨(x.1, to), (h.mem _).2 (.inl ⟨ho, rfl⟩), rfl⟩
      · exact ⟨x, (h.mem _).2 (.inr ⟨ho, hx⟩), rfl⟩
  have := hp.length_eq
  simpa using this
theorem mov_from {R1 R : List Own} {frm to : Int} {os : List Two} (h : Mov R1 to os R) (hne : frm ≠ to) (hos : ∀ o, o ∈ os ↔ (o, frm) ∈ R1) : whoL R frm = [] := by
  rw [List.eq_nil_iff_forall_not_mem]
  intro o ho
  rcases (h.mem _).1 (who_mem.1 ho) with ⟨_, h2⟩ | ⟨h2, h3⟩
  · exact hne h2
  · exact h2 ((hos o).2 h3)
theorem mov_to {R1 R : List Own} {frm to : Int} {os : List Two} (h1 : Okr R1) (h : Mov R1 to os R) (hne : frm ≠ to) (hos : ∀ o, o ∈ os ↔ (o, frm) ∈ R1) : (whoL R to).length = (whoL R1 frm).length + (whoL R1 to).length := by
  have hp : (whoL R to).Perm (whoL R1 frm ++ whoL R1 to) := by
    refine (List.perm_ext_iff_of_nodup (who_nodup h.ok.nd to) ?_).2 fun o => ?_
    · rw [List.nodup_append]
      refine ⟨who_nodup h1.nd _, who_nodup h1.nd _, fun a ha b hb e => ?_⟩
      subst e
      exact hne (key_one h1 (who_mem.1 ha) (who_mem.1 hb))
    · rw [who_mem, List.mem_append, who_mem, who_mem, h.mem]
      constructor
      · rintro (⟨h2, _⟩ | ⟨_, h3⟩)
        · exact .inl ((hos o).1 h2)
        · exact .inr h3
      · rintro (h2 | h2)
        · exact .inl ⟨(hos o).2 h2, rfl⟩
        · refine .inr ⟨fun ho => ?_, h2⟩
          exact hne (key_one h1 ((hos o).1 ho) h2)
  have := hp.length_eq
  rwa [List.length_append] at this
end Mv
end Go.Proofs.Ytiikdofbaoidcaa
