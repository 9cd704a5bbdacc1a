import Derived.Test.YtejaonodaplbhaaDoorPc
namespace Go.Proofs.YtejaonodaplbhaaDoor
namespace Pd
open Go Go.Proofs.YtejaonodaplbhaaDoor.Hp Sp S2 S3 S4 S5 S6 S7 S8 S9 S10 S14 S15 Rb1 Rb2 Rb3 Rb4 Rb5 Rb6 Pb Pc
set_option maxRecDepth 10000
set_option linter.unusedVariables false
set_option linter.unusedSimpArgs false
theorem inB_iff {es : List Ent} {a : Int} : (Rb3.inB es a = true ↔ ∃ x, roomAt es a = some x) := by
  unfold Rb3.inB
  rw [Option.isSome_iff_exists]
theorem bset_ne {l : List Bool} {k : Nat} {b : Bool} : ∀ j, j ≠ k → (l.set k b)[j]? = l[j]? := fun j hj => List.getElem?_set_ne (fun e => hj e.symm)
theorem bset_at {l : List Bool} {k : Nat} {b : Bool} (h : k < l.length) : (l.set k b)[k]? = some b := List.getElem?_set_self h
theorem in_len {es : List Ent} {ss : List Shl} {ms : List Ent} (h : Rel es ss ms) {a : Int} {n k : Nat} (hr : roomAt es a = some (n, k)) {sh : Shl} (hs : ss[n]? = some sh) : k < sh.t.length ∧ k < sh.f.length ∧ k < sh.g.length := by
  obtain ⟨e, he, _, _, h1, _, _⟩ := roomAt_some hr
  have ho := h.inv.ok n e sh he hs
  have := ho.t
  have := ho.f
  have := ho.g
  omega
theorem rel_mark {es : List Ent} {ss : List Shl} {ms : List Ent} (h : Rel es ss ms) {a : Int} {n k : Nat} {sh : Shl} (hr : roomAt es a = some (n, k)) (hs : ss[n]? = some sh) (ht : sh.t[k]? = some false) (hg : sh.g[k]? = some false) :
    markL es ms a = (0, putL ms a 1) ∧ Rel es (ss.set n ⟨sh.t.set k true, sh.f, sh.g⟩) (putL ms a 1) := by
  obtain ⟨l1, l2, l3⟩ := in_len h hr hs
  have hf : ¬ sh.f[k]? = some true := fun hf => by have := h.ft n k sh hs hf; rw [ht] at this; cases this
  have hw : howL ms a = 0 := by rw [h.eq a n k sh hr hs]; unfold hwS; rw [ht, hg]; simp
  refine ⟨?_, ?_⟩
  · unfold markL
    rw [if_pos (inB_iff.2 ⟨_, hr⟩), if_neg (by omega)]
  · have := rel_put h (sh' := ⟨sh.t.set k true, sh.f, sh.g⟩) hr hs (by simp) rfl rfl bset_ne (fun _ _ => rfl) (fun _ _ => rfl) (fun _ => bset_at l1) (fun _ e => by rw [hg] at e; cases e)
    have e : hwS ⟨sh.t.set k true, sh.f, sh.g⟩ k = 1 := by unfold hwS; rw [if_pos (bset_at l1), if_neg hf]
    rwa [e] at this
theorem mark_not {es : List Ent} {ss : List Shl} {ms : List Ent} (h : Rel es ss ms) {a : Int} {n k : Nat} {sh : Shl} (hr : roomAt es a = some (n, k)) (hs : ss[n]? = some sh) (hb : sh.t[k]? = some true ∨ sh.g[k]? = some true) : markL es ms a = (51, ms) := by
  have hw : 0 < howL ms a := by
    rw [h.eq a n k sh hr hs]
    unfold hwS
    rcases hb with hb | hb
    · rw [if_pos hb]; split <;> omega
    · split
      · split <;> omega
      · omega
  unfold markL
  rw [if_pos (inB_iff.2 ⟨_, hr⟩), if_pos hw]
theorem out_mark {es ms : List Ent} {a : Int} (hr : roomAt es a = none) : markL es ms a = (20, ms) ∧ unmarkL es ms a = (20, ms) ∧ giveL es ms a = (20, ms) := by
  have hn : ¬ Rb3.inB es a = true := fun e => by obtain ⟨x, hx⟩ := inB_iff.1 e; rw [hr] at hx; cases hx
  unfold markL unmarkL giveL
  rw [if_neg hn, if_neg hn, if_neg hn]
  exact ⟨rfl, rfl, rfl⟩
theorem rel_unmark {es : List Ent} {ss : List Shl} {ms : List Ent} (h : Rel es ss ms) {a : Int} {n k : Nat} {sh : Shl} (hr : roomAt es a = some (n, k)) (hs : ss[n]? = some sh) (ht : sh.t[k]? = some true) (hf : sh.f[k]? = some false) :
    unmarkL es ms a = (0, putL ms a 0) ∧ Rel es (ss.set n ⟨sh.t.set k false, sh.f, sh.g⟩) (putL ms a 0) := by
  obtain ⟨l1, l2, l3⟩ := in_len h hr hs
  have hg : ¬ sh.g[k]? = some true := h.tg n k sh hs ht
  have hw : howL ms a = 1 := by rw [h.eq a n k sh hr hs]; unfold hwS; rw [if_pos ht, hf]; simp
  refine ⟨?_, ?_⟩
  · unfold unmarkL
    rw [if_pos (inB_iff.2 ⟨_, hr⟩), if_pos hw]
  · have := rel_put h (sh' := ⟨sh.t.set k false, sh.f, sh.g⟩) hr hs (by simp) rfl rfl bset_ne (fun _ _ => rfl) (fun _ _ => rfl) (fun e => by simp only at e; rw [hf] at e; cases e) (fun _ => hg)
    have e : hwS ⟨sh.t.set k false, sh.f, sh.g⟩ k = 0 := by
      unfold hwS
      have h1 : ¬ (sh.t.set k false)[k]? = some true := by rw [bset_at l1]; simp
      rw [if_neg h1, if_neg hg]
    rwa [e] at this
theorem unmark_not {es : List Ent} {ss : List Shl} {ms : List Ent} (h : Rel es ss ms) {a : Int} {n k : Nat} {sh : Shl} (hr : roomAt es a = some (n, k)) (hs : ss[n]? = some sh) (hb : sh.t[k]? = some false ∨ sh.f[k]? = some true) : unmarkL es ms a = (51, ms) := by
  have hw : ¬ howL ms a = 1 := by
    rw [h.eq a n k sh hr hs]
    unfold hwS
    rcases hb with hb | hb
    · rw [if_neg (by rw [hb]; simp)]; split <;> omega
    · rw [if_pos (h.ft n k sh hs hb), if_pos hb]; omega
  unfold unmarkL
  rw [if_pos (inB_iff.2 ⟨_, hr⟩), if_neg hw]
theorem rel_give {es : List Ent} {ss : List Shl} {ms : List Ent} (h : Rel es ss ms) {a : Int} {n k : Nat} {sh : Shl} (hr : roomAt es a = some (n, k)) (hs : ss[n]? = some sh) (ht : sh.t[k]? = some true) :
    (giveL es ms a).1 = 0 ∧ Rel es (ss.set n (giveS sh k false)) (giveL es ms a).2 := by
  obtain ⟨l1, l2, l3⟩ := in_len h hr hs
  have hg : ¬ sh.g[k]? = some true := h.tg n k sh hs ht
  have nt : ¬ (sh.t.set k false)[k]? = some true := by rw [bset_at l1]; simp
  cases hf : (sh.f[k]?).getD false with
  | true =>
    have hf' : sh.f[k]? = some true := bit_get.1 hf
    have hw : howL ms a = 2 := by rw [h.eq a n k sh hr hs]; unfold hwS; rw [if_pos ht, if_pos hf']
    have e1 : giveL es ms a = (0, putL ms a 0) := by
      unfold giveL
      rw [if_pos (inB_iff.2 ⟨_, hr⟩), if_neg (by omega), if_pos hw]
    have e2 : giveS sh k false = ⟨sh.t.set k false, sh.f.set k false, sh.g⟩ := by unfold giveS; rw [hf]; rfl
    rw [e1, e2]
    refine ⟨rfl, ?_⟩
    have := rel_put h (sh' := ⟨sh.t.set k false, sh.f.set k false, sh.g⟩) hr hs (by simp) (by simp) rfl bset_ne bset_ne (fun _ _ => rfl) (fun e => by simp only at e; rw [bset_at l2] at e; cases e) (fun _ => hg)
    have e : hwS ⟨sh.t.set k false, sh.f.set k false, sh.g⟩ k = 0 := by unfold hwS; rw [if_neg nt, if_neg hg]
    rwa [e] at this
  | false =>
    have hf' : ¬ sh.f[k]? = some true := fun e => by rw [bit_get.2 e] at hf; cases hf
    have hw : howL ms a = 1 := by rw [h.eq a n k sh hr hs]; unfold hwS; rw [if_pos ht, if_neg hf']
    have e1 : giveL es ms a = (0, putL ms a 3) := by
      unfold giveL
      rw [if_pos (inB_iff.2 ⟨_, hr⟩), if_pos hw]
    have e2 : giveS sh k false = ⟨sh.t.set k false, sh.f, sh.g.set k true⟩ := by unfold giveS; rw [hf]; rfl
    rw [e1, e2]
    refine ⟨rfl, ?_⟩
    have := rel_put h (sh' := ⟨sh.t.set k false, sh.f, sh.g.set k true⟩) hr hs (by simp) rfl (by simp) bset_ne (fun _ _ => rfl) bset_ne (fun e => absurd e hf') (fun e => absurd e nt)
    have e : hwS ⟨sh.t.set k false, sh.f, sh.g.set k true⟩ k = 3 := by unfold hwS; rw [if_neg nt, if_pos (bset_at l3)]
    rwa [e] at this
theorem give_not {es : List Ent} {ss : List Shl} {ms : List Ent} (h : Rel es ss ms) {a : Int} {n k : Nat} {sh : Shl} (hr : roomAt es a = some (n, k)) (hs : ss[n]? = some sh) (ht : sh.t[k]? = some false) : giveL es ms a = (51, ms) := by
  have hw : ¬ howL ms a = 1 ∧ ¬ howL ms a = 2 := by
    rw [h.eq a n k sh hr hs]
    unfold hwS
    rw [if_neg (by rw [ht]; simp)]
    split <;> omega
  unfold giveL
  rw [if_pos (inB_iff.2 ⟨_, hr⟩), if_neg hw.1, if_neg hw.2]
/-! ## Take -/
theorem fst_room {es : List Ent} {ss : List Shl} (hI : Inv es ss) {n k : Nat} {e : Ent} {sh : Shl} (he : es[n]? = some e) (h1 : e.1 = 1) (hs : ss[n]? = some sh) (h2 : 2 ≤ k) (h3 : k < sh.t.length) : roomAt es ((n : Int) * 4096 + k) = some (n, k) ∧ (k : Int) < e.2 := by
  have hz := okR_size hI.right he
  have ho := (hI.ok n e sh he hs).t
  have hn := (List.getElem?_eq_some_iff.1 he).1
  have h8 := okR_len hI.right
  refine ⟨?_, by omega⟩
  obtain ⟨a, ha⟩ : ∃ a : Int, a = (n : Int) * 4096 + k := ⟨_, rfl⟩
  rw [← ha]
  have e1 : (a / 4096).toNat = n := by omega
  have e2 : (a % 4096).toNat = k := by omega
  unfold roomAt
  rw [if_pos ⟨by omega, by omega⟩, e1, he]
  simp only
  rw [if_pos ⟨by omega, by omega, by omega⟩, e2]
theorem act_of {es : List Ent} {ss : List Shl} {n : Nat} (hp : (pickF (freeOf es ss) (acts es)).1 = (n : Int)) (h0 : 0 < (pickF (freeOf es ss) (acts es)).2) : ∃ e, es[n]? = some e ∧ e.1 = 1 := by
  obtain ⟨h1, _, _⟩ := pickF_pos (f := freeOf es ss) (l := acts es) (by omega)
  rw [hp] at h1
  obtain ⟨m, e, h2, h3, h4⟩ := acts_mem h1
  have : m = n := by omega
  subst this
  exact ⟨e, h2, h4⟩
theorem rel_take {es : List Ent} {ss : List Shl} {ms : List Ent} (h : Rel es ss ms) {n k : Nat} {sh : Shl} (hp : (pickF (freeOf es ss) (acts es)).1 = (n : Int)) (h0 : 0 < (pickF (freeOf es ss) (acts es)).2) (hs : ss[n]? = some sh) (hf : IsFst sh.t sh.g k) :
    bestL (freeL es ms) es.length = some n ∧ roomAt es ((n : Int) * 4096 + k) = some (n, k) ∧ howL ms ((n : Int) * 4096 + k) = 0 ∧ (∃ e, es[n]? = some e ∧ (k : Int) < e.2) ∧ (∀ j : Nat, 2 ≤ j → j < k → howL ms ((n : Int) * 4096 + j) ≠ 0) ∧
      Rel es (ss.set n ⟨sh.t.set k true, sh.f.set k true, sh.g⟩) (putL ms ((n : Int) * 4096 + k) 2) := by
  obtain ⟨e, he, h1⟩ := act_of hp h0
  obtain ⟨hr, hk⟩ := fst_room h.inv he h1 hs hf.ge hf.lt
  obtain ⟨l1, l2, l3⟩ := in_len h hr hs
  have hb : bestL (freeL es ms) es.length = some n := by
    rcases best_eq h with ⟨_, h3⟩ | ⟨m, h2, h3, _⟩
    · omega
    · have e : m = n := by omega
      rw [h2, e]
  refine ⟨hb, hr, ?_, ⟨e, he, hk⟩, fun j hj1 hj2 => ?_, ?_⟩
  · rw [h.eq _ n k sh hr hs]; unfold hwS; rw [hf.offT, hf.offG]; simp
  · obtain ⟨hrj, _⟩ := fst_room h.inv he h1 hs hj1 (by have := hf.lt; omega)
    rw [h.eq _ n j sh hrj hs]
    unfold hwS
    rcases hf.on j hj1 hj2 with hb | hb
    · rw [if_pos hb]; split <;> omega
    · split
      · split <;> omega
      · omega
  · have := rel_put h (sh' := ⟨sh.t.set k true, sh.f.set k true, sh.g⟩) hr hs (by simp) (by simp) rfl bset_ne bset_ne (fun _ _ => rfl) (fun _ => bset_at l1) (fun _ e => by rw [hf.offG] at e; cases e)
    have e : hwS ⟨sh.t.set k true, sh.f.set k true, sh.g⟩ k = 2 := by unfold hwS; rw [if_pos (bset_at l1), if_pos (bset_at l2)]
    rwa [e] at this
theorem take_none {es : List Ent} {ss : List Shl} {ms : List Ent} (h : Rel es ss ms) (h0 : (pickF (freeOf es ss) (acts es)).2 = 0) : bestL (freeL es ms) es.length = none := by
  rcases best_eq h with ⟨h2, _⟩ | ⟨m, _, _, h3⟩
  · exact h2
  · omega
/-! ## Settle -/
theorem setl_mem {ms : List Ent} {m : Ent} : m ∈ setlL ms ↔ m.2 = 1 ∧ ∃ h, (m.1, h) ∈ ms ∧ h ≤ 2 := by
  unfold setlL
  rw [List.mem_map]
  constructor
  · rintro ⟨x, hx, rfl⟩
    obtain ⟨h1, h2⟩ := List.mem_filter.1 hx
    exact ⟨rfl, x.2, h1, by simpa using h2⟩
  · rintro ⟨h1, y, h2, h3⟩
    exact ⟨(m.1, y), List.mem_filter.2 ⟨h2, by simpa using h3⟩, by simp only; exact Prod.ext rfl h1.symm⟩
theorem rep_get {n k : Nat} : ¬ (List.replicate n false)[k]? = some true := by
  rw [List.getElem?_replicate]
  split <;> simp
theorem rel_settle {es : List Ent} {ss : List Shl} {ms : List Ent} (h : Rel es ss ms) : Rel es (ss.map setl) (setlL ms) := by
  have get : ∀ (n : Nat) (s2 : Shl), (ss.map setl)[n]? = some s2 → ∃ s, ss[n]? = some s ∧ s2 = setl s := fun n s2 hm => by
    rw [List.getElem?_map, Option.map_eq_some_iff] at hm
    obtain ⟨s, h1, h2⟩ := hm
    exact ⟨s, h1, h2.symm⟩
  have hnod : ((setlL ms).map (·.1)).Nodup := by
    unfold setlL
    rw [List.map_map]
    have e : ((ms.filter fun m => decide (m.2 ≤ 2)).map ((fun x : Ent => x.1) ∘ fun m : Ent => (m.1, (1 : Int)))) = (ms.filter fun m => decide (m.2 ≤ 2)).map (·.1) := List.map_congr_left fun _ _ => rfl
    rw [e]
    exact h.nod.sublist ((List.filter_sublist).map _)
  refine ⟨inv_setl h.inv, hnod, ?_, ?_, ?_, ?_, ?_, ?_⟩
  · intro m hm
    obtain ⟨h1, _⟩ := setl_mem.1 hm
    omega
  · intro m hm
    obtain ⟨_, y, h2, _⟩ := setl_mem.1 hm
    exact h.room (m.1, y) h2
  · intro n k s2 hs hb
    obtain ⟨s, h1, rfl⟩ := get n s2 hs
    rcases hb with hb | hb
    · exact h.bits n k s h1 (.inl hb)
    · exact absurd hb rep_get
  · intro n k s2 hs hb
    obtain ⟨s, h1, rfl⟩ := get n s2 hs
    exact absurd hb rep_get
  · intro n k s2 hs hb hg
    obtain ⟨s, h1, rfl⟩ := get n s2 hs
    exact absurd hg rep_get
  · intro a n k s2 hr hs
    obtain ⟨s, h1, rfl⟩ := get n s2 hs
    have he := h.eq a n k s hr h1
    have ew : hwS (setl s) k = if s.t[k]? = some true then 1 else 0 := by
      unfold hwS
      have n1 : ¬ (setl s).f[k]? = some true := rep_get
      have n2 : ¬ (setl s).g[k]? = some true := rep_get
      rw [if_neg n1, if_neg n2]
      rfl
    rw [ew]
    by_cases ht : s.t[k]? = some true
    · rw [if_pos ht]
      have hw : howL ms a = 1 ∨ howL ms a = 2 := by
        rw [he]; unfold hwS; rw [if_pos ht]; split <;> omega
      obtain ⟨m, hm, h2, h3⟩ := mem_how (ms := ms) (a := a) (by omega)
      have : (a, (1 : Int)) ∈ setlL ms := setl_mem.2 ⟨rfl, m.2, by rw [← h2]; exact hm, by omega⟩
      exact how_mem hnod this
    · rw [if_neg ht]
      apply how_nonmem
      intro m hm e
      obtain ⟨_, y, h2, h3⟩ := setl_mem.1 hm
      have h4 := how_mem h.nod h2
      have h5 := h.how _ h2
      simp only at h4 h5
      rw [e, he] at h4
      unfold hwS at h4
      rw [if_neg ht] at h4
      split at h4 <;> omega
theorem setl_len (ms : List Ent) : (setlL ms).length ≤ ms.length := setlL_len ms
/-! ## the start -/
theorem start_bits {es : List Ent} {n : Nat} {sh : Shl} (h : (turned [] es)[n]? = some sh) : sh.t.count true = 0 ∧ ∀ k : Nat, ¬ sh.t[k]? = some true ∧ ¬ sh.f[k]? = some true ∧ ¬ sh.g[k]? = some true := by
  have hn : n < es.length := by have := (List.getElem?_eq_some_iff.1 h).1; rwa [turned_len [] es (Nat.zero_le _)] at this
  have he : es[n]? = some es[n] := List.getElem?_eq_getElem hn
  have h2 := turned_at [] es n _ he
  rw [h2] at h
  have e : sh = Shl.grow noSh es[n].2 := by simpa using h.symm
  subst e
  have hr : ∀ z : Int, growL [] z = List.replicate z.toNat false := fun z => by simp [growL]
  have e1 : (Shl.grow noSh es[n].2).t = List.replicate es[n].2.toNat false := hr _
  have e2 : (Shl.grow noSh es[n].2).f = List.replicate es[n].2.toNat false := hr _
  have e3 : (Shl.grow noSh es[n].2).g = List.replicate es[n].2.toNat false := hr _
  rw [e1, e2, e3]
  exact ⟨by simp [List.count_replicate], fun k => ⟨rep_get, rep_get, rep_get⟩⟩
theorem rel_start {es : List Ent} (hok : okR es = true) : Rel es (turned [] es) [] := by
  have hI : Inv es (turned [] es) := inv_turned inv_nil (fit_nil es) hok
  refine ⟨hI, by simp, fun m h => (by cases h), fun m h => (by cases h), fun n k sh hs hb => ?_, fun n k sh hs hb => ?_, fun n k sh hs hb => ?_, fun a n k sh hr hs => ?_⟩
  · obtain ⟨h1, h2, h3⟩ := (start_bits hs).2 k
    rcases hb with hb | hb
    · exact absurd hb h1
    · exact absurd hb h3
  · exact absurd hb ((start_bits hs).2 k).2.1
  · exact absurd hb ((start_bits hs).2 k).1
  · obtain ⟨h1, h2, h3⟩ := (start_bits hs).2 k
    unfold hwS
    rw [if_neg h1, if_neg h3]
    rfl
/-! ## what is taken, device by device -/
def onS (ss : List Shl) (d : Int) : List Int := if 0 ≤ d then (match ss[d.toNat]? with | some s => ((List.range s.t.length).filter fun k => s.t[k]?.getD false).map fun k => d * 4096 + ((k : Nat) : Int) | none => []) else []
theorem tk_bit {es : List Ent} {ss : List Shl} {ms : List Ent} (h : Rel es ss ms) {n k : Nat} {sh : Shl} (hs : ss[n]? = some sh) (hk : k < 4096) : tk ms ((n : Int) * 4096 + k) = sh.t[k]?.getD false := by
  rw [Bool.eq_iff_iff, bit_get]
  unfold tk
  rw [Bool.or_eq_true, beq_iff_eq, beq_iff_eq]
  constructor
  · intro hh
    obtain ⟨m, hm, h2, h3⟩ := mem_how (ms := ms) (a := (n : Int) * 4096 + k) (by omega)
    obtain ⟨⟨n', k'⟩, hx⟩ := h.room m hm
    obtain ⟨h4, h5⟩ := room_addr hx
    have e1 : n' = n := by omega
    have e2 : k' = k := by omega
    subst e1 e2
    have := h.eq m.1 n' k' sh hx hs
    rw [h2] at this
    rw [this] at hh
    unfold hwS at hh
    split at hh
    · assumption
    · split at hh <;> omega
  · intro ht
    have hr := h.bits n k sh hs (.inl ht)
    rw [h.eq _ n k sh hr hs]
    unfold hwS
    rw [if_pos ht]
    split <;> omega
theorem on_eq {es : List Ent} {ss : List Shl} {ms : List Ent} (h : Rel es ss ms) (d : Int) : onL es ms d = onS ss d := by
  unfold onL onS
  split
  · rename_i hd
    obtain ⟨n, rfl⟩ := Int.eq_ofNat_of_zero_le hd
    rw [Int.toNat_natCast]
    have hl := h.inv.len
    by_cases hn : n < es.length
    · have he : es[n]? = some es[n] := List.getElem?_eq_getElem hn
      have hs : ss[n]? = some ss[n] := List.getElem?_eq_getElem (by omega)
      have ho := h.inv.ok n _ _ he hs
      have hz := okR_size h.inv.right he
      rw [he, hs]
      simp only
      unfold onP
      rw [ho.t]
      congr 1
      apply List.filter_congr
      intro k hk
      have := List.mem_range.1 hk
      exact tk_bit h hs (by omega)
    · rw [List.getElem?_eq_none (by omega), List.getElem?_eq_none (by omega)]
  · rfl
theorem taken_on {es : List Ent} {ss : List Shl} {ms : List Ent} (h : Rel es ss ms) {d a : Int} (ha : a ∈ onS ss d) : takenB es ss a = true := by
  unfold onS at ha
  split at ha
  · rename_i hd
    obtain ⟨n, rfl⟩ := Int.eq_ofNat_of_zero_le hd
    rw [Int.toNat_natCast] at ha
    cases hs : ss[n]? with
    | none => rw [hs] at ha; cases ha
    | some s =>
      rw [hs] at ha
      obtain ⟨k, hk, rfl⟩ := List.mem_map.1 ha
      have ht := bit_get.1 (List.mem_filter.1 hk).2
      have hr := h.bits n k s hs (.inl ht)
      unfold takenB
      rw [hr]
      simp only [hs, Option.getD_some]
      exact bit_get.2 ht
  · cases ha
theorem usedAt_eq {es : List Ent} {ss : List Shl} {ms : List Ent} (h : Rel es ss ms) {n : Nat} (hn : n < es.length) : usedAt ss n = usedL ms n := by
  have hl := h.inv.len
  have hs : ss[n]? = some ss[n] := List.getElem?_eq_getElem (by omega)
  unfold usedAt
  rw [if_pos (by omega), Int.toNat_natCast, hs, used_eq h hs]
/-! ## between Begin and Back -/
structure Btw (es : List Ent) (s0 ss : List Shl) : Prop where
  inv : Inv es ss
  t : ∀ (n k : Nat) (a b : Shl), s0[n]? = some a → ss[n]? = some b → a.t[k]? = some true → (b.t[k]? = some true ∨ b.g[k]? = some true) ∧ b.f[k]? = a.f[k]?
  g : ∀ (n k : Nat) (a b : Shl), s0[n]? = some a → ss[n]? = some b → a.g[k]? = some true → b.g[k]? = some true
theorem btw_start {es : List Ent} {ss : List Shl} (hI : Inv es ss) : Btw es ss ss :=
  ⟨hI, fun n k a b h1 h2 h3 => by rw [h1] at h2; cases h2; exact ⟨.inl h3, rfl⟩, fun n k a b h1 h2 h3 => by rw [h1] at h2; cases h2; exact h3⟩
theorem btw_set {es : List Ent} {s0 ss : List Shl} (h : Btw es s0 ss) {n k : Nat} {sh sh' : Shl} (hs : ss[n]? = some sh) (lt : sh'.t.length = sh.t.length) (lf : sh'.f.length = sh.f.length) (lg : sh'.g.length = sh.g.length)
    (ot : ∀ j, j ≠ k → sh'.t[j]? = sh.t[j]?) (of : ∀ j, j ≠ k → sh'.f[j]? = sh.f[j]?) (og : ∀ j, j ≠ k → sh'.g[j]? = sh.g[j]?)
    (kt : ∀ a, s0[n]? = some a → a.t[k]? = some true → (sh'.t[k]? = some true ∨ sh'.g[k]? = some true) ∧ sh'.f[k]? = a.f[k]?) (kg : sh.g[k]? = some true → sh'.g[k]? = some true) : Btw es s0 (ss.set n sh') := by
  have hn : n < ss.length := (List.getElem?_eq_some_iff.1 hs).1
  have get : ∀ m s2, (ss.set n sh')[m]? = some s2 → (m = n ∧ s2 = sh') ∨ (m ≠ n ∧ ss[m]? = some s2) := fun m s2 hm => by
    by_cases e : n = m
    · subst e
      rw [List.getElem?_set_self hn] at hm
      exact .inl ⟨rfl, (Option.some.inj hm).symm⟩
    · rw [List.getElem?_set_ne e] at hm
      exact .inr ⟨fun e2 => e e2.symm, hm⟩
  refine ⟨⟨h.inv.right, by rw [List.length_set]; exact h.inv.len, fun i e s he hi => ?_⟩, fun m j a b h1 h2 h3 => ?_, fun m j a b h1 h2 h3 => ?_⟩
  · rcases get i s hi with ⟨rfl, rfl⟩ | ⟨_, h2⟩
    · have := h.inv.ok i e sh he hs
      exact ⟨lt.trans this.t, lf.trans this.f, lg.trans this.g⟩
    · exact h.inv.ok i e s he h2
  · rcases get m b h2 with ⟨rfl, rfl⟩ | ⟨_, h4⟩
    · by_cases hj : j = k
      · subst hj; exact kt a h1 h3
      · rw [ot j hj, og j hj, of j hj]; exact h.t m j a sh h1 hs h3
    · exact h.t m j a b h1 h4 h3
  · rcases get m b h2 with ⟨rfl, rfl⟩ | ⟨_, h4⟩
    · by_cases hj : j = k
      · subst hj; exact kg (h.g m j a sh h1 hs h3)
      · rw [og j hj]; exact h.g m j a sh h1 hs h3
    · exact h.g m j a b h1 h4 h3
theorem btw_take {es : List Ent} {s0 ss : List Shl} {ms : List Ent} (h0 : Rel es s0 ms) (h : Btw es s0 ss) {n k : Nat} {sh : Shl} (hp : (pickF (freeOf es ss) (acts es)).1 = (n : Int)) (h1 : 0 < (pickF (freeOf es ss) (acts es)).2) (hs : ss[n]? = some sh) (hf : IsFst sh.t sh.g k) :
    howL ms ((n : Int) * 4096 + k) = 0 ∧ ((n : Int) * 4096 + k ≤ 32768) ∧ Btw es s0 (ss.set n ⟨sh.t.set k true, sh.f.set k true, sh.g⟩) := by
  obtain ⟨e, he, ha⟩ := act_of hp h1
  obtain ⟨hr, hk⟩ := fst_room h.inv he ha hs hf.ge hf.lt
  have hn : n < s0.length := by have := (List.getElem?_eq_some_iff.1 he).1; have := h0.inv.len; omega
  have hs0 : s0[n]? = some s0[n] := List.getElem?_eq_getElem hn
  have nt : ∀ a, s0[n]? = some a → ¬ a.t[k]? = some true := fun a h2 h3 => by
    rcases (h.t n k a sh h2 hs h3).1 with h4 | h4
    · rw [hf.offT] at h4; cases h4
    · rw [hf.offG] at h4; cases h4
  have ng : ∀ a, s0[n]? = some a → ¬ a.g[k]? = some true := fun a h2 h3 => by
    have h4 := h.g n k a sh h2 hs h3
    rw [hf.offG] at h4; cases h4
  refine ⟨?_, ?_, ?_⟩
  · rw [h0.eq _ n k _ hr hs0]
    unfold hwS
    rw [if_neg (nt _ hs0), if_neg (ng _ hs0)]
  · have := (List.getElem?_eq_some_iff.1 he).1
    have := okR_len h.inv.right
    have := okR_size h.inv.right he
    omega
  · exact btw_set h hs (by simp) (by simp) rfl bset_ne bset_ne (fun _ _ => rfl) (fun a h2 h3 => absurd h3 (nt a h2)) (fun h2 => h2)
theorem btw_mark {es : List Ent} {s0 ss : List Shl} (h : Btw es s0 ss) {n k : Nat} {sh : Shl} (hs : ss[n]? = some sh) (ht : sh.t[k]? = some false) (hg : sh.g[k]? = some false) : Btw es s0 (ss.set n ⟨sh.t.set k true, sh.f, sh.g⟩) := by
  refine btw_set h (k := k) hs (by simp) rfl rfl bset_ne (fun _ _ => rfl) (fun _ _ => rfl) (fun a h2 h3 => ?_) (fun h2 => h2)
  rcases (h.t n k a sh h2 hs h3).1 with h4 | h4
  · rw [ht] at h4; cases h4
  · rw [hg] at h4; cases h4
theorem btw_give {es : List Ent} {s0 ss : List Shl} (h : Btw es s0 ss) {n k : Nat} {sh : Shl} (hs : ss[n]? = some sh) (ht : sh.t[k]? = some true) (lk : k < sh.g.length) : Btw es s0 (ss.set n (giveS sh k (eldB (some (es, s0)) n k))) := by
  unfold giveS
  split
  · rename_i hc
    rw [Bool.and_eq_true] at hc
    have hf := bit_get.1 hc.1
    refine btw_set h (k := k) hs (by simp) (by simp) rfl bset_ne bset_ne (fun _ _ => rfl) (fun a h2 h3 => ?_) (fun h2 => h2)
    have h4 := (h.t n k a sh h2 hs h3).2
    rw [hf] at h4
    have : eldB (some (es, s0)) n k = true := by
      unfold eldB
      simp only [h2]
      rw [h3, ← h4]
      rfl
    rw [this] at hc
    exact absurd hc.2 (by simp)
  · refine btw_set h (k := k) hs (by simp) rfl (by simp) bset_ne (fun _ _ => rfl) bset_ne (fun a h2 h3 => ⟨.inr (bset_at lk), (h.t n k a sh h2 hs h3).2⟩) (fun _ => bset_at lk)
end Pd
end Go.Proofs.YtejaonodaplbhaaDoor
