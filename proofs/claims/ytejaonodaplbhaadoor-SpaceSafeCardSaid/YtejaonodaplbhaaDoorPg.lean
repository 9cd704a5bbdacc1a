import Derived.Test.YtejaonodaplbhaaDoorPf
import Derived.Test.YtejaonodaplbhaaDoorSp14
import Derived.Test.YtejaonodaplbhaaDoorSp15
namespace Go.Proofs.YtejaonodaplbhaaDoor
namespace Pg
open Go Go.Proofs.YtejaonodaplbhaaDoor.Hp Sp S2 S3 S4 S5 S6 S7 S8 S9 S10 S14 S15 Pf
set_option maxRecDepth 10000
set_option linter.unusedVariables false
set_option linter.unusedSimpArgs false

/-- the bit of an address -/
def Bit (π : Shl → List Bool) (ss : List Shl) (x : Nat × Nat) (b : Bool) : Prop := ∃ s, ss[x.1]? = some s ∧ (π s)[x.2]? = some b
theorem Bit.det {π : Shl → List Bool} {ss : List Shl} {x : Nat × Nat} {b c : Bool} (h : Bit π ss x b) (h' : Bit π ss x c) : b = c := by
  obtain ⟨s, h1, h2⟩ := h
  obtain ⟨s', h3, h4⟩ := h'
  rw [h1] at h3; cases h3
  rw [h2] at h4; cases h4
  rfl
theorem bit_other {π : Shl → List Bool} {ss : List Shl} {n k : Nat} {sh sh' : Shl} (hs : ss[n]? = some sh) (hπ : ∀ j, j ≠ k → (π sh')[j]? = (π sh)[j]?) {x : Nat × Nat} (hx : x ≠ (n, k)) {b : Bool} :
    Bit π (ss.set n sh') x b ↔ Bit π ss x b := by
  have hn : n < ss.length := (List.getElem?_eq_some_iff.1 hs).1
  obtain ⟨m, j⟩ := x
  unfold Bit
  simp only
  by_cases h : n = m
  · subst h
    have hj : j ≠ k := fun e => hx (by rw [e])
    rw [List.getElem?_set_self hn, hs]
    simp only [Option.some.injEq, exists_eq_left']
    rw [hπ j hj]
  · rw [List.getElem?_set_ne h]
theorem bit_here {π : Shl → List Bool} {ss : List Shl} {n k : Nat} {sh sh' : Shl} (hs : ss[n]? = some sh) {b : Bool} (h : (π sh')[k]? = some b) : Bit π (ss.set n sh') (n, k) b :=
  ⟨sh', List.getElem?_set_self (List.getElem?_eq_some_iff.1 hs).1, h⟩
theorem set_ne {l : List Bool} {k : Nat} {b : Bool} : ∀ j, j ≠ k → (l.set k b)[j]? = l[j]? := fun j hj => List.getElem?_set_ne (fun e => hj e.symm)
def addr (x : Nat × Nat) : Int := (x.1 : Int) * 4096 + x.2
/-- an address of an Active device, in its room -/
structure Room (es : List Ent) (x : Nat × Nat) (e : Ent) : Prop where
  at_ : es[x.1]? = some e
  act : e.1 = 1
  ge : 2 ≤ x.2
  lt : (x.2 : Int) < e.2
theorem Room.small {es : List Ent} {x : Nat × Nat} {e : Ent} (h : Room es x e) (hok : okR es = true) : x.1 < 8 ∧ x.2 < 4096 := by
  have h8 := okR_len hok
  have h1 := (List.getElem?_eq_some_iff.1 h.at_).1
  have h2 := okR_size hok h.at_
  have := h.lt
  omega
theorem Room.found {es : List Ent} {x : Nat × Nat} {e : Ent} (h : Room es x e) (hok : okR es = true) : roomAt es (addr x) = some x := by
  obtain ⟨h1, h2⟩ := h.small hok
  have h3 := h.ge
  have h4 := h.lt
  have e1 : (addr x / 4096).toNat = x.1 := by unfold addr; omega
  have e2 : addr x % 4096 = x.2 := by unfold addr; omega
  unfold roomAt
  rw [if_pos (by unfold addr; omega), e1, h.at_, e2]
  simp only
  rw [if_pos ⟨by rw [h.act]; decide, by omega, h4⟩]
  simp
theorem addr_inj {x y : Nat × Nat} (hx : x.2 < 4096) (hy : y.2 < 4096) (h : addr x = addr y) : x = y := by
  unfold addr at h
  have h1 : x.1 = y.1 := by omega
  have h2 : x.2 = y.2 := by omega
  exact Prod.ext h1 h2
theorem sum_delta {f f' : Nat → Int} {n : Nat} {δ : Int} (h : ∀ m, f' m = if m = n then f m + δ else f m) : ∀ (l : List Int), l.Nodup → (∀ d ∈ l, 0 ≤ d) →
    (l.map fun d => f' d.toNat).sum = (l.map fun d => f d.toNat).sum + if (n : Int) ∈ l then δ else 0
  | [], _, _ => by simp
  | d :: l, hnd, h0 => by
    rw [List.nodup_cons] at hnd
    have ih := sum_delta h l hnd.2 (fun x hx => h0 x (List.mem_cons_of_mem _ hx))
    have hd := h0 d (List.mem_cons_self ..)
    simp only [List.map_cons, List.sum_cons]
    rw [ih, h]
    by_cases e : d = n
    · subst e
      rw [if_pos (by simp), if_neg hnd.1, if_pos (List.mem_cons_self ..)]
      omega
    · rw [if_neg (by omega)]
      by_cases h2 : (n : Int) ∈ l
      · rw [if_pos h2, if_pos (List.mem_cons_of_mem _ h2)]; omega
      · rw [if_neg h2, if_neg (by simp [h2]; omega)]; omega
/-- how many of a device are given back -/
def gOf (ss : List Shl) (n : Nat) : Int := match ss[n]? with
  | some s => (s.g.count true : Int)
  | none => 0
def gA (es : List Ent) (ss : List Shl) : Int := ((acts es).map fun d => gOf ss d.toNat).sum
theorem gsum_set : ∀ {ss : List Shl} {n : Nat} {sh sh' : Shl}, ss[n]? = some sh → (gsum (ss.set n sh') : Int) = gsum ss - sh.g.count true + sh'.g.count true
  | [], _, _, _, h => by simp at h
  | s :: ss, 0, sh, sh', h => by
    simp at h
    subst h
    simp [gsum]
    omega
  | s :: ss, n + 1, sh, sh', h => by
    simp at h
    have ih := gsum_set (sh' := sh') h
    have e1 : ∀ (x : Shl) (l : List Shl), gsum (x :: l) = x.g.count true + gsum l := fun x l => by simp [gsum]
    rw [List.set_cons_succ, e1, e1]
    omega
theorem gOf_set {ss : List Shl} {n : Nat} {sh sh' : Shl} (hs : ss[n]? = some sh) (m : Nat) : gOf (ss.set n sh') m = if m = n then gOf ss m + ((sh'.g.count true : Int) - sh.g.count true) else gOf ss m := by
  have hn : n < ss.length := (List.getElem?_eq_some_iff.1 hs).1
  unfold gOf
  by_cases h : m = n
  · subst h
    rw [if_pos rfl, List.getElem?_set_self hn, hs]
    simp only
    omega
  · rw [if_neg h, List.getElem?_set_ne (fun e => h e.symm)]
theorem free_set {es : List Ent} {ss : List Shl} {n : Nat} {sh sh' : Shl} {e : Ent} (he : es[n]? = some e) (hs : ss[n]? = some sh) (m : Nat) :
    freeOf es (ss.set n sh') m = if m = n then freeOf es ss m + ((sh.used : Int) - sh'.used) else freeOf es ss m := by
  have hn : n < ss.length := (List.getElem?_eq_some_iff.1 hs).1
  unfold freeOf
  by_cases h : m = n
  · subst h
    rw [if_pos rfl, he, hs, List.getElem?_set_self hn]
    simp only
    omega
  · rw [if_neg h, List.getElem?_set_ne (fun e => h e.symm)]
theorem sumF_eq (es : List Ent) (ss : List Shl) (l : List Int) : sumF es ss l = (l.map fun d => freeOf es ss d.toNat).sum := rfl
theorem sumF_set2 {es : List Ent} {ss : List Shl} {n : Nat} {sh sh' : Shl} {e : Ent} (he : es[n]? = some e) (h1 : e.1 = 1) (hs : ss[n]? = some sh) :
    sumF es (ss.set n sh') (acts es) = sumF es ss (acts es) + ((sh.used : Int) - sh'.used) := by
  rw [sumF_eq, sumF_eq, sum_delta (free_set he hs) _ (idxs_nodup _ _ _) acts_nonneg, if_pos (mem_acts he h1)]
theorem gA_set {es : List Ent} {ss : List Shl} {n : Nat} {sh sh' : Shl} {e : Ent} (he : es[n]? = some e) (h1 : e.1 = 1) (hs : ss[n]? = some sh) :
    gA es (ss.set n sh') = gA es ss + ((sh'.g.count true : Int) - sh.g.count true) := by
  unfold gA
  rw [sum_delta (gOf_set hs) _ (idxs_nodup _ _ _) acts_nonneg, if_pos (mem_acts he h1)]
theorem count_clear {l : List Bool} : ∀ {k : Nat}, l[k]? = some true → (l.set k false).count true + 1 = l.count true := by
  induction l with
  | nil => intro k h; simp at h
  | cons b l ih =>
    intro k h
    cases k with
    | zero => simp at h; subst h; simp
    | succ k => simp at h; have := ih h; simp only [List.set_cons_succ, List.count_cons]; omega
/-! ## Take -/
theorem took {es : List Ent} {ss : List Shl} (hI : Inv es ss) {n k : Nat} {sh : Shl} (hn : (pickF (freeOf es ss) (acts es)).1 = (n : Int)) (hp : 0 < (pickF (freeOf es ss) (acts es)).2) (hs : ss[n]? = some sh) (hf : IsFst sh.t sh.g k) :
    ∃ e, Room es (n, k) e ∧ Bit Shl.t ss (n, k) false ∧ Bit Shl.g ss (n, k) false ∧ Inv es (ss.set n (tk sh k)) ∧ k < sh.f.length ∧ 0 < freeOf es ss n := by
  obtain ⟨hm, hfr, _⟩ := pickF_pos (f := freeOf es ss) (l := acts es) (by omega)
  obtain ⟨n', e, hne, hn', h1⟩ := acts_mem hm
  obtain rfl : n' = n := by omega
  have hz := okR_size hI.right hne
  have hok := hI.ok n' e sh hne hs
  have hlt := hf.lt
  have h2 := hok.t
  have h3 := hok.f
  rw [hn'] at hfr
  rw [Int.toNat_natCast] at hfr
  exact ⟨e, ⟨hne, h1, hf.ge, by simp only; omega⟩, ⟨sh, hs, hf.offT⟩, ⟨sh, hs, hf.offG⟩, inv_set (k := k) hI hs _ _ _ (by simp) (by simp) rfl, by omega, by omega⟩
/-! ## the first part: taking -/
structure Ok1 (es : List Ent) (ss : List Shl) (L : List (Nat × Nat)) : Prop where
  inv : Inv es ss
  room : ∀ x ∈ L, ∃ e, Room es x e
  nodup : L.Nodup
  t : ∀ x ∈ L, Bit Shl.t ss x true
  g0 : ∀ x b, Bit Shl.g ss x b → b = false
  pos : ∀ d ∈ acts es, 0 ≤ freeOf es ss d.toNat
theorem pos_step {es : List Ent} {ss : List Shl} {n : Nat} {sh sh' : Shl} {e : Ent} (he : es[n]? = some e) (hs : ss[n]? = some sh) (hpos : ∀ d ∈ acts es, 0 ≤ freeOf es ss d.toNat) (h : 0 ≤ freeOf es ss n + ((sh.used : Int) - sh'.used)) :
    ∀ d ∈ acts es, 0 ≤ freeOf es (ss.set n sh') d.toNat := by
  intro d hd
  rw [free_set he hs]
  have := hpos d hd
  split
  · rename_i hdn
    rw [hdn]; exact h
  · exact this
theorem ok1_start {es : List Ent} (hok : okR es = true) : Ok1 es (turned [] es) [] := by
  have h0 := fl_start hok (m := 32768) rfl
  refine ⟨h0.inv, fun x hx => (by cases hx), List.nodup_nil, fun x hx => (by cases hx), fun x b hb => ?_, h0.pos⟩
  obtain ⟨s, h1, h2⟩ := hb
  have hl := (List.getElem?_eq_some_iff.1 h1).1
  rw [turned_len [] es (by simp)] at hl
  rw [turned_at [] es x.1 _ (List.getElem?_eq_getElem hl)] at h1
  cases h1
  simp only [List.getElem?_nil, Option.getD_none, Shl.grow, growL, noSh, List.nil_append] at h2
  rw [List.getElem?_replicate] at h2
  split at h2 <;> cases h2
  rfl
theorem ok1_take {es : List Ent} {ss : List Shl} {L : List (Nat × Nat)} (h : Ok1 es ss L) {n k : Nat} {sh : Shl} (hn : (pickF (freeOf es ss) (acts es)).1 = (n : Int)) (hp : 0 < (pickF (freeOf es ss) (acts es)).2) (hs : ss[n]? = some sh) (hf : IsFst sh.t sh.g k) :
    Ok1 es (ss.set n (tk sh k)) (L ++ [(n, k)]) := by
  obtain ⟨e, hr, ht, hg, hI', hkf, hfp⟩ := took h.inv hn hp hs hf
  have hnl : (n, k) ∉ L := fun hm => by have := (h.t _ hm).det ht; cases this
  refine ⟨hI', ?_, ?_, ?_, ?_, pos_step hr.at_ hs h.pos (by rw [tk_used hf.offT]; omega)⟩
  · intro x hx
    rcases List.mem_append.1 hx with hx | hx
    · exact h.room x hx
    · simp at hx; subst hx; exact ⟨e, hr⟩
  · rw [List.nodup_append]
    exact ⟨h.nodup, by simp, fun a ha b hb => by simp at hb; subst hb; intro e; subst e; exact hnl ha⟩
  · intro x hx
    by_cases hxx : x = (n, k)
    · subst hxx; exact bit_here hs (List.getElem?_set_self hf.lt)
    · rw [bit_other hs set_ne hxx]
      rcases List.mem_append.1 hx with hx | hx
      · exact h.t x hx
      · simp at hx; exact absurd hx hxx
  · intro x b hb
    by_cases hxx : x = (n, k)
    · subst hxx
      obtain ⟨s, h1, h2⟩ := hb
      rw [List.getElem?_set_self (List.getElem?_eq_some_iff.1 hs).1] at h1
      cases h1
      exact h.g0 _ _ ⟨sh, hs, h2⟩
    · rw [bit_other (sh' := tk sh k) hs (fun _ _ => rfl) hxx] at hb
      exact h.g0 x b hb
theorem g_zero {es : List Ent} {ss : List Shl} {L : List (Nat × Nat)} (h : Ok1 es ss L) {n : Nat} {s : Shl} (hs : ss[n]? = some s) : s.g.count true = 0 := by
  rw [List.count_eq_zero]
  intro hm
  obtain ⟨k, hk, hv⟩ := List.mem_iff_getElem.1 hm
  have := h.g0 (n, k) true ⟨s, hs, by rw [List.getElem?_eq_getElem hk, hv]⟩
  cases this
theorem free_setl {es : List Ent} {ss : List Shl} (n : Nat) : freeOf es (ss.map setl) n = freeOf es ss n + match es[n]? with | some _ => gOf ss n | none => 0 := by
  unfold freeOf gOf
  rw [List.getElem?_map]
  cases es[n]? with
  | none => simp
  | some e =>
    cases ss[n]? with
    | none => simp
    | some s =>
      simp only [Option.map_some]
      have h1 : (setl s).used = s.t.count true := by simp [setl, Shl.used, List.count_replicate]
      have h2 : s.used = s.t.count true + s.g.count true := rfl
      rw [h1, h2]
      omega
/-! ## the second part: giving back what was settled -/
structure Ok2 (es : List Ent) (ss : List Shl) (L : List (Nat × Nat)) (free : Int) (i : Nat) : Prop where
  inv : Inv es ss
  done : ∀ x ∈ L.take i, Bit Shl.g ss x true
  left : ∀ x ∈ L.drop i, Bit Shl.t ss x true ∧ Bit Shl.g ss x false
  f0 : ∀ x b, Bit Shl.f ss x b → b = false
  sum : sumF es ss (acts es) = free
  pos : ∀ d ∈ acts es, 0 ≤ freeOf es ss d.toNat
  gs : gsum ss = i
  ga : gA es ss = i
theorem ok2_start {es : List Ent} {ss : List Shl} {L : List (Nat × Nat)} (h : Ok1 es ss L) : Ok2 es (ss.map setl) L (sumF es ss (acts es)) 0 := by
  have hg : ∀ n, gOf ss n = 0 := fun n => by
    unfold gOf
    cases hs : ss[n]? with
    | none => rfl
    | some s => simp [g_zero h hs]
  have hfree : ∀ n, freeOf es (ss.map setl) n = freeOf es ss n := fun n => by
    rw [free_setl, hg]
    split <;> omega
  have hbit : ∀ x b, Bit Shl.t ss x b → Bit Shl.t (ss.map setl) x b := fun x b ⟨s, h1, h2⟩ => ⟨setl s, by rw [List.getElem?_map, h1]; rfl, h2⟩
  have hz : ∀ (s : Shl), (setl s).g.count true = 0 := fun s => by simp [setl, List.count_replicate]
  refine ⟨inv_setl h.inv, fun x hx => by simp at hx, fun x hx => ?_, fun x b hb => ?_, ?_, fun d hd => by rw [hfree]; exact h.pos d hd, ?_, ?_⟩
  · have hx : x ∈ L := by simpa using hx
    obtain ⟨e, hr⟩ := h.room x hx
    refine ⟨hbit _ _ (h.t x hx), ?_⟩
    obtain ⟨s, h1, h2⟩ := h.t x hx
    have hok := h.inv.ok x.1 e s hr.at_ h1
    have h3 : x.2 < s.t.length := (List.getElem?_eq_some_iff.1 h2).1
    refine ⟨setl s, by rw [List.getElem?_map, h1]; rfl, ?_⟩
    simp only [setl]
    rw [List.getElem?_replicate, if_pos (by have := hok.t; have := hok.g; omega)]
  · obtain ⟨s, h1, h2⟩ := hb
    rw [List.getElem?_map, Option.map_eq_some_iff] at h1
    obtain ⟨s0, _, rfl⟩ := h1
    simp only [setl] at h2
    rw [List.getElem?_replicate] at h2
    split at h2 <;> cases h2
    rfl
  · show ((acts es).map fun d => freeOf es (ss.map setl) d.toNat).sum = ((acts es).map fun d => freeOf es ss d.toNat).sum
    congr 1
    exact List.map_congr_left fun d _ => hfree _
  · have key : ∀ l : List Shl, gsum (l.map setl) = 0 := fun l => by
      induction l with
      | nil => rfl
      | cons a l ih =>
        have e1 : gsum ((a :: l).map setl) = (setl a).g.count true + gsum (l.map setl) := rfl
        rw [e1, ih, hz]
    exact key ss
  · unfold gA
    have : ∀ n, gOf (ss.map setl) n = 0 := fun n => by
      unfold gOf
      rw [List.getElem?_map]
      cases ss[n]? with
      | none => rfl
      | some s => simp [hz]
    have h0 : ∀ l : List Int, (l.map fun d => gOf (ss.map setl) d.toNat).sum = 0 := fun l => by
      induction l with
      | nil => rfl
      | cons a l ih => rw [List.map_cons, List.sum_cons, ih, this]; rfl
    exact h0 _

/-- what Give leaves of a sector that is not fresh -/
abbrev gv1 (sh : Shl) (k : Nat) : Shl := ⟨sh.t.set k false, sh.f, sh.g.set k true⟩
abbrev gv2 (sh : Shl) (k : Nat) : Shl := ⟨sh.t.set k false, sh.f.set k false, sh.g⟩
theorem giveS_old {sh : Shl} {k : Nat} (h : ∀ b, sh.f[k]? = some b → b = false) (eld : Bool) : giveS sh k eld = gv1 sh k := by
  unfold giveS
  have : (sh.f[k]?).getD false = false := by
    cases hf : sh.f[k]? with
    | none => rfl
    | some b => exact h b hf
  rw [this]
  rfl
theorem giveS_fresh {sh : Shl} {k : Nat} (h : sh.f[k]? = some true) : giveS sh k false = gv2 sh k := by
  unfold giveS
  rw [h]
  rfl
theorem ok2_give {es : List Ent} {ss : List Shl} {L : List (Nat × Nat)} {free : Int} {i : Nat} (h : Ok2 es ss L free i) (hL : L.Nodup) (hr : ∀ x ∈ L, ∃ e, Room es x e) {x : Nat × Nat} (hx : L[i]? = some x) {sh : Shl} (hs : ss[x.1]? = some sh) :
    sh.t[x.2]? = some true ∧ giveS sh x.2 false = gv1 sh x.2 ∧ Ok2 es (ss.set x.1 (gv1 sh x.2)) L free (i + 1) ∧ takenB es (ss.set x.1 (gv1 sh x.2)) (addr x) = false := by
  obtain ⟨n, k⟩ := x
  simp only at hs ⊢
  have hi : i < L.length := (List.getElem?_eq_some_iff.1 hx).1
  have hxe : L[i] = (n, k) := by rw [List.getElem?_eq_getElem hi] at hx; exact Option.some.inj hx
  have hd : L.drop i = (n, k) :: L.drop (i + 1) := by rw [List.drop_eq_getElem_cons hi, hxe]
  have htk : L.take (i + 1) = L.take i ++ [(n, k)] := by rw [List.take_succ_eq_append_getElem hi, hxe]
  have hmem : (n, k) ∈ L := List.mem_of_getElem? hx
  obtain ⟨e, hre⟩ := hr _ hmem
  obtain ⟨⟨s1, h1, ht⟩, ⟨s2, h2, hg⟩⟩ := h.left (n, k) (by rw [hd]; exact List.mem_cons_self ..)
  simp only at h1 h2 ht hg
  rw [hs] at h1 h2
  cases h1; cases h2
  have hne : ∀ y ∈ L.take i ++ L.drop (i + 1), y ≠ (n, k) := by
    have h3 : L = L.take i ++ ((n, k) :: L.drop (i + 1)) := by rw [← hd, List.take_append_drop]
    rw [h3] at hL
    have h4 := List.nodup_append.1 hL
    have h5 := (List.nodup_cons.1 h4.2.1).1
    intro y hy e
    subst e
    rcases List.mem_append.1 hy with hy | hy
    · exact h4.2.2 _ hy _ (List.mem_cons_self ..) rfl
    · exact h5 hy
  have hok := h.inv.ok n e sh hre.at_ hs
  have hkt : k < sh.t.length := (List.getElem?_eq_some_iff.1 ht).1
  have hkg : k < sh.g.length := (List.getElem?_eq_some_iff.1 hg).1
  have hu : (gv1 sh k).used = sh.used := by
    have c1 := count_clear ht
    have c2 := count_set hg
    unfold Shl.used
    simp only
    omega
  have hgc : ((gv1 sh k).g.count true : Int) = sh.g.count true + 1 := by
    have c2 := count_set hg
    simp only
    omega
  have hI' := inv_set (k := k) h.inv hs (sh.t.set k false) sh.f (sh.g.set k true) (by simp) rfl (by simp)
  have ht' : Bit Shl.t (ss.set n (gv1 sh k)) (n, k) false := bit_here hs (List.getElem?_set_self hkt)
  refine ⟨ht, giveS_old (fun b hb => h.f0 (n, k) b ⟨sh, hs, hb⟩) _, ⟨hI', ?_, ?_, ?_, ?_, ?_, ?_, ?_⟩, ?_⟩
  · intro y hy
    rw [htk] at hy
    rcases List.mem_append.1 hy with hy | hy
    · rw [bit_other (sh' := gv1 sh k) hs set_ne (hne y (List.mem_append_left _ hy))]
      exact h.done y hy
    · simp at hy
      subst hy
      exact bit_here hs (List.getElem?_set_self hkg)
  · intro y hy
    have hyn := hne y (List.mem_append_right _ hy)
    have := h.left y (by rw [hd]; exact List.mem_cons_of_mem _ hy)
    rw [bit_other (sh' := gv1 sh k) hs set_ne hyn, bit_other (sh' := gv1 sh k) hs set_ne hyn]
    exact this
  · intro y b hb
    by_cases hyn : y = (n, k)
    · subst hyn
      obtain ⟨s, h1, h2⟩ := hb
      rw [List.getElem?_set_self (List.getElem?_eq_some_iff.1 hs).1] at h1
      cases h1
      exact h.f0 _ _ ⟨sh, hs, h2⟩
    · rw [bit_other (sh' := gv1 sh k) hs (fun _ _ => rfl) hyn] at hb
      exact h.f0 y b hb
  · rw [sumF_set2 hre.at_ hre.act hs, h.sum, hu]; omega
  · refine pos_step hre.at_ hs h.pos ?_
    rw [hu]
    have := h.pos n (mem_acts hre.at_ hre.act)
    rw [Int.toNat_natCast] at this
    omega
  · have := gsum_set (sh' := gv1 sh k) hs
    have h9 := h.gs
    omega
  · rw [gA_set hre.at_ hre.act hs, h.ga, hgc]; omega
  · unfold takenB
    rw [hre.found h.inv.right]
    simp only
    obtain ⟨s, h1, h2⟩ := ht'
    simp only at h1 h2
    rw [h1]
    simp [h2]
/-! ## the third part: taking what is free -/
structure Ok3 (es : List Ent) (ss : List Shl) (L : List (Nat × Nat)) (free : Int) (n : Nat) (K : List (Nat × Nat)) : Prop where
  inv : Inv es ss
  held : ∀ x ∈ L, Bit Shl.t ss x true ∨ Bit Shl.g ss x true
  room : ∀ x ∈ K, ∃ e, Room es x e
  nodup : K.Nodup
  tf : ∀ x ∈ K, Bit Shl.t ss x true ∧ Bit Shl.f ss x true
  sum : sumF es ss (acts es) = free - K.length
  pos : ∀ d ∈ acts es, 0 ≤ freeOf es ss d.toNat
  gs : gsum ss = n
  ga : gA es ss = n
theorem ok3_start {es : List Ent} {ss : List Shl} {L : List (Nat × Nat)} {free : Int} {n : Nat} (h : Ok2 es ss L free n) : Ok3 es ss L free n [] := by
  refine ⟨h.inv, fun x hx => ?_, fun x hx => (by cases hx), List.nodup_nil, fun x hx => (by cases hx), by simp [h.sum], h.pos, h.gs, h.ga⟩
  rw [← List.take_append_drop n L] at hx
  rcases List.mem_append.1 hx with hx | hx
  · exact .inr (h.done x hx)
  · exact .inl (h.left x hx).1
theorem ok3_more {es : List Ent} {ss : List Shl} {L : List (Nat × Nat)} {free : Int} {n : Nat} {K : List (Nat × Nat)} (h : Ok3 es ss L free n K) (hi : (K.length : Int) < free) : (pickF (freeOf es ss) (acts es)).2 ≠ 0 := by
  obtain ⟨d, hd, h1⟩ := sum_pos (es := es) (ss := ss) (l := acts es) (by rw [h.sum]; omega)
  have := pickF_max (f := freeOf es ss) hd
  omega
theorem ok3_end {es : List Ent} {ss : List Shl} {L : List (Nat × Nat)} {free : Int} {n : Nat} {K : List (Nat × Nat)} (h : Ok3 es ss L free n K) (hi : (K.length : Int) = free) : (pickF (freeOf es ss) (acts es)).2 = 0 := by
  obtain ⟨h1, h2⟩ := sum_zero h.pos
  have hs := h.sum
  have h0 : sumF es ss (acts es) = 0 := by omega
  refine Classical.byContradiction fun hn => ?_
  obtain ⟨hm, hf, hp⟩ := pickF_pos hn
  have := h2 h0 _ hm
  omega
theorem ok3_take {es : List Ent} {ss : List Shl} {L : List (Nat × Nat)} {free : Int} {m : Nat} {K : List (Nat × Nat)} (h : Ok3 es ss L free m K) {n k : Nat} {sh : Shl} (hn : (pickF (freeOf es ss) (acts es)).1 = (n : Int)) (hp : 0 < (pickF (freeOf es ss) (acts es)).2) (hs : ss[n]? = some sh) (hf : IsFst sh.t sh.g k) :
    (n, k) ∉ L ∧ (∃ e, Room es (n, k) e) ∧ Ok3 es (ss.set n (tk sh k)) L free m (K ++ [(n, k)]) := by
  obtain ⟨e, hr, ht, hg, hI', hkf, hfp⟩ := took h.inv hn hp hs hf
  have hnl : (n, k) ∉ L := fun hm => by
    rcases h.held _ hm with h1 | h1
    · have := h1.det ht; cases this
    · have := h1.det hg; cases this
  have hnk : (n, k) ∉ K := fun hm => by have := (h.tf _ hm).1.det ht; cases this
  refine ⟨hnl, ⟨e, hr⟩, ⟨hI', ?_, ?_, ?_, ?_, ?_, pos_step hr.at_ hs h.pos (by rw [tk_used hf.offT]; omega), ?_, ?_⟩⟩
  · intro x hx
    have hxx : x ≠ (n, k) := fun e => by subst e; exact hnl hx
    rw [bit_other (sh' := tk sh k) hs set_ne hxx, bit_other (sh' := tk sh k) hs (fun _ _ => rfl) hxx]
    exact h.held x hx
  · intro x hx
    rcases List.mem_append.1 hx with hx | hx
    · exact h.room x hx
    · simp at hx; subst hx; exact ⟨e, hr⟩
  · rw [List.nodup_append]
    exact ⟨h.nodup, by simp, fun a ha b hb => by simp at hb; subst hb; intro e; subst e; exact hnk ha⟩
  · intro x hx
    by_cases hxx : x = (n, k)
    · subst hxx; exact ⟨bit_here hs (List.getElem?_set_self hf.lt), bit_here hs (List.getElem?_set_self hkf)⟩
    · rw [bit_other (sh' := tk sh k) hs set_ne hxx, bit_other (sh' := tk sh k) hs set_ne hxx]
      rcases List.mem_append.1 hx with hx | hx
      · exact h.tf x hx
      · simp at hx; exact absurd hx hxx
  · rw [sumF_set2 hr.at_ hr.act hs, h.sum, tk_used hf.offT]
    simp only [List.length_append, List.length_cons, List.length_nil]
    omega
  · have := gsum_set (sh' := tk sh k) hs
    have h9 := h.gs
    simp only at this
    omega
  · rw [gA_set hr.at_ hr.act hs, h.ga]; simp only; omega
/-! ## the fourth part: giving back what is fresh -/
structure Ok4 (es : List Ent) (ss : List Shl) (free : Int) (n : Nat) (K : List (Nat × Nat)) (i : Nat) : Prop where
  inv : Inv es ss
  left : ∀ x ∈ K.drop i, Bit Shl.t ss x true ∧ Bit Shl.f ss x true
  sum : sumF es ss (acts es) = free - K.length + i
  gs : gsum ss = n
  ga : gA es ss = n
theorem ok4_start {es : List Ent} {ss : List Shl} {L : List (Nat × Nat)} {free : Int} {n : Nat} {K : List (Nat × Nat)} (h : Ok3 es ss L free n K) : Ok4 es ss free n K 0 :=
  ⟨h.inv, fun x hx => h.tf x (by simpa using hx), by rw [h.sum]; simp, h.gs, h.ga⟩
theorem ok4_give {es : List Ent} {ss : List Shl} {free : Int} {m : Nat} {K : List (Nat × Nat)} {i : Nat} (h : Ok4 es ss free m K i) (hK : K.Nodup) (hr : ∀ x ∈ K, ∃ e, Room es x e) {x : Nat × Nat} (hx : K[i]? = some x) {sh : Shl} (hs : ss[x.1]? = some sh) :
    sh.t[x.2]? = some true ∧ giveS sh x.2 false = gv2 sh x.2 ∧ Ok4 es (ss.set x.1 (gv2 sh x.2)) free m K (i + 1) := by
  obtain ⟨n, k⟩ := x
  simp only at hs ⊢
  have hi : i < K.length := (List.getElem?_eq_some_iff.1 hx).1
  have hxe : K[i] = (n, k) := by rw [List.getElem?_eq_getElem hi] at hx; exact Option.some.inj hx
  have hd : K.drop i = (n, k) :: K.drop (i + 1) := by rw [List.drop_eq_getElem_cons hi, hxe]
  have hmem : (n, k) ∈ K := List.mem_of_getElem? hx
  obtain ⟨e, hre⟩ := hr _ hmem
  obtain ⟨⟨s1, h1, ht⟩, ⟨s2, h2, hf⟩⟩ := h.left (n, k) (by rw [hd]; exact List.mem_cons_self ..)
  simp only at h1 h2 ht hf
  rw [hs] at h1 h2
  cases h1; cases h2
  have hne : ∀ y ∈ K.drop (i + 1), y ≠ (n, k) := by
    have h3 : K = K.take i ++ ((n, k) :: K.drop (i + 1)) := by rw [← hd, List.take_append_drop]
    rw [h3] at hK
    have h5 := (List.nodup_cons.1 (List.nodup_append.1 hK).2.1).1
    intro y hy e
    subst e
    exact h5 hy
  have hu : sh.used = (gv2 sh k).used + 1 := by
    have c1 := count_clear ht
    unfold Shl.used
    simp only
    omega
  have hI' := inv_set (k := k) h.inv hs (sh.t.set k false) (sh.f.set k false) sh.g (by simp) (by simp) rfl
  refine ⟨ht, giveS_fresh hf, ⟨hI', ?_, ?_, ?_, ?_⟩⟩
  · intro y hy
    have hyn := hne y hy
    rw [bit_other (sh' := gv2 sh k) hs set_ne hyn, bit_other (sh' := gv2 sh k) hs set_ne hyn]
    exact h.left y (by rw [hd]; exact List.mem_cons_of_mem _ hy)
  · rw [sumF_set2 hre.at_ hre.act hs, h.sum]; omega
  · have := gsum_set (sh' := gv2 sh k) hs
    have h9 := h.gs
    simp only at this
    omega
  · rw [gA_set hre.at_ hre.act hs, h.ga]; simp only; omega
theorem sum_add (f g : Int → Int) : ∀ l : List Int, (l.map fun d => f d + g d).sum = (l.map f).sum + (l.map g).sum
  | [] => rfl
  | d :: l => by simp only [List.map_cons, List.sum_cons, sum_add f g l]; omega
theorem ok4_end {es : List Ent} {ss : List Shl} {free : Int} {n : Nat} {K : List (Nat × Nat)} (h : Ok4 es ss free n K K.length) :
    sumF es ss (acts es) = free ∧ gsum ss = n ∧ sumF es (ss.map setl) (acts es) = free + n := by
  have h1 : sumF es ss (acts es) = free := by rw [h.sum]; omega
  refine ⟨h1, h.gs, ?_⟩
  have h2 : sumF es (ss.map setl) (acts es) = ((acts es).map fun d => freeOf es ss d.toNat + gOf ss d.toNat).sum := by
    show ((acts es).map fun d => freeOf es (ss.map setl) d.toNat).sum = _
    congr 1
    refine List.map_congr_left fun d hd => ?_
    obtain ⟨m, e, hm, rfl, _⟩ := acts_mem hd
    rw [Int.toNat_natCast, free_setl, hm]
  rw [h2, sum_add]
  have h3 : ((acts es).map fun d => freeOf es ss d.toNat).sum = free := h1
  have h4 : ((acts es).map fun d => gOf ss d.toNat).sum = n := h.ga
  rw [h3, h4]
end Pg
end Go.Proofs.YtejaonodaplbhaaDoor
