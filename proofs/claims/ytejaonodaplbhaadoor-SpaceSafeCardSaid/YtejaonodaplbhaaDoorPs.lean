import Derived.Test.YtejaonodaplbhaaDoorPg
namespace Go.Proofs.YtejaonodaplbhaaDoor
namespace Ps
open Go Go.Proofs.YtejaonodaplbhaaDoor.Hp Sp S2 S3 S4 S5 S6 S7 S8 S9 S10 S14 S15 Pf Pg
set_option maxRecDepth 10000
set_option linter.unusedVariables false
set_option linter.unusedSimpArgs false
def usum (ss : List Shl) : Nat := (ss.map Shl.used).sum
theorem usum_set : ∀ {ss : List Shl} {n : Nat} {sh sh' : Shl}, ss[n]? = some sh → (usum (ss.set n sh') : Int) = usum ss - sh.used + sh'.used
  | [], _, _, _, h => by simp at h
  | s :: ss, 0, sh, sh', h => by
    simp at h
    subst h
    simp only [usum, List.set_cons_zero, List.map_cons, List.sum_cons]
    omega
  | s :: ss, n + 1, sh, sh', h => by
    simp at h
    have := usum_set (sh' := sh') h
    simp only [usum, List.set_cons_succ, List.map_cons, List.sum_cons] at this ⊢
    omega
theorem usum_take {ss : List Shl} {i : Nat} {s : Shl} (h : ss[i]? = some s) : usum (ss.take (i + 1)) = usum (ss.take i) + s.used := by
  have hi : i < ss.length := (List.getElem?_eq_some_iff.1 h).1
  have hs : ss[i] = s := by rw [List.getElem?_eq_getElem hi] at h; exact Option.some.inj h
  rw [List.take_succ_eq_append_getElem hi, hs]
  simp [usum]
theorem usum_le (ss : List Shl) (i : Nat) : usum (ss.take i) ≤ usum ss := by
  have h : usum ss = usum (ss.take i) + usum (ss.drop i) := by
    conv => lhs; rw [← List.take_append_drop i ss]
    simp only [usum, List.map_append, List.sum_append]
  omega
theorem usum_zero {ss : List Shl} (h : ∀ s ∈ ss, s.used = 0) : usum ss = 0 := by
  induction ss with
  | nil => rfl
  | cons s ss ih =>
    have h1 := ih fun x hx => h x (List.mem_cons_of_mem _ hx)
    have h2 := h s (List.mem_cons_self ..)
    have h3 : usum (s :: ss) = s.used + usum ss := by simp [usum]
    omega
theorem usum_setl (ss : List Shl) : usum (ss.map setl) + gsum ss = usum ss := by
  induction ss with
  | nil => rfl
  | cons s ss ih =>
    have h1 : (setl s).used = s.t.count true := by simp [setl, Shl.used, List.count_replicate]
    have h2 : s.used = s.t.count true + s.g.count true := rfl
    simp only [usum, gsum, List.map_cons, List.sum_cons] at ih ⊢
    omega
def at_ (x : Nat × Nat) : Nat := x.1 * 4096 + x.2
theorem at_ne {x y : Nat × Nat} (hx : x.2 < 4096) (hy : y.2 < 4096) (h : x ≠ y) : at_ x ≠ at_ y := fun e => h (by
  unfold at_ at e
  have h1 : x.1 = y.1 := by omega
  have h2 : x.2 = y.2 := by omega
  exact Prod.ext h1 h2)
structure Sf (es : List Ent) (ss : List Shl) (L G : List (Nat × Nat)) (F : List Bool) : Prop where
  inv : Inv es ss
  room : ∀ x ∈ L, ∃ e, Room es x e
  roomG : ∀ x ∈ G, ∃ e, Room es x e
  nodup : L.Nodup
  t : ∀ x ∈ L, Bit Shl.t ss x true
  tg : ∀ x ∈ L, Bit Shl.g ss x false
  g : ∀ x ∈ G, Bit Shl.g ss x true
  f : ∀ x ∈ L, ∃ b, Bit Shl.f ss x b ∧ F[at_ x]? = some b
  fl : F.length = 32768
  pos : ∀ d ∈ acts es, 0 ≤ freeOf es ss d.toNat
  us : usum ss = L.length + G.length
  gs : gsum ss = G.length
theorem sf_start {es : List Ent} (hok : okR es = true) {m : Nat} (hm : m = 32768) : Sf es (turned [] es) [] [] (List.replicate m false) := by
  have h1 := ok1_start hok
  refine ⟨h1.inv, fun x hx => (by cases hx), fun x hx => (by cases hx), List.nodup_nil, fun x hx => (by cases hx), fun x hx => (by cases hx), fun x hx => (by cases hx), fun x hx => (by cases hx), by rw [List.length_replicate]; exact hm, h1.pos, usum_zero fun s hs => ?_, ?_⟩
  · obtain ⟨i, hi, rfl⟩ := List.mem_iff_getElem.1 hs
    have hl := hi
    rw [turned_len [] es (by simp)] at hl
    have h2 := turned_at [] es i _ (List.getElem?_eq_getElem hl)
    rw [List.getElem?_eq_getElem hi] at h2
    rw [Option.some.inj h2]
    exact grown_used _
  · have hz : ∀ s ∈ turned [] es, s.g.count true = 0 := fun s hs => by
      obtain ⟨i, hi, rfl⟩ := List.mem_iff_getElem.1 hs
      exact g_zero h1 (List.getElem?_eq_getElem hi)
    generalize turned [] es = ss at hz
    induction ss with
    | nil => rfl
    | cons s ss ih =>
      have h2 := ih fun x hx => hz x (List.mem_cons_of_mem _ hx)
      have h3 := hz s (List.mem_cons_self ..)
      have h4 : gsum (s :: ss) = s.g.count true + gsum ss := by simp [gsum]
      rw [h4, h3, h2]
      rfl
theorem sf_none {es : List Ent} {ss : List Shl} {L G : List (Nat × Nat)} {F : List Bool} (h : Sf es ss L G F) (h0 : (pickF (freeOf es ss) (acts es)).2 = 0) : sumF es ss (acts es) = 0 := by
  have h1 := (sum_zero h.pos).1
  refine Classical.byContradiction fun hn => ?_
  obtain ⟨d, hd, hp⟩ := sum_pos (es := es) (ss := ss) (l := acts es) (by omega)
  have := pickF_max (f := freeOf es ss) hd
  omega
theorem sf_take {es : List Ent} {ss : List Shl} {L G : List (Nat × Nat)} {F : List Bool} (h : Sf es ss L G F) {n k : Nat} {sh : Shl} (hn : (pickF (freeOf es ss) (acts es)).1 = (n : Int)) (hp : 0 < (pickF (freeOf es ss) (acts es)).2) (hs : ss[n]? = some sh) (hf : IsFst sh.t sh.g k) :
    (n, k) ∉ L ∧ (n, k) ∉ G ∧ (∃ e, Room es (n, k) e) ∧ Sf es (ss.set n (tk sh k)) (L ++ [(n, k)]) G (F.set (n * 4096 + k) true) := by
  obtain ⟨e, hr, ht, hg, hI', hkf, hfp⟩ := took h.inv hn hp hs hf
  have hnl : (n, k) ∉ L := fun hm => by have := (h.t _ hm).det ht; cases this
  have hng : (n, k) ∉ G := fun hm => by have := (h.g _ hm).det hg; cases this
  have hsm := hr.small h.inv.right
  simp only at hsm
  have hsplit : ∀ x ∈ L ++ [(n, k)], x = (n, k) ∨ (x ∈ L ∧ x ≠ (n, k)) := fun x hx => by
    rcases List.mem_append.1 hx with hx | hx
    · exact .inr ⟨hx, fun e => hnl (e ▸ hx)⟩
    · simp at hx; exact .inl hx
  refine ⟨hnl, hng, ⟨e, hr⟩, ⟨hI', ?_, h.roomG, ?_, ?_, ?_, ?_, ?_, by simp [h.fl], pos_step hr.at_ hs h.pos (by rw [tk_used hf.offT]; omega), ?_, ?_⟩⟩
  · intro x hx
    rcases hsplit x hx with rfl | ⟨hx, _⟩
    · exact ⟨e, hr⟩
    · exact h.room x hx
  · rw [List.nodup_append]
    exact ⟨h.nodup, by simp, fun a ha b hb => by simp at hb; subst hb; intro e; subst e; exact hnl ha⟩
  · intro x hx
    rcases hsplit x hx with rfl | ⟨hx, hne⟩
    · exact bit_here hs (List.getElem?_set_self hf.lt)
    · rw [bit_other (sh' := tk sh k) hs set_ne hne]; exact h.t x hx
  · intro x hx
    rcases hsplit x hx with rfl | ⟨hx, hne⟩
    · exact bit_here (sh' := tk sh k) hs hf.offG
    · rw [bit_other (sh' := tk sh k) hs (fun _ _ => rfl) hne]; exact h.tg x hx
  · intro x hx
    have hne : x ≠ (n, k) := fun e => hng (e ▸ hx)
    rw [bit_other (sh' := tk sh k) hs (fun _ _ => rfl) hne]; exact h.g x hx
  · intro x hx
    rcases hsplit x hx with rfl | ⟨hx, hne⟩
    · exact ⟨true, bit_here hs (List.getElem?_set_self hkf), List.getElem?_set_self (by rw [h.fl]; omega)⟩
    · obtain ⟨b, h1, h2⟩ := h.f x hx
      obtain ⟨e2, hr2⟩ := h.room x hx
      have := at_ne (hr2.small h.inv.right).2 (show (n, k).2 < 4096 from hsm.2) hne
      refine ⟨b, ?_, ?_⟩
      · rw [bit_other (sh' := tk sh k) hs set_ne hne]; exact h1
      · rw [List.getElem?_set_ne (show n * 4096 + k ≠ at_ x from fun e => this e.symm)]; exact h2
  · have h1 := usum_set (sh' := tk sh k) hs
    rw [tk_used hf.offT] at h1
    have h2 := h.us
    simp only [List.length_append, List.length_cons, List.length_nil]
    omega
  · have := gsum_set (sh' := tk sh k) hs
    have h9 := h.gs
    simp only at this
    omega
theorem sf_settle {es : List Ent} {ss : List Shl} {L G : List (Nat × Nat)} {F : List Bool} (h : Sf es ss L G F) {m : Nat} (hm : m = 32768) : Sf es (ss.map setl) L [] (List.replicate m false) := by
  have h1 := usum_setl ss
  have h2 := h.us
  have h3 := h.gs
  have hbit : ∀ x ∈ L, ∃ s, ss[x.1]? = some s ∧ (ss.map setl)[x.1]? = some (setl s) ∧ s.t[x.2]? = some true ∧ s.g[x.2]? = some false ∧ ∃ b, s.f[x.2]? = some b := fun x hx => by
    obtain ⟨s1, g1, g2⟩ := h.t x hx
    obtain ⟨s2, g3, g4⟩ := h.tg x hx
    obtain ⟨b, ⟨s3, g5, g6⟩, _⟩ := h.f x hx
    rw [g1] at g3 g5
    cases g3; cases g5
    exact ⟨s1, g1, by rw [List.getElem?_map, g1]; rfl, g2, g4, b, g6⟩
  have hfree : ∀ n, freeOf es ss n ≤ freeOf es (ss.map setl) n := fun n => by
    rw [free_setl]
    have : 0 ≤ gOf ss n := by unfold gOf; split <;> omega
    split <;> omega
  refine ⟨inv_setl h.inv, h.room, fun x hx => (by cases hx), h.nodup, ?_, ?_, fun x hx => (by cases hx), ?_, by rw [List.length_replicate]; exact hm, fun d hd => Int.le_trans (h.pos d hd) (hfree _), by simp only [List.length_nil]; omega, ?_⟩
  · intro x hx
    obtain ⟨s, _, g2, g3, _⟩ := hbit x hx
    exact ⟨setl s, g2, g3⟩
  · intro x hx
    obtain ⟨s, _, g2, _, g4, _⟩ := hbit x hx
    exact ⟨setl s, g2, by simp only [setl, List.getElem?_replicate]; rw [if_pos (List.getElem?_eq_some_iff.1 g4).1]⟩
  · intro x hx
    obtain ⟨s, _, g2, _, _, b, g5⟩ := hbit x hx
    obtain ⟨e, hr⟩ := h.room x hx
    have := hr.small h.inv.right
    refine ⟨false, ⟨setl s, g2, by simp only [setl, List.getElem?_replicate]; rw [if_pos (List.getElem?_eq_some_iff.1 g5).1]⟩, ?_⟩
    rw [List.getElem?_replicate, if_pos (by unfold at_; omega)]
  · have hz : ∀ l : List Shl, gsum (l.map setl) = 0 := fun l => by
      induction l with
      | nil => rfl
      | cons s l ih =>
        have : (setl s).g.count true = 0 := by simp [setl, List.count_replicate]
        simp only [gsum, List.map_cons, List.sum_cons] at ih ⊢
        omega
    rw [hz]; rfl
theorem sf_give {es : List Ent} {ss : List Shl} {L G : List (Nat × Nat)} {F : List Bool} (h : Sf es ss L G F) {i : Nat} {x : Nat × Nat} (hx : L[i]? = some x) {sh : Shl} (hs : ss[x.1]? = some sh) :
    sh.t[x.2]? = some true ∧ (giveS sh x.2 false).t[x.2]? = some false ∧ ∃ b, F[at_ x]? = some b ∧
      Sf es (ss.set x.1 (giveS sh x.2 false)) (L.take i ++ L.drop (i + 1)) (if b then G else G ++ [x]) (F.set (at_ x) false) := by
  obtain ⟨n, k⟩ := x
  simp only at hs ⊢
  have hi : i < L.length := (List.getElem?_eq_some_iff.1 hx).1
  have hxe : L[i] = (n, k) := by rw [List.getElem?_eq_getElem hi] at hx; exact Option.some.inj hx
  have hmem : (n, k) ∈ L := List.mem_of_getElem? hx
  have hL0 : L = L.take i ++ ((n, k) :: L.drop (i + 1)) := by
    conv => lhs; rw [← List.take_append_drop i L, List.drop_eq_getElem_cons hi, hxe]
  obtain ⟨e, hre⟩ := h.room _ hmem
  have hsm := hre.small h.inv.right
  simp only at hsm
  obtain ⟨s1, h1, ht⟩ := h.t _ hmem
  obtain ⟨s2, h2, hg⟩ := h.tg _ hmem
  obtain ⟨b, ⟨s3, h3, hfb⟩, hFb⟩ := h.f _ hmem
  simp only at h1 h2 h3 ht hg hfb
  rw [hs] at h1 h2 h3
  cases h1; cases h2; cases h3
  have hnd := h.nodup
  rw [hL0] at hnd
  have hnd4 := List.nodup_append.1 hnd
  have hnd5 := List.nodup_cons.1 hnd4.2.1
  have hsub : ∀ y ∈ L.take i ++ L.drop (i + 1), y ∈ L ∧ y ≠ (n, k) := by
    intro y hy
    rcases List.mem_append.1 hy with hy | hy
    · exact ⟨List.mem_of_mem_take hy, fun e => hnd4.2.2 _ hy _ (List.mem_cons_self ..) e⟩
    · exact ⟨List.mem_of_mem_drop hy, fun e => hnd5.1 (e ▸ hy)⟩
  have hlen : (L.take i ++ L.drop (i + 1)).length + 1 = L.length := by simp; omega
  have hkt : k < sh.t.length := (List.getElem?_eq_some_iff.1 ht).1
  have hkg : k < sh.g.length := (List.getElem?_eq_some_iff.1 hg).1
  have hkf : k < sh.f.length := (List.getElem?_eq_some_iff.1 hfb).1
  have c1 := count_clear ht
  have c2 := count_set hg
  have eB : giveS sh k false = if b then gv2 sh k else gv1 sh k := by
    cases b with
    | true => exact giveS_fresh hfb
    | false => exact giveS_old (fun b hb => by rw [hfb] at hb; cases hb; rfl) _
  have ht' : (giveS sh k false).t = sh.t.set k false := by rw [eB]; cases b <;> rfl
  have hI' : Inv es (ss.set n (giveS sh k false)) := by
    rw [eB]
    cases b with
    | true => exact inv_set (k := k) h.inv hs (sh.t.set k false) (sh.f.set k false) sh.g (by simp) (by simp) rfl
    | false => exact inv_set (k := k) h.inv hs (sh.t.set k false) sh.f (sh.g.set k true) (by simp) rfl (by simp)
  have hgo : ∀ j, j ≠ k → (giveS sh k false).g[j]? = sh.g[j]? := by rw [eB]; cases b with
    | true => exact fun _ _ => rfl
    | false => exact set_ne
  have hfo : ∀ j, j ≠ k → (giveS sh k false).f[j]? = sh.f[j]? := by rw [eB]; cases b with
    | true => exact set_ne
    | false => exact fun _ _ => rfl
  have hto : ∀ j, j ≠ k → (giveS sh k false).t[j]? = sh.t[j]? := by rw [ht']; exact set_ne
  have hu : ((giveS sh k false).used : Int) = sh.used - (if b then 1 else 0) := by
    rw [eB]
    unfold Shl.used
    cases b <;> simp only [if_true, if_false, Bool.false_eq_true] <;> omega
  have hgc : ((giveS sh k false).g.count true : Int) = sh.g.count true + (if b then 0 else 1) := by
    rw [eB]
    cases b <;> simp only [if_true, if_false, Bool.false_eq_true] <;> omega
  have hGl : ((if b then G else G ++ [(n, k)]).length : Int) = G.length + (if b then 0 else 1) := by
    cases b <;> simp
  have hb01 : (if b then (1 : Int) else 0) + (if b then 0 else 1) = 1 := by cases b <;> rfl
  have hb0 : 0 ≤ (if b then (1 : Int) else 0) := by cases b <;> decide
  refine ⟨ht, by rw [ht']; exact List.getElem?_set_self hkt, b, hFb, ⟨hI', fun y hy => h.room y (hsub y hy).1, ?_, ?_, ?_, ?_, ?_, ?_, by simp [h.fl], ?_, ?_, ?_⟩⟩
  · intro y hy
    cases b with
    | true => exact h.roomG y hy
    | false =>
      rcases List.mem_append.1 hy with hy | hy
      · exact h.roomG y hy
      · simp at hy; subst hy; exact ⟨e, hre⟩
  · rw [List.nodup_append]
    exact ⟨hnd4.1, hnd5.2, fun a ha c hc => hnd4.2.2 a ha c (List.mem_cons_of_mem _ hc)⟩
  · intro y hy
    rw [bit_other hs hto (hsub y hy).2]; exact h.t y (hsub y hy).1
  · intro y hy
    rw [bit_other hs hgo (hsub y hy).2]; exact h.tg y (hsub y hy).1
  · intro y hy
    by_cases hyn : y = (n, k)
    · subst hyn
      cases b with
      | true => exact absurd ((h.g _ hy).det ⟨sh, hs, hg⟩) (by decide)
      | false => rw [eB]; exact bit_here (sh' := gv1 sh k) hs (List.getElem?_set_self hkg)
    · rw [bit_other hs hgo hyn]
      cases b with
      | true => exact h.g y hy
      | false =>
        rcases List.mem_append.1 hy with hy | hy
        · exact h.g y hy
        · simp at hy; exact absurd hy hyn
  · intro y hy
    obtain ⟨hyL, hne⟩ := hsub y hy
    obtain ⟨c, g1, g2⟩ := h.f y hyL
    obtain ⟨e2, hr2⟩ := h.room y hyL
    have := at_ne (hr2.small h.inv.right).2 (show (n, k).2 < 4096 from hsm.2) hne
    refine ⟨c, ?_, ?_⟩
    · rw [bit_other hs hfo hne]; exact g1
    · rw [List.getElem?_set_ne (fun e => this e.symm)]; exact g2
  · refine pos_step hre.at_ hs h.pos ?_
    have := h.pos n (mem_acts hre.at_ hre.act)
    rw [Int.toNat_natCast] at this
    omega
  · have h5 := usum_set (sh' := giveS sh k false) hs
    have h6 := h.us
    omega
  · have h5 := gsum_set (sh' := giveS sh k false) hs
    have h6 := h.gs
    omega
end Ps
end Go.Proofs.YtejaonodaplbhaaDoor
