import Derived.Test.YtlldbcdcpjfloaaPl2
namespace Go.Proofs.Ytlldbcdcpjfloaa
open Go Go.Proofs.Ytlldbcdcpjfloaa.Hp Pp
set_option maxRecDepth 10000
set_option linter.unusedVariables false
set_option linter.unusedSimpArgs false
attribute [local irreducible] wpList Code.wp wpAny wpAnyK
/-! ## a list of regions -/
abbrev Zr := Int × Value
def rcells (zs : List Zr) : List Value := zs.flatMap fun z => [I z.1, z.2]
theorem rcells_len : ∀ zs, (rcells zs).length = zs.length * 2
  | [] => rfl
  | z :: zs => by
    have := rcells_len zs
    unfold rcells at this ⊢
    simp only [List.flatMap_cons, List.length_append, List.length_cons, List.length_nil, this]
    omega
theorem rcells_app (a b : List Zr) : rcells (a ++ b) = rcells a ++ rcells b := by simp [rcells]
theorem rcells_at : ∀ (zs : List Zr) (k : Nat) (z : Zr), zs[k]? = some z → (rcells zs)[k * 2]? = some (I z.1) ∧ (rcells zs)[k * 2 + 1]? = some z.2
  | [], _, _, h => by simp at h
  | z :: zs, 0, _, h => by simp at h; subst h; exact ⟨rfl, rfl⟩
  | z :: zs, k + 1, z', h => by
    have h1 := rcells_at zs k z' (by simpa using h)
    have e1 : (k + 1) * 2 = k * 2 + 2 := by omega
    have e2 : rcells (z :: zs) = I z.1 :: z.2 :: rcells zs := rfl
    rw [e1, e2]
    exact h1
theorem rcells_set : ∀ (zs : List Zr) (k : Nat) (d : Int) (u v : Value), zs[k]? = some (d, u) → (rcells zs).set (k * 2 + 1) v = rcells (zs.set k (d, v))
  | [], _, _, _, _, h => by simp at h
  | z :: zs, 0, d, u, v, h => by simp at h; subst h; rfl
  | z :: zs, k + 1, d, u, v, h => by
    have h1 := rcells_set zs k d u v (by simpa using h)
    have e1 : (k + 1) * 2 + 1 = (k * 2 + 1) + 1 + 1 := by omega
    have e2 : rcells (z :: zs) = I z.1 :: z.2 :: rcells zs := rfl
    rw [e1, e2, List.set_cons_succ, List.set_cons_succ, h1]
    rfl
def Rg (z : Zr) (r : Reg) : Assn := fun m => z.1 = r.1 ∧ sl 3 1 z.2 (r.2.map I) m
def RegsA (v : Value) (rs : List Reg) : Assn := fun m => ∃ zs : List Zr, zs.length = rs.length ∧ star [sl 31 2 v (rcells zs), many Rg zs rs] m
theorem j_regs {E : World} {X : Act → World → Prop} {n : Nat} {f : Fr} {L : List Assn} {v : Value} {rs : List Reg}
    (h : ∀ zs : List Zr, zs.length = rs.length → J E X n f (sl 31 2 v (rcells zs) :: many Rg zs rs :: L)) : J E X n f (RegsA v rs :: L) :=
  j_ex fun zs => j_and fun hl => j_star (h zs hl)
theorem regs_shut {v : Value} {rs : List Reg} {zs : List Zr} (hl : zs.length = rs.length) : ∀ m, star [sl 31 2 v (rcells zs), many Rg zs rs] m → RegsA v rs m := fun _ h => ⟨zs, hl, h⟩
theorem rg_shut {z : Zr} {d : Int} {ad : List Int} (h : z.1 = d) : ∀ m, star [sl 3 1 z.2 (ad.map I)] m → Rg z (d, ad) m := by
  rintro m ⟨f, g, hs, hA, _⟩
  obtain ⟨base, len, cap, e1, e2, e3, e4, hor⟩ := hA
  refine ⟨h, base, len, cap, e1, e2, e3, e4, ?_⟩
  rcases hor with h0 | ⟨b, sp, h1, h2, h3⟩
  · exact .inl h0
  · exact .inr ⟨b, sp, h1, h2, hs.left h3⟩
theorem j_rg {E : World} {X : Act → World → Prop} {n : Nat} {f : Fr} {L : List Assn} {z : Zr} {r : Reg} (h : z.1 = r.1 → J E X n f (sl 3 1 z.2 (r.2.map I) :: L)) : J E X n f (Rg z r :: L) := j_and h
theorem stars_eraseL {α β : Type} (A : α → β → Assn) : ∀ (l : List α) (bs : List β) (i : Nat) (a : α), (stars A (l.set i a) bs).eraseIdx i = (stars A l bs).eraseIdx i
  | [], bs, i, a => by simp [stars]
  | _ :: _, [], 0, a => by simp [stars]
  | _ :: _, [], i + 1, a => by simp [stars]
  | a' :: l, b' :: bs, 0, a => by simp [stars]
  | a' :: l, b' :: bs, i + 1, a => by simp [stars, stars_eraseL A l bs i a]
theorem many_set {α β : Type} {A : α → β → Assn} {l : List α} {bs : List β} {i : Nat} {a : α} {b : β} (ha : i < l.length) (hb : i < bs.length) : ∀ m, star [A a b, manyBut A l bs i] m → many A (l.set i a) (bs.set i b) m := by
  intro m h
  refine many_shut (i := i) (a := a) (b' := b) (by simp [ha]) hb ?_
  unfold manyBut at h ⊢
  rw [stars_eraseL]
  exact h
abbrev OR (A : Assn) (xs : List Int) : Value → List Assn → Prop := fun v B => (¬ okL xs ∧ v = .tuple #[.slice none 0 0, err 110] ∧ B = [A]) ∨ (okL xs ∧ ∃ sv, v = .tuple #[sv, .nilIface] ∧ B = [RegsA sv (regs (srt xs)), A])
abbrev QR (E : World) (A : Assn) (xs : List Int) (F : List Assn) : Exit → Act → World → Prop := bodyPost Try.prog Try.f10 (ends E (OR A xs) F)
abbrev IR (sb : Option Addr) (sn sc : Nat) (x : Nat × Value) : Fr := [(21, I x.1), (20, I sn), (19, .slice sb sn sc), (6, x.2)]
abbrev AR (A X : Assn) (S : List Int) (sb : Option Addr) (sn sc : Nat) (x : Nat × Value) : List Assn := [RegsA x.2 (regs (S.take x.1)), sl 3 1 (.slice sb sn sc) (S.map I), A, X]
abbrev RR (E : World) (A X : Assn) (S : List Int) (sb : Option Addr) (sn sc kk : Nat) : Act → World → Prop := Rnd E 71 (IR sb sn sc) (AR A X S sb sn sc) (fun x => x.1 ≤ sn) (fun x => sn - x.1) kk
set_option maxHeartbeats 4000000 in
theorem reg13 {A : Assn} (E : World) (X : Assn) {xs S : List Int} {sb : Option Addr} {sn sc kk i k : Nat} {a d : Int} {ad : List Int} {ov : Value} {rs : List Reg} (hr : rs[k]? = some (d, ad)) (hk : rs.length ≤ 1000) (has : ad.length ≤ 4)
    (hset : rs.set k (d, ad ++ [a]) = regs (S.take (i + 1))) (hi : i < sn) (hkk : sn - (i + 1) < kk) (hsn : sn ≤ 1000) :
    J E (here Try.prog [.r, .r, .r, .r, .l, .r, .b, .body (RR E A X S sb sn sc kk), .r, .r, .l, .b, .r, .r, .r, .r] Try.f10 (QR E A xs [X])) 71 [(6, ov), (8, I a), (10, I k), (19, .slice sb sn sc), (20, I sn), (21, I i)] [RegsA ov rs, sl 3 1 (.slice sb sn sc) (S.map I), A, X] := by
  have hkl : k < rs.length := (List.getElem?_eq_some_iff.1 hr).1
  refine j_here rfl ?_
  refine j_regs fun zs hz => ?_
  have hkz : k < zs.length := by omega
  obtain ⟨z, hzk⟩ : ∃ z, zs[k]? = some z := ⟨zs[k], List.getElem?_eq_getElem hkz⟩
  obtain ⟨c1, c2⟩ := rcells_at zs k z hzk
  have hcl := rcells_len zs
  refine j_sl (by intro e; rw [e] at hcl; simp at hcl; omega) ?_
  rintro b n c sp rfl h1 h2 h3 h4
  rw [hcl] at h1
  have hn : n = zs.length := by omega
  refine j_nm rfl ?_
  refine j_front [1] (j_many k hzk hr ?_)
  refine j_rg fun hzd => ?_
  have hzd : z.1 = d := hzd
  (refine j_nm rfl ?_; repeat (first | refine jo_cons ?_ | (refine jo_iso ?_; first | (refine jo_isbin ?_; first | refine jo_v (by first | exact pv_add rfl rfl (by omega) | exact pv_sub rfl rfl (by omega)) rfl ?_ | refine jo_pure tab_ok rfl rfl ?_ | refine jo_v (by first | exact pv_add64 rfl rfl | exact pv_ptr_eq tab_ok rfl rfl rfl | exact pv_ptr_ne tab_ok rfl rfl rfl | exact pv_if_eq tab_ok rfl rfl rfl (.inl rfl) | exact pv_if_eq tab_ok rfl rfl rfl (.inr ⟨_, _, rfl⟩) | exact pv_if_ne tab_ok rfl rfl rfl (.inl rfl) | exact pv_if_ne tab_ok rfl rfl rfl (.inr ⟨_, _, rfl⟩)) rfl ?_) | refine jo_pure tab_ok rfl rfl ?_ | refine jo_want rfl ?_ | refine jo_skip rfl rfl ?_ | refine jo_load tab_ok rfl rfl rfl (by first | ((repeat first | exact Rd.here rfl | refine Rd.there ?_); done) | assumption) rfl ?_) | refine jo_nil ?_ | refine jc_seq ?_ | refine jc_skip ?_ | refine jc_region ?_ | refine jc_block ?_ | refine jc_ret ?_ | refine jc_exit ?_ | refine jx_then ?_ | refine jx_then_exit ?_ | refine jx_then_ret ?_ | refine jx_block ?_ | refine jx_block_ret ?_ | refine jx_block_hit ?_ | refine jx_block_miss rfl ?_ | refine jc_true rfl ?_ | refine jc_false rfl ?_))
  refine jo_v (pv_index tab_ok k rfl rfl rfl rfl rfl rfl (by omega)) rfl (jo_cons ?_)
  refine jo_pure tab_ok rfl rfl (jo_cons ?_)
  refine jo_load tab_ok rfl rfl rfl (Rd.there (Rd.there (Rd.here (v := z.2) (by rw [List.getElem?_append_left (by rw [hcl]; show 0 + k * 2 + 1 < _; omega)]; show (rcells zs)[0 + k * 2 + 1]? = _; rw [Nat.zero_add]; exact c2)))) rfl ?_
  (refine j_nm rfl ?_; repeat (first | refine jo_cons ?_ | (refine jo_iso ?_; first | (refine jo_isbin ?_; first | refine jo_v (by first | exact pv_add rfl rfl (by omega) | exact pv_sub rfl rfl (by omega)) rfl ?_ | refine jo_pure tab_ok rfl rfl ?_ | refine jo_v (by first | exact pv_add64 rfl rfl | exact pv_ptr_eq tab_ok rfl rfl rfl | exact pv_ptr_ne tab_ok rfl rfl rfl | exact pv_if_eq tab_ok rfl rfl rfl (.inl rfl) | exact pv_if_eq tab_ok rfl rfl rfl (.inr ⟨_, _, rfl⟩) | exact pv_if_ne tab_ok rfl rfl rfl (.inl rfl) | exact pv_if_ne tab_ok rfl rfl rfl (.inr ⟨_, _, rfl⟩)) rfl ?_) | refine jo_pure tab_ok rfl rfl ?_ | refine jo_want rfl ?_ | refine jo_skip rfl rfl ?_ | refine jo_load tab_ok rfl rfl rfl (by first | ((repeat first | exact Rd.here rfl | refine Rd.there ?_); done) | assumption) rfl ?_) | refine jo_nil ?_ | refine jc_seq ?_ | refine jc_skip ?_ | refine jc_region ?_ | refine jc_block ?_ | refine jc_ret ?_ | refine jc_exit ?_ | refine jx_then ?_ | refine jx_then_exit ?_ | refine jx_then_ret ?_ | refine jx_block ?_ | refine jx_block_ret ?_ | refine jx_block_hit ?_ | refine jx_block_miss rfl ?_ | refine jc_true rfl ?_ | refine jc_false rfl ?_))
  refine jo_buildSlice tab_ok (cs := [I a]) rfl rfl rfl rfl rfl rfl (by first | (simp [Instr.fill]; done) | simp [Instr.fill, Value.cells]) rfl fun bA => ?_
  (refine j_nm rfl ?_; repeat (first | refine jo_cons ?_ | (refine jo_iso ?_; first | (refine jo_isbin ?_; first | refine jo_v (by first | exact pv_add rfl rfl (by omega) | exact pv_sub rfl rfl (by omega)) rfl ?_ | refine jo_pure tab_ok rfl rfl ?_ | refine jo_v (by first | exact pv_add64 rfl rfl | exact pv_ptr_eq tab_ok rfl rfl rfl | exact pv_ptr_ne tab_ok rfl rfl rfl | exact pv_if_eq tab_ok rfl rfl rfl (.inl rfl) | exact pv_if_eq tab_ok rfl rfl rfl (.inr ⟨_, _, rfl⟩) | exact pv_if_ne tab_ok rfl rfl rfl (.inl rfl) | exact pv_if_ne tab_ok rfl rfl rfl (.inr ⟨_, _, rfl⟩)) rfl ?_) | refine jo_pure tab_ok rfl rfl ?_ | refine jo_want rfl ?_ | refine jo_skip rfl rfl ?_ | refine jo_load tab_ok rfl rfl rfl (by first | ((repeat first | exact Rd.here rfl | refine Rd.there ?_); done) | assumption) rfl ?_) | refine jo_nil ?_ | refine jc_seq ?_ | refine jc_skip ?_ | refine jc_region ?_ | refine jc_block ?_ | refine jc_ret ?_ | refine jc_exit ?_ | refine jx_then ?_ | refine jx_then_exit ?_ | refine jx_then_ret ?_ | refine jx_block ?_ | refine jx_block_ret ?_ | refine jx_block_hit ?_ | refine jx_block_miss rfl ?_ | refine jc_true rfl ?_ | refine jc_false rfl ?_))
  refine jo_append tab_ok 1 [I a] rfl rfl rfl rfl rfl rfl ⟨rfl, rfl⟩ rfl (.inr ⟨bA, 0, rfl, Rd.all⟩) (by simp [Hp.one]) (by intro len' hl'; simp only [List.length_map, Nat.mul_one] at hl'; exact ⟨by show (len' + 1) * 8 ≤ _; omega, by simp only [maxLen]; omega⟩) rfl fun v2 => ?_
  refine j_sl_len ?_
  rintro vb vn vc rfl _
  (refine j_nm rfl ?_; repeat (first | refine jo_cons ?_ | (refine jo_iso ?_; first | (refine jo_isbin ?_; first | refine jo_v (by first | exact pv_add rfl rfl (by omega) | exact pv_sub rfl rfl (by omega)) rfl ?_ | refine jo_pure tab_ok rfl rfl ?_ | refine jo_v (by first | exact pv_add64 rfl rfl | exact pv_ptr_eq tab_ok rfl rfl rfl | exact pv_ptr_ne tab_ok rfl rfl rfl | exact pv_if_eq tab_ok rfl rfl rfl (.inl rfl) | exact pv_if_eq tab_ok rfl rfl rfl (.inr ⟨_, _, rfl⟩) | exact pv_if_ne tab_ok rfl rfl rfl (.inl rfl) | exact pv_if_ne tab_ok rfl rfl rfl (.inr ⟨_, _, rfl⟩)) rfl ?_) | refine jo_pure tab_ok rfl rfl ?_ | refine jo_want rfl ?_ | refine jo_skip rfl rfl ?_ | refine jo_load tab_ok rfl rfl rfl (by first | ((repeat first | exact Rd.here rfl | refine Rd.there ?_); done) | assumption) rfl ?_) | refine jo_nil ?_ | refine jc_seq ?_ | refine jc_skip ?_ | refine jc_region ?_ | refine jc_block ?_ | refine jc_ret ?_ | refine jc_exit ?_ | refine jx_then ?_ | refine jx_then_exit ?_ | refine jx_then_ret ?_ | refine jx_block ?_ | refine jx_block_ret ?_ | refine jx_block_hit ?_ | refine jx_block_miss rfl ?_ | refine jc_true rfl ?_ | refine jc_false rfl ?_))
  refine jo_v (pv_index tab_ok k rfl rfl rfl rfl rfl rfl (by omega)) rfl (jo_cons ?_)
  refine jo_pure tab_ok rfl rfl (jo_cons ?_)
  refine jo_store tab_ok 3 rfl rfl rfl rfl rfl ⟨rfl, rfl⟩ (by rw [List.length_append, hcl]; show 0 + k * 2 + 1 < _; omega) ?_
  have e1 : (rcells zs ++ sp).set (0 + k * 2 + 1) (.slice vb vn vc) = rcells (zs.set k (z.1, .slice vb vn vc)) ++ sp := by
    rw [Nat.zero_add, List.set_append_left _ _ (by rw [hcl]; omega), rcells_set zs k z.1 z.2 _ hzk]
  have e2 : List.map I ad ++ [I a] = (ad ++ [a]).map I := by simp
  show J _ _ _ _ (cl b ((rcells zs ++ sp).set (0 + k * 2 + 1) (.slice vb vn vc)) _ :: _)
  rw [e1]
  refine j_nm rfl ?_
  refine j_close [0] rfl (sl_shut (size := 2) (by rw [rcells_len, List.length_set]; omega) h2 h3 (by rw [List.length_append, rcells_len, List.length_set] at *; omega)) ?_
  refine j_nm rfl ?_
  have e2 : List.map I (d, ad).2 ++ [I a] = (ad ++ [a]).map I := by simp
  rw [e2]
  refine j_close [1] rfl (rg_shut (z := (z.1, .slice vb vn vc)) (d := d) (ad := ad ++ [a]) hzd) ?_
  refine j_close [0, 2] rfl (many_set hkz hkl) ?_
  rw [hset]
  refine j_close [1, 0] rfl (regs_shut (by rw [List.length_set, ← hset, List.length_set]; exact hz)) ?_
  (refine j_nm rfl ?_; repeat (first | refine jo_cons ?_ | (refine jo_iso ?_; first | (refine jo_isbin ?_; first | refine jo_v (by first | exact pv_add rfl rfl (by omega) | exact pv_sub rfl rfl (by omega)) rfl ?_ | refine jo_pure tab_ok rfl rfl ?_ | refine jo_v (by first | exact pv_add64 rfl rfl | exact pv_ptr_eq tab_ok rfl rfl rfl | exact pv_ptr_ne tab_ok rfl rfl rfl | exact pv_if_eq tab_ok rfl rfl rfl (.inl rfl) | exact pv_if_eq tab_ok rfl rfl rfl (.inr ⟨_, _, rfl⟩) | exact pv_if_ne tab_ok rfl rfl rfl (.inl rfl) | exact pv_if_ne tab_ok rfl rfl rfl (.inr ⟨_, _, rfl⟩)) rfl ?_) | refine jo_pure tab_ok rfl rfl ?_ | refine jo_want rfl ?_ | refine jo_skip rfl rfl ?_ | refine jo_load tab_ok rfl rfl rfl (by first | ((repeat first | exact Rd.here rfl | refine Rd.there ?_); done) | assumption) rfl ?_) | refine jo_nil ?_ | refine jc_seq ?_ | refine jc_skip ?_ | refine jc_region ?_ | refine jc_block ?_ | refine jc_ret ?_ | refine jc_exit ?_ | refine jx_then ?_ | refine jx_then_exit ?_ | refine jx_then_ret ?_ | refine jx_block ?_ | refine jx_block_ret ?_ | refine jx_block_hit ?_ | refine jx_block_miss rfl ?_ | refine jc_true rfl ?_ | refine jc_false rfl ?_))
  exact jx_rnd (i + 1, .slice (some ⟨b, 0, none⟩) n c) [] [1] hi hkk ⟨rfl, rfl, rfl, rfl, trivial⟩ rfl
set_option maxHeartbeats 4000000 in
theorem reg11 {A : Assn} (E : World) (X : Assn) {xs S : List Int} {sb : Option Addr} {sn sc kk i : Nat} {a d : Int} {ov : Value} {rs : List Reg} (hk : rs.length < 1000)
    (hset : rs ++ [(d, [a])] = regs (S.take (i + 1))) (hi : i < sn) (hkk : sn - (i + 1) < kk) (hsn : sn ≤ 1000) :
    J E (here Try.prog [.r, .r, .r, .r, .l, .r, .b, .body (RR E A X S sb sn sc kk), .r, .r, .l, .b, .r, .r, .r, .l, .r, .l] Try.f10 (QR E A xs [X])) 71 [(6, ov), (8, I a), (9, I d), (10, I ((rs.length : Int) - 1)), (19, .slice sb sn sc), (20, I sn), (21, I i)] [RegsA ov rs, sl 3 1 (.slice sb sn sc) (S.map I), A, X] := by
  refine j_here rfl ?_
  refine j_regs fun zs hz => ?_
  (refine j_nm rfl ?_; repeat (first | refine jo_cons ?_ | (refine jo_iso ?_; first | (refine jo_isbin ?_; first | refine jo_v (by first | exact pv_add rfl rfl (by omega) | exact pv_sub rfl rfl (by omega)) rfl ?_ | refine jo_pure tab_ok rfl rfl ?_ | refine jo_v (by first | exact pv_add64 rfl rfl | exact pv_ptr_eq tab_ok rfl rfl rfl | exact pv_ptr_ne tab_ok rfl rfl rfl | exact pv_if_eq tab_ok rfl rfl rfl (.inl rfl) | exact pv_if_eq tab_ok rfl rfl rfl (.inr ⟨_, _, rfl⟩) | exact pv_if_ne tab_ok rfl rfl rfl (.inl rfl) | exact pv_if_ne tab_ok rfl rfl rfl (.inr ⟨_, _, rfl⟩)) rfl ?_) | refine jo_pure tab_ok rfl rfl ?_ | refine jo_want rfl ?_ | refine jo_skip rfl rfl ?_ | refine jo_load tab_ok rfl rfl rfl (by first | ((repeat first | exact Rd.here rfl | refine Rd.there ?_); done) | assumption) rfl ?_) | refine jo_nil ?_ | refine jc_seq ?_ | refine jc_skip ?_ | refine jc_region ?_ | refine jc_block ?_ | refine jc_ret ?_ | refine jc_exit ?_ | refine jx_then ?_ | refine jx_then_exit ?_ | refine jx_then_ret ?_ | refine jx_block ?_ | refine jx_block_ret ?_ | refine jx_block_hit ?_ | refine jx_block_miss rfl ?_ | refine jc_true rfl ?_ | refine jc_false rfl ?_))
  refine jo_v (pv_build tab_ok (szs := [1, 1]) (cs := [I d, .slice none 0 0]) rfl rfl rfl rfl (by first | (simp [Instr.fill]; done) | simp [Instr.fill, Value.cells])) rfl (jo_cons ?_)
  refine jo_buildSlice tab_ok (cs := [I d, .slice none 0 0]) rfl rfl rfl rfl rfl rfl (by first | (simp [Instr.fill]; done) | simp [Instr.fill, Value.cells]) rfl fun bA => ?_
  (refine j_nm rfl ?_; repeat (first | refine jo_cons ?_ | (refine jo_iso ?_; first | (refine jo_isbin ?_; first | refine jo_v (by first | exact pv_add rfl rfl (by omega) | exact pv_sub rfl rfl (by omega)) rfl ?_ | refine jo_pure tab_ok rfl rfl ?_ | refine jo_v (by first | exact pv_add64 rfl rfl | exact pv_ptr_eq tab_ok rfl rfl rfl | exact pv_ptr_ne tab_ok rfl rfl rfl | exact pv_if_eq tab_ok rfl rfl rfl (.inl rfl) | exact pv_if_eq tab_ok rfl rfl rfl (.inr ⟨_, _, rfl⟩) | exact pv_if_ne tab_ok rfl rfl rfl (.inl rfl) | exact pv_if_ne tab_ok rfl rfl rfl (.inr ⟨_, _, rfl⟩)) rfl ?_) | refine jo_pure tab_ok rfl rfl ?_ | refine jo_want rfl ?_ | refine jo_skip rfl rfl ?_ | refine jo_load tab_ok rfl rfl rfl (by first | ((repeat first | exact Rd.here rfl | refine Rd.there ?_); done) | assumption) rfl ?_) | refine jo_nil ?_ | refine jc_seq ?_ | refine jc_skip ?_ | refine jc_region ?_ | refine jc_block ?_ | refine jc_ret ?_ | refine jc_exit ?_ | refine jx_then ?_ | refine jx_then_exit ?_ | refine jx_then_ret ?_ | refine jx_block ?_ | refine jx_block_ret ?_ | refine jx_block_hit ?_ | refine jx_block_miss rfl ?_ | refine jc_true rfl ?_ | refine jc_false rfl ?_))
  refine jo_append tab_ok 1 [I d, .slice none 0 0] rfl rfl rfl rfl rfl rfl ⟨rfl, rfl⟩ rfl (.inr ⟨bA, 0, rfl, Rd.all⟩) (by simp [Hp.one]) (by intro len' hl'; rw [rcells_len] at hl'; have hl'' : zs.length * 2 = len' * 2 := hl'; exact ⟨by show (len' + 1) * 32 ≤ _; omega, by simp only [maxLen]; omega⟩) rfl fun v2 => ?_
  have e1 : rcells zs ++ [I d, .slice none 0 0] = rcells (zs ++ [(d, .slice none 0 0)]) := by rw [rcells_app]; rfl
  rw [e1]
  refine j_close [] rfl (fun m _ => sl_nil (t := 3) (size := 1) m) ?_
  refine j_close [0] rfl (rg_shut (z := (d, .slice none 0 0)) (d := d) (ad := []) rfl) ?_
  refine j_close [3, 0] rfl (fun m h => many_snoc hz h) ?_
  refine j_close [1, 0] rfl (regs_shut (by simp [hz])) ?_
  (refine j_nm rfl ?_; repeat (first | refine jo_cons ?_ | (refine jo_iso ?_; first | (refine jo_isbin ?_; first | refine jo_v (by first | exact pv_add rfl rfl (by omega) | exact pv_sub rfl rfl (by omega)) rfl ?_ | refine jo_pure tab_ok rfl rfl ?_ | refine jo_v (by first | exact pv_add64 rfl rfl | exact pv_ptr_eq tab_ok rfl rfl rfl | exact pv_ptr_ne tab_ok rfl rfl rfl | exact pv_if_eq tab_ok rfl rfl rfl (.inl rfl) | exact pv_if_eq tab_ok rfl rfl rfl (.inr ⟨_, _, rfl⟩) | exact pv_if_ne tab_ok rfl rfl rfl (.inl rfl) | exact pv_if_ne tab_ok rfl rfl rfl (.inr ⟨_, _, rfl⟩)) rfl ?_) | refine jo_pure tab_ok rfl rfl ?_ | refine jo_want rfl ?_ | refine jo_skip rfl rfl ?_ | refine jo_load tab_ok rfl rfl rfl (by first | ((repeat first | exact Rd.here rfl | refine Rd.there ?_); done) | assumption) rfl ?_) | refine jo_nil ?_ | refine jc_skip ?_ | refine jc_block ?_ | refine jc_ret ?_ | refine jc_exit ?_ | refine jx_then ?_ | refine jx_then_exit ?_ | refine jx_then_ret ?_ | refine jx_block ?_ | refine jx_block_ret ?_ | refine jx_block_hit ?_ | refine jx_block_miss rfl ?_ | refine jc_true rfl ?_ | refine jc_false rfl ?_))
  refine jc_region ?_
  (refine j_nm rfl ?_; repeat (first | refine jo_cons ?_ | (refine jo_iso ?_; first | (refine jo_isbin ?_; first | refine jo_v (by first | exact pv_add rfl rfl (by omega) | exact pv_sub rfl rfl (by omega)) rfl ?_ | refine jo_pure tab_ok rfl rfl ?_ | refine jo_v (by first | exact pv_add64 rfl rfl | exact pv_ptr_eq tab_ok rfl rfl rfl | exact pv_ptr_ne tab_ok rfl rfl rfl | exact pv_if_eq tab_ok rfl rfl rfl (.inl rfl) | exact pv_if_eq tab_ok rfl rfl rfl (.inr ⟨_, _, rfl⟩) | exact pv_if_ne tab_ok rfl rfl rfl (.inl rfl) | exact pv_if_ne tab_ok rfl rfl rfl (.inr ⟨_, _, rfl⟩)) rfl ?_) | refine jo_pure tab_ok rfl rfl ?_ | refine jo_want rfl ?_ | refine jo_skip rfl rfl ?_ | refine jo_load tab_ok rfl rfl rfl (by first | ((repeat first | exact Rd.here rfl | refine Rd.there ?_); done) | assumption) rfl ?_) | refine jo_nil ?_ | refine jc_skip ?_ | refine jc_block ?_ | refine jc_ret ?_ | refine jc_exit ?_ | refine jx_then ?_ | refine jx_then_exit ?_ | refine jx_then_ret ?_ | refine jx_block ?_ | refine jx_block_ret ?_ | refine jx_block_hit ?_ | refine jx_block_miss rfl ?_ | refine jc_true rfl ?_ | refine jc_false rfl ?_))
  exact j_go (reg13 E X (xs := xs) (S := S) (sb := sb) (sc := sc) (k := rs.length) (d := d) (a := a) (ad := []) (rs := rs ++ [(d, [])]) (by simp) (by simp; omega) (by simp) (by rw [List.set_append_right _ _ (Nat.le_refl _), Nat.sub_self]; exact hset) hi hkk hsn) [] [1]
    ⟨rfl, rfl, congrArg (fun z => some (I z)) (by omega), rfl, rfl, rfl, trivial⟩ rfl
set_option maxHeartbeats 4000000 in
theorem regions_tri {A : Assn} {xs : List Int} {v0 : Value} (hro : Ro A 1 v0 (xs.map I)) (hx : xs.length ≤ 1000) : Tri Try.prog 10 [v0] [A] (OR A xs) := by
  refine tri_introX Try.func10 rfl Try.ntmps10 rfl fun E X => ?_
  (refine j_nm rfl ?_; repeat (first | refine jo_cons ?_ | (refine jo_iso ?_; first | (refine jo_isbin ?_; first | refine jo_v (by first | exact pv_add rfl rfl (by omega) | exact pv_sub rfl rfl (by omega)) rfl ?_ | refine jo_pure tab_ok rfl rfl ?_ | refine jo_v (by first | exact pv_add64 rfl rfl | exact pv_ptr_eq tab_ok rfl rfl rfl | exact pv_ptr_ne tab_ok rfl rfl rfl | exact pv_if_eq tab_ok rfl rfl rfl (.inl rfl) | exact pv_if_eq tab_ok rfl rfl rfl (.inr ⟨_, _, rfl⟩) | exact pv_if_ne tab_ok rfl rfl rfl (.inl rfl) | exact pv_if_ne tab_ok rfl rfl rfl (.inr ⟨_, _, rfl⟩)) rfl ?_) | refine jo_pure tab_ok rfl rfl ?_ | refine jo_want rfl ?_ | refine jo_skip rfl rfl ?_ | refine jo_load tab_ok rfl rfl rfl (by first | ((repeat first | exact Rd.here rfl | refine Rd.there ?_); done) | assumption) rfl ?_) | refine jo_nil ?_ | refine jc_seq ?_ | refine jc_skip ?_ | refine jc_region ?_ | refine jc_block ?_ | refine jc_ret ?_ | refine jc_exit ?_ | refine jx_then ?_ | refine jx_then_exit ?_ | refine jx_then_ret ?_ | refine jx_block ?_ | refine jx_block_ret ?_ | refine jx_block_hit ?_ | refine jx_block_miss rfl ?_ | refine jc_true rfl ?_ | refine jc_false rfl ?_))
  refine jo_call [0] (sorted_tri hro hx) ent20 rfl ⟨rfl, rfl⟩ rfl ?_
  rintro v B (⟨hok, rfl, rfl⟩ | ⟨hok, sv, rfl, rfl⟩)
  · (refine j_nm rfl ?_; repeat (first | refine jo_cons ?_ | (refine jo_iso ?_; first | (refine jo_isbin ?_; first | refine jo_v (by first | exact pv_add rfl rfl (by omega) | exact pv_sub rfl rfl (by omega)) rfl ?_ | refine jo_pure tab_ok rfl rfl ?_ | refine jo_v (by first | exact pv_add64 rfl rfl | exact pv_ptr_eq tab_ok rfl rfl rfl | exact pv_ptr_ne tab_ok rfl rfl rfl | exact pv_if_eq tab_ok rfl rfl rfl (.inl rfl) | exact pv_if_eq tab_ok rfl rfl rfl (.inr ⟨_, _, rfl⟩) | exact pv_if_ne tab_ok rfl rfl rfl (.inl rfl) | exact pv_if_ne tab_ok rfl rfl rfl (.inr ⟨_, _, rfl⟩)) rfl ?_) | refine jo_pure tab_ok rfl rfl ?_ | refine jo_want rfl ?_ | refine jo_skip rfl rfl ?_ | refine jo_load tab_ok rfl rfl rfl (by first | ((repeat first | exact Rd.here rfl | refine Rd.there ?_); done) | assumption) rfl ?_) | refine jo_nil ?_ | refine jc_seq ?_ | refine jc_skip ?_ | refine jc_region ?_ | refine jc_block ?_ | refine jc_ret ?_ | refine jc_exit ?_ | refine jx_then ?_ | refine jx_then_exit ?_ | refine jx_then_ret ?_ | refine jx_block ?_ | refine jx_block_ret ?_ | refine jx_block_hit ?_ | refine jx_block_miss rfl ?_ | refine jc_true rfl ?_ | refine jc_false rfl ?_))
    exact j_ret [0] [] rfl (.inl ⟨hok, rfl, rfl⟩) ⟨rfl, rfl⟩
  have hS32 : ∀ y ∈ srt xs, 1 ≤ y ∧ y < 32768 := fun y hy => hok.1 y (srt_mem.1 hy)
  have hsl := srt_len xs
  have hfin : ∀ sv B, B = [RegsA sv (regs (srt xs)), A] → OR A xs (.tuple #[sv, .nilIface]) B := fun sv B h => .inr ⟨hok, sv, rfl, h⟩
  generalize srt xs = S at hS32 hsl hfin
  refine j_nm rfl ?_
  refine j_sl_ro fun hrs => ?_
  obtain ⟨sb, sn, sc, rfl, hsn, hsm, hso⟩ := hrs
  simp only [List.length_map, Nat.mul_one] at hsn
  (refine j_nm rfl ?_; repeat (first | refine jo_cons ?_ | (refine jo_iso ?_; first | (refine jo_isbin ?_; first | refine jo_v (by first | exact pv_add rfl rfl (by omega) | exact pv_sub rfl rfl (by omega)) rfl ?_ | refine jo_pure tab_ok rfl rfl ?_ | refine jo_v (by first | exact pv_add64 rfl rfl | exact pv_ptr_eq tab_ok rfl rfl rfl | exact pv_ptr_ne tab_ok rfl rfl rfl | exact pv_if_eq tab_ok rfl rfl rfl (.inl rfl) | exact pv_if_eq tab_ok rfl rfl rfl (.inr ⟨_, _, rfl⟩) | exact pv_if_ne tab_ok rfl rfl rfl (.inl rfl) | exact pv_if_ne tab_ok rfl rfl rfl (.inr ⟨_, _, rfl⟩)) rfl ?_) | refine jo_pure tab_ok rfl rfl ?_ | refine jo_want rfl ?_ | refine jo_skip rfl rfl ?_ | refine jo_load tab_ok rfl rfl rfl (by first | ((repeat first | exact Rd.here rfl | refine Rd.there ?_); done) | assumption) rfl ?_) | refine jo_nil ?_ | refine jc_seq ?_ | refine jc_skip ?_ | refine jc_region ?_ | refine jc_block ?_ | refine jc_ret ?_ | refine jc_exit ?_ | refine jx_then ?_ | refine jx_then_exit ?_ | refine jx_then_ret ?_ | refine jx_block ?_ | refine jx_block_ret ?_ | refine jx_block_hit ?_ | refine jx_block_miss rfl ?_ | refine jc_true rfl ?_ | refine jc_false rfl ?_))
  refine j_close [] rfl (fun m _ => sl_nil (t := 31) (size := 2) m) ?_
  refine j_close [] rfl (fun m _ => (many_nil : many Rg [] [] m)) ?_
  refine j_close [1, 0] rfl (regs_shut (zs := []) (rs := []) rfl) ?_
  refine jc_loopd (IR sb sn sc) (AR A X S sb sn sc) (fun x => x.1 ≤ sn) (fun x => sn - x.1) (0, .slice none 0 0) [] [] (Nat.zero_le _) ⟨rfl, rfl, rfl, rfl, trivial⟩ rfl ?_
  rintro ⟨i, ov⟩ hi
  simp only at hi
  dsimp only
  (refine j_nm rfl ?_; repeat (first | refine jo_cons ?_ | (refine jo_iso ?_; first | (refine jo_isbin ?_; first | refine jo_v (by first | exact pv_add rfl rfl (by omega) | exact pv_sub rfl rfl (by omega)) rfl ?_ | refine jo_pure tab_ok rfl rfl ?_ | refine jo_v (by first | exact pv_add64 rfl rfl | exact pv_ptr_eq tab_ok rfl rfl rfl | exact pv_ptr_ne tab_ok rfl rfl rfl | exact pv_if_eq tab_ok rfl rfl rfl (.inl rfl) | exact pv_if_eq tab_ok rfl rfl rfl (.inr ⟨_, _, rfl⟩) | exact pv_if_ne tab_ok rfl rfl rfl (.inl rfl) | exact pv_if_ne tab_ok rfl rfl rfl (.inr ⟨_, _, rfl⟩)) rfl ?_) | refine jo_pure tab_ok rfl rfl ?_ | refine jo_want rfl ?_ | refine jo_skip rfl rfl ?_ | refine jo_load tab_ok rfl rfl rfl (by first | ((repeat first | exact Rd.here rfl | refine Rd.there ?_); done) | assumption) rfl ?_) | refine jo_nil ?_ | refine jc_seq ?_ | refine jc_skip ?_ | refine jc_region ?_ | refine jc_block ?_ | refine jc_ret ?_ | refine jc_exit ?_ | refine jx_then ?_ | refine jx_then_exit ?_ | refine jx_then_ret ?_ | refine jx_block ?_ | refine jx_block_ret ?_ | refine jx_block_hit ?_ | refine jx_block_miss rfl ?_ | refine jc_true rfl ?_ | refine jc_false rfl ?_))
  refine jc_dec rfl (fun h => ?_) (fun h => ?_)
  · have hi' : i < sn := by omega
    have hxi : i < S.length := by omega
    have ha := hS32 S[i] (List.getElem_mem hxi)
    have hrl := regs_len (S.take i)
    rw [List.length_take] at hrl
    have hsmall := regs_small (S.take i)
    have hstep := regs_take hxi
    obtain ⟨p0, o0, rfl, r0⟩ := hso.resolve_left (by omega)
    generalize regs (S.take i) = rs at hrl hsmall hstep
    (refine j_nm rfl ?_; repeat (first | refine jo_cons ?_ | (refine jo_iso ?_; first | (refine jo_isbin ?_; first | refine jo_v (by first | exact pv_add rfl rfl (by omega) | exact pv_sub rfl rfl (by omega)) rfl ?_ | refine jo_pure tab_ok rfl rfl ?_ | refine jo_v (by first | exact pv_add64 rfl rfl | exact pv_ptr_eq tab_ok rfl rfl rfl | exact pv_ptr_ne tab_ok rfl rfl rfl | exact pv_if_eq tab_ok rfl rfl rfl (.inl rfl) | exact pv_if_eq tab_ok rfl rfl rfl (.inr ⟨_, _, rfl⟩) | exact pv_if_ne tab_ok rfl rfl rfl (.inl rfl) | exact pv_if_ne tab_ok rfl rfl rfl (.inr ⟨_, _, rfl⟩)) rfl ?_) | refine jo_pure tab_ok rfl rfl ?_ | refine jo_want rfl ?_ | refine jo_skip rfl rfl ?_ | refine jo_load tab_ok rfl rfl rfl (by first | ((repeat first | exact Rd.here rfl | refine Rd.there ?_); done) | assumption) rfl ?_) | refine jo_nil ?_ | refine jc_seq ?_ | refine jc_skip ?_ | refine jc_region ?_ | refine jc_block ?_ | refine jc_ret ?_ | refine jc_exit ?_ | refine jx_then ?_ | refine jx_then_exit ?_ | refine jx_then_ret ?_ | refine jx_block ?_ | refine jx_block_ret ?_ | refine jx_block_hit ?_ | refine jx_block_miss rfl ?_ | refine jc_true rfl ?_ | refine jc_false rfl ?_))
    refine jo_v (pv_index1 tab_ok i rfl rfl rfl rfl rfl rfl rfl hi') rfl (jo_cons ?_)
    refine jo_load tab_ok rfl rfl rfl (Rd.there ((r0 _).one (ints_at hxi))) rfl ?_
    (refine j_nm rfl ?_; repeat (first | refine jo_cons ?_ | (refine jo_iso ?_; first | (refine jo_isbin ?_; first | refine jo_v (by first | exact pv_add rfl rfl (by omega) | exact pv_sub rfl rfl (by omega)) rfl ?_ | refine jo_pure tab_ok rfl rfl ?_ | refine jo_v (by first | exact pv_add64 rfl rfl | exact pv_ptr_eq tab_ok rfl rfl rfl | exact pv_ptr_ne tab_ok rfl rfl rfl | exact pv_if_eq tab_ok rfl rfl rfl (.inl rfl) | exact pv_if_eq tab_ok rfl rfl rfl (.inr ⟨_, _, rfl⟩) | exact pv_if_ne tab_ok rfl rfl rfl (.inl rfl) | exact pv_if_ne tab_ok rfl rfl rfl (.inr ⟨_, _, rfl⟩)) rfl ?_) | refine jo_pure tab_ok rfl rfl ?_ | refine jo_want rfl ?_ | refine jo_skip rfl rfl ?_ | refine jo_load tab_ok rfl rfl rfl (by first | ((repeat first | exact Rd.here rfl | refine Rd.there ?_); done) | assumption) rfl ?_) | refine jo_nil ?_ | refine jc_seq ?_ | refine jc_skip ?_ | refine jc_region ?_ | refine jc_block ?_ | refine jc_ret ?_ | refine jc_exit ?_ | refine jx_then ?_ | refine jx_then_exit ?_ | refine jx_then_ret ?_ | refine jx_block ?_ | refine jx_block_ret ?_ | refine jx_block_hit ?_ | refine jx_block_miss rfl ?_ | refine jc_true rfl ?_ | refine jc_false rfl ?_))
    refine jo_v (pv_quo rfl rfl (by omega) (by decide)) rfl ?_
    generalize S[i] = a at ha hstep
    refine j_regs fun zs hz => ?_
    have hcl := rcells_len zs
    refine j_sl_ro fun hrz => ?_
    obtain ⟨zb, zn, zc, rfl, hzn, hzm, hzo⟩ := hrz
    have hzn' : zn = rs.length := by omega
    (refine j_nm rfl ?_; repeat (first | refine jo_cons ?_ | (refine jo_iso ?_; first | (refine jo_isbin ?_; first | refine jo_v (by first | exact pv_add rfl rfl (by omega) | exact pv_sub rfl rfl (by omega)) rfl ?_ | refine jo_pure tab_ok rfl rfl ?_ | refine jo_v (by first | exact pv_add64 rfl rfl | exact pv_ptr_eq tab_ok rfl rfl rfl | exact pv_ptr_ne tab_ok rfl rfl rfl | exact pv_if_eq tab_ok rfl rfl rfl (.inl rfl) | exact pv_if_eq tab_ok rfl rfl rfl (.inr ⟨_, _, rfl⟩) | exact pv_if_ne tab_ok rfl rfl rfl (.inl rfl) | exact pv_if_ne tab_ok rfl rfl rfl (.inr ⟨_, _, rfl⟩)) rfl ?_) | refine jo_pure tab_ok rfl rfl ?_ | refine jo_want rfl ?_ | refine jo_skip rfl rfl ?_ | refine jo_load tab_ok rfl rfl rfl (by first | ((repeat first | exact Rd.here rfl | refine Rd.there ?_); done) | assumption) rfl ?_) | refine jo_nil ?_ | refine jc_seq ?_ | refine jc_skip ?_ | refine jc_region ?_ | refine jc_block ?_ | refine jc_ret ?_ | refine jc_exit ?_ | refine jx_then ?_ | refine jx_then_exit ?_ | refine jx_then_ret ?_ | refine jx_block ?_ | refine jx_block_ret ?_ | refine jx_block_hit ?_ | refine jx_block_miss rfl ?_ | refine jc_true rfl ?_ | refine jc_false rfl ?_))
    refine j_dec 32 rfl (fun h2 => ?_) (fun h2 => ?_)
    · have h2 : (zn : Int) - 1 < 0 := h2
      have hnil : rs = [] := List.eq_nil_of_length_eq_zero (by omega)
      subst hnil
      (refine j_nm rfl ?_; repeat (first | refine jo_cons ?_ | (refine jo_iso ?_; first | (refine jo_isbin ?_; first | refine jo_v (by first | exact pv_add rfl rfl (by omega) | exact pv_sub rfl rfl (by omega)) rfl ?_ | refine jo_pure tab_ok rfl rfl ?_ | refine jo_v (by first | exact pv_add64 rfl rfl | exact pv_ptr_eq tab_ok rfl rfl rfl | exact pv_ptr_ne tab_ok rfl rfl rfl | exact pv_if_eq tab_ok rfl rfl rfl (.inl rfl) | exact pv_if_eq tab_ok rfl rfl rfl (.inr ⟨_, _, rfl⟩) | exact pv_if_ne tab_ok rfl rfl rfl (.inl rfl) | exact pv_if_ne tab_ok rfl rfl rfl (.inr ⟨_, _, rfl⟩)) rfl ?_) | refine jo_pure tab_ok rfl rfl ?_ | refine jo_want rfl ?_ | refine jo_skip rfl rfl ?_ | refine jo_load tab_ok rfl rfl rfl (by first | ((repeat first | exact Rd.here rfl | refine Rd.there ?_); done) | assumption) rfl ?_) | refine jo_nil ?_ | refine jc_skip ?_ | refine jc_block ?_ | refine jc_ret ?_ | refine jc_exit ?_ | refine jx_then ?_ | refine jx_then_exit ?_ | refine jx_then_ret ?_ | refine jx_block ?_ | refine jx_block_ret ?_ | refine jx_block_hit ?_ | refine jx_block_miss rfl ?_ | refine jc_true rfl ?_ | refine jc_false rfl ?_))
      refine j_close [0, 0] rfl (regs_shut hz) ?_
      exact j_go (reg11 E X (xs := xs) (S := S) (rs := []) (d := a / 4096) (a := a) (by simp) (by rw [hstep]; rfl) hi' (by omega) (by omega)) [] []
        ⟨rfl, rfl, rfl, congrArg (fun z => some (I z)) (by simp at hzn' ⊢; omega), rfl, rfl, rfl, trivial⟩ rfl
    · have h2 : ¬ (zn : Int) - 1 < 0 := h2
      obtain ⟨ini, r, rfl⟩ : ∃ ini r, rs = ini ++ [r] := by
        rcases List.eq_nil_or_concat rs with h0 | ⟨ini, r, h0⟩
        · subst h0; simp at hzn'; omega
        · exact ⟨ini, r, by simpa using h0⟩
      have hk : ini.length + 1 = zn := by simpa using hzn'.symm
      have hrk : (ini ++ [r])[ini.length]? = some r := by simp
      obtain ⟨⟨z1, z2⟩, hzk⟩ : ∃ z, zs[ini.length]? = some z := ⟨zs[ini.length]'(by omega), List.getElem?_eq_getElem _⟩
      obtain ⟨c1, c2⟩ := rcells_at zs ini.length _ hzk
      obtain ⟨zp, zo, rfl, rz⟩ := hzo.resolve_left (by omega)
      have hrs4 := hsmall r (by simp)
      refine j_nm rfl ?_
      refine j_front [1] (j_many ini.length hzk hrk ?_)
      refine j_rg fun hzd => ?_
      have hzd : z1 = r.1 := hzd
      refine j_sl_len ?_
      rintro ab an ac e han
      simp only at e
      subst e
      have han : an = r.2.length := by simpa using han.symm
      refine j_close [0] rfl (rg_shut (z := (z1, .slice ab an ac)) (d := r.1) (ad := r.2) hzd) ?_
      refine j_close [0, 0] rfl (fun m h => many_back hzk hrk h) ?_
      have hlen1 : (ini ++ [r]).length = ini.length + 1 := by simp
      (refine j_nm rfl ?_; repeat (first | refine jo_cons ?_ | (refine jo_iso ?_; first | (refine jo_isbin ?_; first | refine jo_v (by first | exact pv_add rfl rfl (by omega) | exact pv_sub rfl rfl (by omega)) rfl ?_ | refine jo_pure tab_ok rfl rfl ?_ | refine jo_v (by first | exact pv_add64 rfl rfl | exact pv_ptr_eq tab_ok rfl rfl rfl | exact pv_ptr_ne tab_ok rfl rfl rfl | exact pv_if_eq tab_ok rfl rfl rfl (.inl rfl) | exact pv_if_eq tab_ok rfl rfl rfl (.inr ⟨_, _, rfl⟩) | exact pv_if_ne tab_ok rfl rfl rfl (.inl rfl) | exact pv_if_ne tab_ok rfl rfl rfl (.inr ⟨_, _, rfl⟩)) rfl ?_) | refine jo_pure tab_ok rfl rfl ?_ | refine jo_want rfl ?_ | refine jo_skip rfl rfl ?_ | refine jo_load tab_ok rfl rfl rfl (by first | ((repeat first | exact Rd.here rfl | refine Rd.there ?_); done) | assumption) rfl ?_) | refine jo_nil ?_ | refine jc_seq ?_ | refine jc_skip ?_ | refine jc_region ?_ | refine jc_block ?_ | refine jc_ret ?_ | refine jc_exit ?_ | refine jx_then ?_ | refine jx_then_exit ?_ | refine jx_then_ret ?_ | refine jx_block ?_ | refine jx_block_ret ?_ | refine jx_block_hit ?_ | refine jx_block_miss rfl ?_ | refine jc_true rfl ?_ | refine jc_false rfl ?_))
      refine jo_v (pv_index tab_ok ini.length rfl rfl rfl rfl rfl (by omega) (by omega)) rfl (jo_cons ?_)
      refine jo_want rfl ?_
      refine jo_pure tab_ok rfl rfl (jo_cons ?_)
      refine jo_want rfl ?_
      refine jo_load tab_ok rfl rfl rfl (Rd.there ((rz _).one c1)) rfl ?_
      (refine j_nm rfl ?_; repeat (first | refine jo_cons ?_ | (refine jo_iso ?_; first | (refine jo_isbin ?_; first | refine jo_v (by first | exact pv_add rfl rfl (by omega) | exact pv_sub rfl rfl (by omega)) rfl ?_ | refine jo_pure tab_ok rfl rfl ?_ | refine jo_v (by first | exact pv_add64 rfl rfl | exact pv_ptr_eq tab_ok rfl rfl rfl | exact pv_ptr_ne tab_ok rfl rfl rfl | exact pv_if_eq tab_ok rfl rfl rfl (.inl rfl) | exact pv_if_eq tab_ok rfl rfl rfl (.inr ⟨_, _, rfl⟩) | exact pv_if_ne tab_ok rfl rfl rfl (.inl rfl) | exact pv_if_ne tab_ok rfl rfl rfl (.inr ⟨_, _, rfl⟩)) rfl ?_) | refine jo_pure tab_ok rfl rfl ?_ | refine jo_want rfl ?_ | refine jo_skip rfl rfl ?_ | refine jo_load tab_ok rfl rfl rfl (by first | ((repeat first | exact Rd.here rfl | refine Rd.there ?_); done) | assumption) rfl ?_) | refine jo_nil ?_ | refine jc_seq ?_ | refine jc_skip ?_ | refine jc_region ?_ | refine jc_block ?_ | refine jc_ret ?_ | refine jc_exit ?_ | refine jx_then ?_ | refine jx_then_exit ?_ | refine jx_then_ret ?_ | refine jx_block ?_ | refine jx_block_ret ?_ | refine jx_block_hit ?_ | refine jx_block_miss rfl ?_ | refine jc_true rfl ?_ | refine jc_false rfl ?_))
      refine j_bne 41 rfl (fun h3 => ?_) (fun h3 => ?_)
      · have h3 : ¬ z1 = a / 4096 := h3
        (refine j_nm rfl ?_; repeat (first | refine jo_cons ?_ | (refine jo_iso ?_; first | (refine jo_isbin ?_; first | refine jo_v (by first | exact pv_add rfl rfl (by omega) | exact pv_sub rfl rfl (by omega)) rfl ?_ | refine jo_pure tab_ok rfl rfl ?_ | refine jo_v (by first | exact pv_add64 rfl rfl | exact pv_ptr_eq tab_ok rfl rfl rfl | exact pv_ptr_ne tab_ok rfl rfl rfl | exact pv_if_eq tab_ok rfl rfl rfl (.inl rfl) | exact pv_if_eq tab_ok rfl rfl rfl (.inr ⟨_, _, rfl⟩) | exact pv_if_ne tab_ok rfl rfl rfl (.inl rfl) | exact pv_if_ne tab_ok rfl rfl rfl (.inr ⟨_, _, rfl⟩)) rfl ?_) | refine jo_pure tab_ok rfl rfl ?_ | refine jo_want rfl ?_ | refine jo_skip rfl rfl ?_ | refine jo_load tab_ok rfl rfl rfl (by first | ((repeat first | exact Rd.here rfl | refine Rd.there ?_); done) | assumption) rfl ?_) | refine jo_nil ?_ | refine jc_skip ?_ | refine jc_block ?_ | refine jc_ret ?_ | refine jc_exit ?_ | refine jx_then ?_ | refine jx_then_exit ?_ | refine jx_then_ret ?_ | refine jx_block ?_ | refine jx_block_ret ?_ | refine jx_block_hit ?_ | refine jx_block_miss rfl ?_ | refine jc_true rfl ?_ | refine jc_false rfl ?_))
        refine j_close [1, 0] rfl (regs_shut hz) ?_
        exact j_go (reg11 E X (xs := xs) (S := S) (rs := ini ++ [r]) (d := a / 4096) (a := a) (by omega) (by rw [hstep]; exact (step_new _ _ (fun r' hr' => by simp at hr'; subst hr'; rintro ⟨h5, _⟩; exact h3 (by omega))).symm) hi' (by omega) (by omega)) [] []
          ⟨rfl, rfl, rfl, congrArg (fun z => some (I z)) (by omega), rfl, rfl, rfl, trivial⟩ rfl
      · have h3 : z1 = a / 4096 := h3
        (refine j_nm rfl ?_; repeat (first | refine jo_cons ?_ | (refine jo_iso ?_; first | (refine jo_isbin ?_; first | refine jo_v (by first | exact pv_add rfl rfl (by omega) | exact pv_sub rfl rfl (by omega)) rfl ?_ | refine jo_pure tab_ok rfl rfl ?_ | refine jo_v (by first | exact pv_add64 rfl rfl | exact pv_ptr_eq tab_ok rfl rfl rfl | exact pv_ptr_ne tab_ok rfl rfl rfl | exact pv_if_eq tab_ok rfl rfl rfl (.inl rfl) | exact pv_if_eq tab_ok rfl rfl rfl (.inr ⟨_, _, rfl⟩) | exact pv_if_ne tab_ok rfl rfl rfl (.inl rfl) | exact pv_if_ne tab_ok rfl rfl rfl (.inr ⟨_, _, rfl⟩)) rfl ?_) | refine jo_pure tab_ok rfl rfl ?_ | refine jo_want rfl ?_ | refine jo_skip rfl rfl ?_ | refine jo_load tab_ok rfl rfl rfl (by first | ((repeat first | exact Rd.here rfl | refine Rd.there ?_); done) | assumption) rfl ?_) | refine jo_nil ?_ | refine jc_seq ?_ | refine jc_skip ?_ | refine jc_region ?_ | refine jc_block ?_ | refine jc_ret ?_ | refine jc_exit ?_ | refine jx_then ?_ | refine jx_then_exit ?_ | refine jx_then_ret ?_ | refine jx_block ?_ | refine jx_block_ret ?_ | refine jx_block_hit ?_ | refine jx_block_miss rfl ?_ | refine jc_true rfl ?_ | refine jc_false rfl ?_))
        refine jo_v (pv_index tab_ok ini.length rfl rfl rfl rfl rfl (by omega) (by omega)) rfl (jo_cons ?_)
        refine jo_want rfl ?_
        refine jo_pure tab_ok rfl rfl (jo_cons ?_)
        refine jo_want rfl ?_
        refine jo_load tab_ok rfl rfl rfl (Rd.there ((rz _).one c2)) rfl ?_
        (refine j_nm rfl ?_; repeat (first | refine jo_cons ?_ | (refine jo_iso ?_; first | (refine jo_isbin ?_; first | refine jo_v (by first | exact pv_add rfl rfl (by omega) | exact pv_sub rfl rfl (by omega)) rfl ?_ | refine jo_pure tab_ok rfl rfl ?_ | refine jo_v (by first | exact pv_add64 rfl rfl | exact pv_ptr_eq tab_ok rfl rfl rfl | exact pv_ptr_ne tab_ok rfl rfl rfl | exact pv_if_eq tab_ok rfl rfl rfl (.inl rfl) | exact pv_if_eq tab_ok rfl rfl rfl (.inr ⟨_, _, rfl⟩) | exact pv_if_ne tab_ok rfl rfl rfl (.inl rfl) | exact pv_if_ne tab_ok rfl rfl rfl (.inr ⟨_, _, rfl⟩)) rfl ?_) | refine jo_pure tab_ok rfl rfl ?_ | refine jo_want rfl ?_ | refine jo_skip rfl rfl ?_ | refine jo_load tab_ok rfl rfl rfl (by first | ((repeat first | exact Rd.here rfl | refine Rd.there ?_); done) | assumption) rfl ?_) | refine jo_nil ?_ | refine jc_skip ?_ | refine jc_block ?_ | refine jc_ret ?_ | refine jc_exit ?_ | refine jx_then ?_ | refine jx_then_exit ?_ | refine jx_then_ret ?_ | refine jx_block ?_ | refine jx_block_ret ?_ | refine jx_block_hit ?_ | refine jx_block_miss rfl ?_ | refine jc_true rfl ?_ | refine jc_false rfl ?_))
        refine jc_beq rfl (fun h4 => ?_) (fun h4 => ?_)
        · have h4 : (an : Int) = 4 := h4
          (refine j_nm rfl ?_; repeat (first | refine jo_cons ?_ | (refine jo_iso ?_; first | (refine jo_isbin ?_; first | refine jo_v (by first | exact pv_add rfl rfl (by omega) | exact pv_sub rfl rfl (by omega)) rfl ?_ | refine jo_pure tab_ok rfl rfl ?_ | refine jo_v (by first | exact pv_add64 rfl rfl | exact pv_ptr_eq tab_ok rfl rfl rfl | exact pv_ptr_ne tab_ok rfl rfl rfl | exact pv_if_eq tab_ok rfl rfl rfl (.inl rfl) | exact pv_if_eq tab_ok rfl rfl rfl (.inr ⟨_, _, rfl⟩) | exact pv_if_ne tab_ok rfl rfl rfl (.inl rfl) | exact pv_if_ne tab_ok rfl rfl rfl (.inr ⟨_, _, rfl⟩)) rfl ?_) | refine jo_pure tab_ok rfl rfl ?_ | refine jo_want rfl ?_ | refine jo_skip rfl rfl ?_ | refine jo_load tab_ok rfl rfl rfl (by first | ((repeat first | exact Rd.here rfl | refine Rd.there ?_); done) | assumption) rfl ?_) | refine jo_nil ?_ | refine jc_skip ?_ | refine jc_block ?_ | refine jc_ret ?_ | refine jc_exit ?_ | refine jx_then ?_ | refine jx_then_exit ?_ | refine jx_then_ret ?_ | refine jx_block ?_ | refine jx_block_ret ?_ | refine jx_block_hit ?_ | refine jx_block_miss rfl ?_ | refine jc_true rfl ?_ | refine jc_false rfl ?_))
          refine j_close [1, 0] rfl (regs_shut hz) ?_
          exact j_go (reg11 E X (xs := xs) (S := S) (rs := ini ++ [r]) (d := a / 4096) (a := a) (by omega) (by rw [hstep]; exact (step_new _ _ (fun r' hr' => by simp at hr'; subst hr'; rintro ⟨_, h5⟩; exact h5 (by omega))).symm) hi' (by omega) (by omega)) [] []
            ⟨rfl, rfl, rfl, congrArg (fun z => some (I z)) (by omega), rfl, rfl, rfl, trivial⟩ rfl
        · have h4 : ¬ (an : Int) = 4 := h4
          have hra : r.1 = a / 4096 := hzd.symm.trans h3
          (refine j_nm rfl ?_; repeat (first | refine jo_cons ?_ | (refine jo_iso ?_; first | (refine jo_isbin ?_; first | refine jo_v (by first | exact pv_add rfl rfl (by omega) | exact pv_sub rfl rfl (by omega)) rfl ?_ | refine jo_pure tab_ok rfl rfl ?_ | refine jo_v (by first | exact pv_add64 rfl rfl | exact pv_ptr_eq tab_ok rfl rfl rfl | exact pv_ptr_ne tab_ok rfl rfl rfl | exact pv_if_eq tab_ok rfl rfl rfl (.inl rfl) | exact pv_if_eq tab_ok rfl rfl rfl (.inr ⟨_, _, rfl⟩) | exact pv_if_ne tab_ok rfl rfl rfl (.inl rfl) | exact pv_if_ne tab_ok rfl rfl rfl (.inr ⟨_, _, rfl⟩)) rfl ?_) | refine jo_pure tab_ok rfl rfl ?_ | refine jo_want rfl ?_ | refine jo_skip rfl rfl ?_ | refine jo_load tab_ok rfl rfl rfl (by first | ((repeat first | exact Rd.here rfl | refine Rd.there ?_); done) | assumption) rfl ?_) | refine jo_nil ?_ | refine jc_skip ?_ | refine jc_block ?_ | refine jc_ret ?_ | refine jc_exit ?_ | refine jx_then ?_ | refine jx_then_exit ?_ | refine jx_then_ret ?_ | refine jx_block ?_ | refine jx_block_ret ?_ | refine jx_block_hit ?_ | refine jx_block_miss rfl ?_ | refine jc_true rfl ?_ | refine jc_false rfl ?_))
          refine j_close [1, 0] rfl (regs_shut hz) ?_
          exact j_go (reg13 E X (xs := xs) (S := S) (k := ini.length) (d := a / 4096) (ad := r.2) (rs := ini ++ [r]) (a := a) (by rw [hrk, ← hra]) (by omega) (by omega) (by rw [hstep, step_more _ _ _ hra (by omega), List.set_append_right _ _ (Nat.le_refl _), Nat.sub_self]; rfl) hi' (by omega) (by omega)) [] []
            ⟨rfl, rfl, congrArg (fun z => some (I z)) (by omega), rfl, rfl, rfl, trivial⟩ rfl
  · have hin : S.take i = S := List.take_of_length_le (by omega)
    rw [hin]
    (refine j_nm rfl ?_; repeat (first | refine jo_cons ?_ | (refine jo_iso ?_; first | (refine jo_isbin ?_; first | refine jo_v (by first | exact pv_add rfl rfl (by omega) | exact pv_sub rfl rfl (by omega)) rfl ?_ | refine jo_pure tab_ok rfl rfl ?_ | refine jo_v (by first | exact pv_add64 rfl rfl | exact pv_ptr_eq tab_ok rfl rfl rfl | exact pv_ptr_ne tab_ok rfl rfl rfl | exact pv_if_eq tab_ok rfl rfl rfl (.inl rfl) | exact pv_if_eq tab_ok rfl rfl rfl (.inr ⟨_, _, rfl⟩) | exact pv_if_ne tab_ok rfl rfl rfl (.inl rfl) | exact pv_if_ne tab_ok rfl rfl rfl (.inr ⟨_, _, rfl⟩)) rfl ?_) | refine jo_pure tab_ok rfl rfl ?_ | refine jo_want rfl ?_ | refine jo_skip rfl rfl ?_ | refine jo_load tab_ok rfl rfl rfl (by first | ((repeat first | exact Rd.here rfl | refine Rd.there ?_); done) | assumption) rfl ?_) | refine jo_nil ?_ | refine jc_seq ?_ | refine jc_skip ?_ | refine jc_region ?_ | refine jc_block ?_ | refine jc_ret ?_ | refine jc_exit ?_ | refine jx_then ?_ | refine jx_then_exit ?_ | refine jx_then_ret ?_ | refine jx_block ?_ | refine jx_block_ret ?_ | refine jx_block_hit ?_ | refine jx_block_miss rfl ?_ | refine jc_true rfl ?_ | refine jc_false rfl ?_))
    exact j_ret [0, 0] [1] rfl (hfin _ _ rfl) ⟨rfl, rfl⟩
end Go.Proofs.Ytlldbcdcpjfloaa
