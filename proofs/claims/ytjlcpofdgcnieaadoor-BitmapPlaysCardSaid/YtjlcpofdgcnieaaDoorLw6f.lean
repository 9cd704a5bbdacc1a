import Derived.Test.YtjlcpofdgcnieaaDoorLw6c
import Derived.Test.YtjlcpofdgcnieaaDoorLw6d
import Derived.Test.YtjlcpofdgcnieaaDoorLw6e
namespace Go.Proofs.YtjlcpofdgcnieaaDoor
namespace Pl
open Go Go.Proofs.YtjlcpofdgcnieaaDoor.Hp
set_option maxRecDepth 10000
attribute [local irreducible] wpList Code.wp wpAny
open Is (ent14)
open Ho (ent19 ent20)
open Rf (ent15 ent21)

set_option maxHeartbeats 4000000 in
theorem r14 {A : Assn} (hA : Tz A) (E : World) (F : List Assn) (b1 : Option Addr) (len1 cap1 : Nat) (fr : Int) (kk k : Nat) (hk' : k < len1) (hlm : len1 ≤ 9223372036854775807) (hkk : len1 - (k + 1) < kk) (p q : Nat) (l : List Bool) (hl4 : l.length ≤ 4096)
    (sb : Option Addr) (sc : Nat) (hro2 : Ro (sl 4 1 (.slice sb l.length sc) (l.map Value.bool)) 1 (.slice sb l.length sc) (l.map Value.bool))
    (num : Int) (hnum : -9223372036854775808 ≤ num ∧ num ≤ 9223372036854775807) (xs : List Int) (nb : Option Addr) (nl nc : Nat) (hroN2 : Ro A 1 (.slice nb nl nc) (xs.map I)) (kind : Int) (hnl : (xs.map I).length = nl * 1) (hnm : nl ≤ 300) :
    J E (here Tryd.prog [.r, .r, .r, .r, .r, .r, .l, .r, .b, .body (R6 E A F b1 len1 cap1 fr kk), .r, .r, .l, .b, .r, .r] Tryd.f5 (Q6 E A F)) 245 [(2, I fr), (7, ptr p), (9, .slice sb l.length sc), (60, .slice b1 len1 cap1), (61, I len1), (62, I k), (11, ptr q)] (cl q [I kind, I num, .slice nb nl nc] 43 :: sl 4 1 (.slice sb l.length sc) (l.map Value.bool) :: Bm p l :: A :: F) := by
  refine j_here rfl ?_
  have hnor : nl = 0 ∨ ∃ b o, nb = some ⟨b, o, none⟩ ∧ ∀ L, Rd (A :: L) b o (xs.map I) := by
    obtain ⟨sb', sn, sc', e, _, _, h⟩ := hroN2
    cases e; exact h
  repeat (first | refine jo_cons ?_ | (refine jo_iso ?_; first | (refine jo_isbin ?_; first | refine jo_v (pv_add rfl rfl (by omega)) rfl ?_ | refine jo_v (pv_sub rfl rfl (by omega)) rfl ?_ | refine jo_pure tab_ok rfl rfl ?_ | refine jo_v (pv_add64 rfl rfl) rfl ?_ | refine jo_v (pv_ptr_eq tab_ok rfl rfl rfl) rfl ?_ | refine jo_v (pv_ptr_ne tab_ok rfl rfl rfl) rfl ?_ | refine jo_v (pv_if_eq tab_ok rfl rfl rfl (.inl rfl)) rfl ?_ | refine jo_v (pv_if_eq tab_ok rfl rfl rfl (.inr ⟨_, _, rfl⟩)) rfl ?_ | refine jo_v (pv_if_ne tab_ok rfl rfl rfl (.inl rfl)) rfl ?_ | refine jo_v (pv_if_ne tab_ok rfl rfl rfl (.inr ⟨_, _, rfl⟩)) rfl ?_) | refine jo_pure tab_ok rfl rfl ?_ | refine jo_want rfl ?_ | refine jo_skip rfl rfl ?_ | refine jo_load tab_ok rfl rfl rfl (by first | exact Rd.here rfl | exact Rd.there (Rd.here rfl) | exact Rd.there (Rd.there (Rd.here rfl)) | exact Rd.there (Rd.there (Rd.there (Rd.here rfl))) | assumption) rfl ?_) | refine jo_nil ?_ | refine jc_seq ?_ | refine jc_skip ?_ | refine jc_region ?_ | refine jc_block ?_ | refine jc_ret ?_ | refine jc_exit ?_ | refine jx_then ?_ | refine jx_then_exit ?_ | refine jx_then_ret ?_ | refine jx_block ?_ | refine jx_block_ret ?_ | refine jx_block_hit ?_ | refine jx_block_miss rfl ?_ | refine jc_true rfl ?_ | refine jc_false rfl ?_)
  refine jo_buildSlice tab_ok (cs := []) rfl rfl rfl rfl rfl rfl (by first | (simp [Instr.fill]; done) | simp [Instr.fill, Value.cells]) rfl fun b2 => ?_
  repeat (first | refine jo_cons ?_ | (refine jo_iso ?_; first | (refine jo_isbin ?_; first | refine jo_v (pv_add rfl rfl (by omega)) rfl ?_ | refine jo_v (pv_sub rfl rfl (by omega)) rfl ?_ | refine jo_pure tab_ok rfl rfl ?_ | refine jo_v (pv_add64 rfl rfl) rfl ?_ | refine jo_v (pv_ptr_eq tab_ok rfl rfl rfl) rfl ?_ | refine jo_v (pv_ptr_ne tab_ok rfl rfl rfl) rfl ?_ | refine jo_v (pv_if_eq tab_ok rfl rfl rfl (.inl rfl)) rfl ?_ | refine jo_v (pv_if_eq tab_ok rfl rfl rfl (.inr ⟨_, _, rfl⟩)) rfl ?_ | refine jo_v (pv_if_ne tab_ok rfl rfl rfl (.inl rfl)) rfl ?_ | refine jo_v (pv_if_ne tab_ok rfl rfl rfl (.inr ⟨_, _, rfl⟩)) rfl ?_) | refine jo_pure tab_ok rfl rfl ?_ | refine jo_want rfl ?_ | refine jo_skip rfl rfl ?_ | refine jo_load tab_ok rfl rfl rfl (by first | exact Rd.here rfl | exact Rd.there (Rd.here rfl) | exact Rd.there (Rd.there (Rd.here rfl)) | exact Rd.there (Rd.there (Rd.there (Rd.here rfl))) | assumption) rfl ?_) | refine jo_nil ?_ | refine jc_seq ?_ | refine jc_skip ?_ | refine jc_region ?_ | refine jc_block ?_ | refine jc_ret ?_ | refine jc_exit ?_ | refine jx_then ?_ | refine jx_then_exit ?_ | refine jx_then_ret ?_ | refine jx_block ?_ | refine jx_block_ret ?_ | refine jx_block_hit ?_ | refine jx_block_miss rfl ?_ | refine jc_true rfl ?_ | refine jc_false rfl ?_)
  refine j_close [0] rfl (sl_shut (size := 1) (xs := []) (sp := []) rfl (Nat.le_refl 0) (by simp [maxLen]) rfl) ?_
  refine jo_append tab_ok 0 (xs.map I) rfl rfl rfl rfl rfl rfl ⟨rfl, rfl⟩ (by simpa using hnl) ?_ (ints_one xs) ?_ rfl fun v' => ?_
  · rcases hnor with h0 | ⟨b', o', hb', hrdn⟩
    · exact .inl h0
    · exact .inr ⟨b', o', hb', Rd.there (Rd.there (Rd.there (Rd.there (hrdn _))))⟩
  · intro k2 hk2
    have h2 : k2 = 0 := by simpa using hk2.symm
    refine ⟨?_, by simp only [maxLen]; omega⟩
    show (k2 + nl) * 8 ≤ _
    omega
  simp only [List.nil_append]
  refine j_sl_ro fun hroV => ?_
  cases hall : allB l xs with
  | true =>
    repeat (first | refine jo_cons ?_ | (refine jo_iso ?_; first | (refine jo_isbin ?_; first | refine jo_v (pv_add rfl rfl (by omega)) rfl ?_ | refine jo_v (pv_sub rfl rfl (by omega)) rfl ?_ | refine jo_pure tab_ok rfl rfl ?_ | refine jo_v (pv_add64 rfl rfl) rfl ?_ | refine jo_v (pv_ptr_eq tab_ok rfl rfl rfl) rfl ?_ | refine jo_v (pv_ptr_ne tab_ok rfl rfl rfl) rfl ?_ | refine jo_v (pv_if_eq tab_ok rfl rfl rfl (.inl rfl)) rfl ?_ | refine jo_v (pv_if_eq tab_ok rfl rfl rfl (.inr ⟨_, _, rfl⟩)) rfl ?_ | refine jo_v (pv_if_ne tab_ok rfl rfl rfl (.inl rfl)) rfl ?_ | refine jo_v (pv_if_ne tab_ok rfl rfl rfl (.inr ⟨_, _, rfl⟩)) rfl ?_) | refine jo_pure tab_ok rfl rfl ?_ | refine jo_want rfl ?_ | refine jo_skip rfl rfl ?_ | refine jo_load tab_ok rfl rfl rfl (by first | exact Rd.here rfl | exact Rd.there (Rd.here rfl) | exact Rd.there (Rd.there (Rd.here rfl)) | exact Rd.there (Rd.there (Rd.there (Rd.here rfl))) | assumption) rfl ?_) | refine jo_nil ?_ | refine jc_seq ?_ | refine jc_skip ?_ | refine jc_region ?_ | refine jc_block ?_ | refine jc_ret ?_ | refine jc_exit ?_ | refine jx_then ?_ | refine jx_then_exit ?_ | refine jx_then_ret ?_ | refine jx_block ?_ | refine jx_block_ret ?_ | refine jx_block_hit ?_ | refine jx_block_miss rfl ?_ | refine jc_true rfl ?_ | refine jc_false rfl ?_)
    refine jo_call [4] (Rf.in_tri l rfl hroN2) ent15 rfl ⟨rfl, rfl⟩ rfl ?_
    rintro v B ⟨hv, rfl⟩
    rw [hall] at hv
    subst hv
    repeat (first | refine jo_cons ?_ | (refine jo_iso ?_; first | (refine jo_isbin ?_; first | refine jo_v (pv_add rfl rfl (by omega)) rfl ?_ | refine jo_v (pv_sub rfl rfl (by omega)) rfl ?_ | refine jo_pure tab_ok rfl rfl ?_ | refine jo_v (pv_add64 rfl rfl) rfl ?_ | refine jo_v (pv_ptr_eq tab_ok rfl rfl rfl) rfl ?_ | refine jo_v (pv_ptr_ne tab_ok rfl rfl rfl) rfl ?_ | refine jo_v (pv_if_eq tab_ok rfl rfl rfl (.inl rfl)) rfl ?_ | refine jo_v (pv_if_eq tab_ok rfl rfl rfl (.inr ⟨_, _, rfl⟩)) rfl ?_ | refine jo_v (pv_if_ne tab_ok rfl rfl rfl (.inl rfl)) rfl ?_ | refine jo_v (pv_if_ne tab_ok rfl rfl rfl (.inr ⟨_, _, rfl⟩)) rfl ?_) | refine jo_pure tab_ok rfl rfl ?_ | refine jo_want rfl ?_ | refine jo_skip rfl rfl ?_ | refine jo_load tab_ok rfl rfl rfl (by first | exact Rd.here rfl | exact Rd.there (Rd.here rfl) | exact Rd.there (Rd.there (Rd.here rfl)) | exact Rd.there (Rd.there (Rd.there (Rd.here rfl))) | assumption) rfl ?_) | refine jo_nil ?_ | refine jc_skip ?_ | refine jc_region ?_ | refine jc_block ?_ | refine jc_ret ?_ | refine jc_exit ?_ | refine jx_then ?_ | refine jx_then_exit ?_ | refine jx_then_ret ?_ | refine jx_block ?_ | refine jx_block_ret ?_ | refine jx_block_hit ?_ | refine jx_block_miss rfl ?_ | refine jc_true rfl ?_ | refine jc_false rfl ?_)
    by_cases hk1 : kind = 1
    · subst hk1
      exact j_go (r18_set_yes hA E F b1 len1 cap1 fr kk k hk' hlm hkk p q l hl4 sb sc hro2 num hnum xs nb nl nc hroN2 v' hroV hall) [1, 1, 1, 1, 0] [] ⟨rfl, rfl, rfl, rfl, rfl, rfl, rfl, rfl, rfl, trivial⟩ rfl
    by_cases hk2 : kind = 2
    · subst hk2
      exact j_go (r18_clear_yes hA E F b1 len1 cap1 fr kk k hk' hlm hkk p q l hl4 sb sc hro2 num hnum xs nb nl nc hroN2 v' hroV hall) [1, 1, 1, 1, 0] [] ⟨rfl, rfl, rfl, rfl, rfl, rfl, rfl, rfl, rfl, trivial⟩ rfl
    by_cases hk3 : kind = 3
    · subst hk3
      cases hgm : okGrow l num with
      | false =>
        have hno : num < 0 ∨ num > 4096 - l.length := by
          have : ¬ (0 ≤ num ∧ num ≤ 4096 - (l.length : Int)) := fun e => by rw [okGrow_iff.2 e] at hgm; cases hgm
          omega
        exact j_go (r18_grow_no hA E F b1 len1 cap1 fr kk k hk' hlm hkk p q l hl4 sb sc hro2 num hnum xs nb nl nc hroN2 v' hroV hgm hno) [1, 1, 1, 1, 0] [] ⟨rfl, rfl, rfl, rfl, rfl, rfl, rfl, rfl, rfl, trivial⟩ rfl
      | true =>
        exact j_go (r18_grow_yes hA E F b1 len1 cap1 fr kk k hk' hlm hkk p q l hl4 sb sc hro2 num hnum xs nb nl nc hroN2 v' hroV hgm (okGrow_iff.1 hgm)) [1, 1, 1, 1, 0] [] ⟨rfl, rfl, rfl, rfl, rfl, rfl, rfl, rfl, rfl, trivial⟩ rfl
    by_cases hk4 : kind = 4
    · subst hk4
      exact j_go (r18_clone hA E F b1 len1 cap1 fr kk k hk' hlm hkk p q l hl4 sb sc hro2 num hnum xs nb nl nc hroN2 v' hroV ) [1, 1, 1, 1, 0] [] ⟨rfl, rfl, rfl, rfl, rfl, rfl, rfl, rfl, rfl, trivial⟩ rfl
    exact j_go (r18_other hA E F b1 len1 cap1 fr kk k hk' hlm hkk p q l hl4 sb sc hro2 num hnum xs nb nl nc hroN2 v' hroV kind hk1 hk2 hk3 hk4) [1, 1, 1, 1, 0] [] ⟨rfl, rfl, rfl, rfl, rfl, rfl, rfl, rfl, rfl, trivial⟩ rfl
  | false =>
    repeat (first | refine jo_cons ?_ | (refine jo_iso ?_; first | (refine jo_isbin ?_; first | refine jo_v (pv_add rfl rfl (by omega)) rfl ?_ | refine jo_v (pv_sub rfl rfl (by omega)) rfl ?_ | refine jo_pure tab_ok rfl rfl ?_ | refine jo_v (pv_add64 rfl rfl) rfl ?_ | refine jo_v (pv_ptr_eq tab_ok rfl rfl rfl) rfl ?_ | refine jo_v (pv_ptr_ne tab_ok rfl rfl rfl) rfl ?_ | refine jo_v (pv_if_eq tab_ok rfl rfl rfl (.inl rfl)) rfl ?_ | refine jo_v (pv_if_eq tab_ok rfl rfl rfl (.inr ⟨_, _, rfl⟩)) rfl ?_ | refine jo_v (pv_if_ne tab_ok rfl rfl rfl (.inl rfl)) rfl ?_ | refine jo_v (pv_if_ne tab_ok rfl rfl rfl (.inr ⟨_, _, rfl⟩)) rfl ?_) | refine jo_pure tab_ok rfl rfl ?_ | refine jo_want rfl ?_ | refine jo_skip rfl rfl ?_ | refine jo_load tab_ok rfl rfl rfl (by first | exact Rd.here rfl | exact Rd.there (Rd.here rfl) | exact Rd.there (Rd.there (Rd.here rfl)) | exact Rd.there (Rd.there (Rd.there (Rd.here rfl))) | assumption) rfl ?_) | refine jo_nil ?_ | refine jc_seq ?_ | refine jc_skip ?_ | refine jc_region ?_ | refine jc_block ?_ | refine jc_ret ?_ | refine jc_exit ?_ | refine jx_then ?_ | refine jx_then_exit ?_ | refine jx_then_ret ?_ | refine jx_block ?_ | refine jx_block_ret ?_ | refine jx_block_hit ?_ | refine jx_block_miss rfl ?_ | refine jc_true rfl ?_ | refine jc_false rfl ?_)
    refine jo_call [4] (Rf.in_tri l rfl hroN2) ent15 rfl ⟨rfl, rfl⟩ rfl ?_
    rintro v B ⟨hv, rfl⟩
    rw [hall] at hv
    subst hv
    repeat (first | refine jo_cons ?_ | (refine jo_iso ?_; first | (refine jo_isbin ?_; first | refine jo_v (pv_add rfl rfl (by omega)) rfl ?_ | refine jo_v (pv_sub rfl rfl (by omega)) rfl ?_ | refine jo_pure tab_ok rfl rfl ?_ | refine jo_v (pv_add64 rfl rfl) rfl ?_ | refine jo_v (pv_ptr_eq tab_ok rfl rfl rfl) rfl ?_ | refine jo_v (pv_ptr_ne tab_ok rfl rfl rfl) rfl ?_ | refine jo_v (pv_if_eq tab_ok rfl rfl rfl (.inl rfl)) rfl ?_ | refine jo_v (pv_if_eq tab_ok rfl rfl rfl (.inr ⟨_, _, rfl⟩)) rfl ?_ | refine jo_v (pv_if_ne tab_ok rfl rfl rfl (.inl rfl)) rfl ?_ | refine jo_v (pv_if_ne tab_ok rfl rfl rfl (.inr ⟨_, _, rfl⟩)) rfl ?_) | refine jo_pure tab_ok rfl rfl ?_ | refine jo_want rfl ?_ | refine jo_skip rfl rfl ?_ | refine jo_load tab_ok rfl rfl rfl (by first | exact Rd.here rfl | exact Rd.there (Rd.here rfl) | exact Rd.there (Rd.there (Rd.here rfl)) | exact Rd.there (Rd.there (Rd.there (Rd.here rfl))) | assumption) rfl ?_) | refine jo_nil ?_ | refine jc_skip ?_ | refine jc_region ?_ | refine jc_block ?_ | refine jc_ret ?_ | refine jc_exit ?_ | refine jx_then ?_ | refine jx_then_exit ?_ | refine jx_then_ret ?_ | refine jx_block ?_ | refine jx_block_ret ?_ | refine jx_block_hit ?_ | refine jx_block_miss rfl ?_ | refine jc_true rfl ?_ | refine jc_false rfl ?_)
    by_cases hk1 : kind = 1
    · subst hk1
      exact j_go (r18_set_no hA E F b1 len1 cap1 fr kk k hk' hlm hkk p q l hl4 sb sc hro2 num hnum xs nb nl nc hroN2 v' hroV hall) [1, 1, 1, 1, 0] [] ⟨rfl, rfl, rfl, rfl, rfl, rfl, rfl, rfl, rfl, trivial⟩ rfl
    by_cases hk2 : kind = 2
    · subst hk2
      exact j_go (r18_clear_no hA E F b1 len1 cap1 fr kk k hk' hlm hkk p q l hl4 sb sc hro2 num hnum xs nb nl nc hroN2 v' hroV hall) [1, 1, 1, 1, 0] [] ⟨rfl, rfl, rfl, rfl, rfl, rfl, rfl, rfl, rfl, trivial⟩ rfl
    by_cases hk3 : kind = 3
    · subst hk3
      cases hgm : okGrow l num with
      | false =>
        have hno : num < 0 ∨ num > 4096 - l.length := by
          have : ¬ (0 ≤ num ∧ num ≤ 4096 - (l.length : Int)) := fun e => by rw [okGrow_iff.2 e] at hgm; cases hgm
          omega
        exact j_go (r18_grow_nob hA E F b1 len1 cap1 fr kk k hk' hlm hkk p q l hl4 sb sc hro2 num hnum xs nb nl nc hroN2 v' hroV hgm hno) [1, 1, 1, 1, 0] [] ⟨rfl, rfl, rfl, rfl, rfl, rfl, rfl, rfl, rfl, trivial⟩ rfl
      | true =>
        exact j_go (r18_grow_yesb hA E F b1 len1 cap1 fr kk k hk' hlm hkk p q l hl4 sb sc hro2 num hnum xs nb nl nc hroN2 v' hroV hgm (okGrow_iff.1 hgm)) [1, 1, 1, 1, 0] [] ⟨rfl, rfl, rfl, rfl, rfl, rfl, rfl, rfl, rfl, trivial⟩ rfl
    by_cases hk4 : kind = 4
    · subst hk4
      exact j_go (r18_cloneb hA E F b1 len1 cap1 fr kk k hk' hlm hkk p q l hl4 sb sc hro2 num hnum xs nb nl nc hroN2 v' hroV ) [1, 1, 1, 1, 0] [] ⟨rfl, rfl, rfl, rfl, rfl, rfl, rfl, rfl, rfl, trivial⟩ rfl
    exact j_go (r18_otherb hA E F b1 len1 cap1 fr kk k hk' hlm hkk p q l hl4 sb sc hro2 num hnum xs nb nl nc hroN2 v' hroV kind hk1 hk2 hk3 hk4) [1, 1, 1, 1, 0] [] ⟨rfl, rfl, rfl, rfl, rfl, rfl, rfl, rfl, rfl, trivial⟩ rfl
end Pl
end Go.Proofs.YtjlcpofdgcnieaaDoor
