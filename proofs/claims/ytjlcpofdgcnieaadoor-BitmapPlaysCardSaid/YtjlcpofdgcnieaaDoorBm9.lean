import Derived.Test.YtjlcpofdgcnieaaDoorBm8
import Derived.Laws.CopyRow
namespace Go.Proofs.YtjlcpofdgcnieaaDoor.Hp
open Go
section
variable {P : Program} {E : World} {Q : Exit → Act → World → Prop} {K : Act → World → Prop} {n : Nat} {l : Fr} {L : List Assn} {T : Tab}
  {ops : Array Oper} {d : Tmp} {ty : TypeId} {pos : String} {aft : Array Edge}
/-- a whole block is stored -/
theorem jo_store_agg (hT : T.ok P) {t tb : TypeId} {x y : Operand} {b : Nat} {e : TE} {vs xs : List Value} (i : Nat) {M : List Assn} (hx : ev l x = some (.pointer (some ⟨b, 0, none⟩))) (hy : ev l y = some (.agg vs.toArray)) (ht : T.find t = some e) (hn : vs.length = e.size)
    (h1 : ∀ u ∈ vs, one u = true) (hL : sel [i] L = [cl b xs tb] ∧ rem [i] L = M) (ho : vs.length = xs.length) (h : J E K n l (cl b vs tb :: M)) : J E (wpO P ops Q ⟨none, .store t x y, ty, pos, aft, none⟩ K) n l L := by
  obtain ⟨hok, rfl⟩ := Tab.find_ok hT ht
  unfold J at h ⊢
  intro a w hf hs
  have hs1 := hs.sel [i]
  rw [hL.1, hL.2] at hs1
  have hb := Sat.block (o := .cells xs.toArray tb (0, 0)) hs1
  have h1' : ∀ u ∈ vs, u.oneCell' = true := by
    intro u hu'
    have := h1 u hu'
    cases u <;> first | rfl | (cases this; done)
  have hst := run_storeCells_at (P := P) b 0 tb vs 0 xs.toArray w hb (by simp; omega) h1'
  have e1 : (xs.toArray.toList.take (0 + 0) ++ vs ++ xs.toArray.toList.drop (0 + 0 + vs.length)) = vs := by
    simp [ho]
  rw [e1] at hst
  unfold wpO
  rw [if_pos (by simp [Region.wanted])]
  refine .inl ?_
  have hrun : (execOp a.eval ⟨none, .store e.t x y, ty, pos, aft, none⟩).run P w = .ok .skip (w.setRow b vs.toArray) := by
    have hst2 : (storeVar e.t ⟨b, 0, none⟩ (.agg vs.toArray)).run P w = .ok () (w.setRow b vs.toArray) := by
      have hc : (Value.agg vs.toArray).cells = vs.toArray := rfl
      simp only [storeVar, hc, Sem.run_bind, hok.run_sizeOf, Result.andThen_ok]
      rw [if_neg (by simp [hn])]
      simpa using hst
    simp [execOp, hf.ev hx, hf.ev hy, Instr.storeAt, Instr.sureAddr, hst2]
  unfold Oper.wp
  rw [hrun]
  refine h a _ hf ?_
  exact Sat.put (o := .cells xs.toArray tb (0, 0)) (o' := .cells vs.toArray tb (0, 0)) hs1 rfl rfl rfl (setRow_heap w b _ _ tb _ hb) (fun k hk => setRow_other w b k _ hk)
end
end Go.Proofs.YtjlcpofdgcnieaaDoor.Hp
namespace Go.Proofs.YtjlcpofdgcnieaaDoor
open Go Go.Proofs.YtjlcpofdgcnieaaDoor.Hp
set_option maxRecDepth 10000
attribute [local irreducible] wpList Code.wp wpAny
namespace Tr
def tab : Tab := [
  ⟨3, .int .i64, 1, 8, [.int .i64 0]⟩,
  ⟨4, .bool, 1, 1, [.bool false]⟩,
  ⟨22, .slice 3, 1, 24, [.slice none 0 0]⟩,
  ⟨25, .iface, 1, 16, [.nilIface]⟩,
  ⟨23, .pointer 53, 1, 8, [.pointer none]⟩,
  ⟨53, .struct [(0, 3), (1, 51)], 2, 32, [.int .i64 0, .slice none 0 0]⟩,
  ⟨51, .slice 56, 1, 24, [.slice none 0 0]⟩,
  ⟨56, .int .u64, 1, 8, [.int .u64 0]⟩,
  ⟨38, .struct [(0, 3), (1, 3)], 2, 16, [.int .i64 0, .int .i64 0]⟩,
  ⟨35, .slice 38, 1, 24, [.slice none 0 0]⟩]
theorem tab_3 : TE.ok Tryd.prog ⟨3, .int .i64, 1, 8, [.int .i64 0]⟩ := ⟨by kernel_rfl, by kernel_rfl, by kernel_rfl, by kernel_rfl⟩
theorem tab_4 : TE.ok Tryd.prog ⟨4, .bool, 1, 1, [.bool false]⟩ := ⟨by kernel_rfl, by kernel_rfl, by kernel_rfl, by kernel_rfl⟩
theorem tab_22 : TE.ok Tryd.prog ⟨22, .slice 3, 1, 24, [.slice none 0 0]⟩ := ⟨by kernel_rfl, by kernel_rfl, by kernel_rfl, by kernel_rfl⟩
theorem tab_25 : TE.ok Tryd.prog ⟨25, .iface, 1, 16, [.nilIface]⟩ := ⟨by kernel_rfl, by kernel_rfl, by kernel_rfl, by kernel_rfl⟩
theorem tab_23 : TE.ok Tryd.prog ⟨23, .pointer 53, 1, 8, [.pointer none]⟩ := ⟨by kernel_rfl, by kernel_rfl, by kernel_rfl, by kernel_rfl⟩
theorem tab_53 : TE.ok Tryd.prog ⟨53, .struct [(0, 3), (1, 51)], 2, 32, [.int .i64 0, .slice none 0 0]⟩ := ⟨by kernel_rfl, by kernel_rfl, by kernel_rfl, by kernel_rfl⟩
theorem tab_51 : TE.ok Tryd.prog ⟨51, .slice 56, 1, 24, [.slice none 0 0]⟩ := ⟨by kernel_rfl, by kernel_rfl, by kernel_rfl, by kernel_rfl⟩
theorem tab_56 : TE.ok Tryd.prog ⟨56, .int .u64, 1, 8, [.int .u64 0]⟩ := ⟨by kernel_rfl, by kernel_rfl, by kernel_rfl, by kernel_rfl⟩
theorem tab_38 : TE.ok Tryd.prog ⟨38, .struct [(0, 3), (1, 3)], 2, 16, [.int .i64 0, .int .i64 0]⟩ := ⟨by kernel_rfl, by kernel_rfl, by kernel_rfl, by kernel_rfl⟩
theorem tab_35 : TE.ok Tryd.prog ⟨35, .slice 38, 1, 24, [.slice none 0 0]⟩ := ⟨by kernel_rfl, by kernel_rfl, by kernel_rfl, by kernel_rfl⟩
theorem tab_ok : tab.ok Tryd.prog := by
  intro e he
  simp only [tab, List.mem_cons, List.not_mem_nil, or_false] at he
  rcases he with rfl | rfl | rfl | rfl | rfl | rfl | rfl | rfl | rfl | rfl
  · exact tab_3
  · exact tab_4
  · exact tab_22
  · exact tab_25
  · exact tab_23
  · exact tab_53
  · exact tab_51
  · exact tab_56
  · exact tab_38
  · exact tab_35

end Tr
theorem ent12 : Enters Tryd.prog 12 := ⟨_, _, Tryd.func12, by kernel_rfl, rfl⟩


/-- one stretch, the first behind 'a' -/
structure One (l : List Bool) (a f e : Nat) : Prop where
  le : a ≤ f
  lt : f < e
  top : e ≤ l.length
  off : ∀ j, a ≤ j → j < f → l[j]? = some false
  on : ∀ j, f ≤ j → j < e → l[j]? = some true
  edge : e < l.length → l[e]? = some false
def Seg (l : List Bool) : Nat → List (Nat × Nat) → Nat → Prop
  | a, [], b => a = b
  | a, r :: rs, b => One l a r.1 (r.1 + r.2) ∧ Seg l (r.1 + r.2) rs b
theorem Seg.snoc {l : List Bool} : ∀ {rs : List (Nat × Nat)} {a b f e : Nat}, Seg l a rs b → One l b f e → Seg l a (rs ++ [(f, e - f)]) e
  | [], a, b, f, e, h, h1 => by
    obtain rfl : a = b := h
    have := h1.lt
    have e1 : f + (e - f) = e := by omega
    exact ⟨by rw [e1]; exact h1, e1⟩
  | r :: rs, a, b, f, e, h, h1 => ⟨h.1, Seg.snoc h.2 h1⟩
/-- the stretches of a list of flags -/
def Runs (l : List Bool) (rs : List (Nat × Nat)) : Prop := ∃ b, Seg l 0 rs b ∧ Fnd l b true none
def rcells (rs : List (Nat × Nat)) : List Value := rs.flatMap fun r => [I r.1, I r.2]
theorem rcells_len : ∀ rs, (rcells rs).length = rs.length * 2
  | [] => rfl
  | r :: rs => by
    have := rcells_len rs
    unfold rcells at this ⊢
    simp only [List.flatMap_cons, List.length_append, List.length_cons, List.length_nil, this]
    omega
theorem rcells_snoc (rs : List (Nat × Nat)) {f e : Nat} (h : f ≤ e) : rcells rs ++ [I f, I ((e : Int) - f)] = rcells (rs ++ [(f, e - f)]) := by
  have : ((e - f : Nat) : Int) = (e : Int) - f := by omega
  simp [rcells, this]
theorem one_of {l : List Bool} {b f : Nat} {r : Option Nat} (h : Fnd l b true (some f)) (hr : Fnd l f false r) : One l b f (r.getD l.length) := by
  obtain ⟨h1, h2, h3, h4⟩ := h
  cases r with
  | none =>
    exact ⟨by omega, h2, Nat.le_refl _, fun j h5 h6 => h4 j (by omega) h6, fun j h5 h6 => hr j (by omega) h6, fun h => by simp at h⟩
  | some e =>
    obtain ⟨g1, g2, g3, g4⟩ := hr
    have hne : f ≠ e := by rintro rfl; rw [h3] at g3; cases g3
    exact ⟨by omega, by simp only [Option.getD_some]; omega, by simp only [Option.getD_some]; omega, fun j h5 h6 => h4 j (by omega) h6, fun j h5 h6 => g4 j (by omega) h6, fun _ => g3⟩

def fi : Option Nat → Value
  | some k => I k
  | none => I 0
@[simp] theorem fi_some (k : Nat) : fi (some k) = I k := rfl
def fo : Option Nat → Value
  | some _ => .bool true
  | none => .bool false

set_option maxHeartbeats 2000000 in
theorem runs_tri {A : Assn} (hA : Tz A) (p : Nat) (l : List Bool) (hl : l.length ≤ 4096) :
    Tri Tryd.prog 12 [ptr p] [Bm p l, A] fun v B => ∃ rs, Runs l rs ∧ rs.length ≤ l.length ∧ B = [Bm p l, A, sl 38 2 v (rcells rs)] := by
  refine tri_intro Tryd.func12 rfl Tryd.ntmps12 rfl fun E F => ?_
  repeat (first | refine jo_cons ?_ | (refine jo_iso ?_; first | (refine jo_isbin ?_; first | refine jo_v (pv_add rfl rfl (by omega)) rfl ?_ | refine jo_v (pv_sub rfl rfl (by omega)) rfl ?_ | refine jo_pure tab_ok rfl rfl ?_ | refine jo_v (pv_add64 rfl rfl) rfl ?_ | refine jo_v (pv_ptr_eq tab_ok rfl rfl rfl) rfl ?_ | refine jo_v (pv_ptr_ne tab_ok rfl rfl rfl) rfl ?_ | refine jo_v (pv_if_eq tab_ok rfl rfl rfl (.inl rfl)) rfl ?_ | refine jo_v (pv_if_eq tab_ok rfl rfl rfl (.inr ⟨_, _, rfl⟩)) rfl ?_ | refine jo_v (pv_if_ne tab_ok rfl rfl rfl (.inl rfl)) rfl ?_ | refine jo_v (pv_if_ne tab_ok rfl rfl rfl (.inr ⟨_, _, rfl⟩)) rfl ?_) | refine jo_pure tab_ok rfl rfl ?_ | refine jo_want rfl ?_ | refine jo_skip rfl rfl ?_ | refine jo_load tab_ok rfl rfl rfl (by first | exact Rd.here rfl | exact Rd.there (Rd.here rfl) | exact Rd.there (Rd.there (Rd.here rfl)) | exact Rd.there (Rd.there (Rd.there (Rd.here rfl))) | assumption) rfl ?_) | refine jo_nil ?_ | refine jc_seq ?_ | refine jc_skip ?_ | refine jc_region ?_ | refine jc_block ?_ | refine jc_ret ?_ | refine jc_exit ?_ | refine jx_then ?_ | refine jx_then_exit ?_ | refine jx_then_ret ?_ | refine jx_block ?_ | refine jx_block_ret ?_ | refine jx_block_hit ?_ | refine jx_block_miss rfl ?_ | refine jc_true rfl ?_ | refine jc_false rfl ?_)
  refine jo_call [0, 0] (next_tri hA p l 0) ent13 rfl ⟨rfl, rfl⟩ rfl ?_
  rintro v B ⟨⟨r0, hr0, rfl⟩, rfl⟩
  refine j_close [] rfl (fun m _ => sl_nil (t := 38) (size := 2) m) ?_
  cases r0
  all_goals
    repeat (first | refine jo_cons ?_ | (refine jo_iso ?_; first | (refine jo_isbin ?_; first | refine jo_v (pv_add rfl rfl (by omega)) rfl ?_ | refine jo_v (pv_sub rfl rfl (by omega)) rfl ?_ | refine jo_pure tab_ok rfl rfl ?_ | refine jo_v (pv_add64 rfl rfl) rfl ?_ | refine jo_v (pv_ptr_eq tab_ok rfl rfl rfl) rfl ?_ | refine jo_v (pv_ptr_ne tab_ok rfl rfl rfl) rfl ?_ | refine jo_v (pv_if_eq tab_ok rfl rfl rfl (.inl rfl)) rfl ?_ | refine jo_v (pv_if_eq tab_ok rfl rfl rfl (.inr ⟨_, _, rfl⟩)) rfl ?_ | refine jo_v (pv_if_ne tab_ok rfl rfl rfl (.inl rfl)) rfl ?_ | refine jo_v (pv_if_ne tab_ok rfl rfl rfl (.inr ⟨_, _, rfl⟩)) rfl ?_) | refine jo_pure tab_ok rfl rfl ?_ | refine jo_want rfl ?_ | refine jo_skip rfl rfl ?_ | refine jo_load tab_ok rfl rfl rfl (by first | exact Rd.here rfl | exact Rd.there (Rd.here rfl) | exact Rd.there (Rd.there (Rd.here rfl)) | exact Rd.there (Rd.there (Rd.there (Rd.here rfl))) | assumption) rfl ?_) | refine jo_nil ?_ | refine jc_seq ?_ | refine jc_skip ?_ | refine jc_region ?_ | refine jc_block ?_ | refine jc_ret ?_ | refine jc_exit ?_ | refine jx_then ?_ | refine jx_then_exit ?_ | refine jx_then_ret ?_ | refine jx_block ?_ | refine jx_block_ret ?_ | refine jx_block_hit ?_ | refine jx_block_miss rfl ?_ | refine jc_true rfl ?_ | refine jc_false rfl ?_)
    refine jc_loop (ι := Option Nat × List (Nat × Nat) × Nat × Value) (fun x => [(0, ptr p), (3, x.2.2.2), (4, fi x.1), (5, fo x.1)])
      (fun x => sl 38 2 x.2.2.2 (rcells x.2.1) :: Bm p l :: A :: F) (fun x => Seg l 0 x.2.1 x.2.2.1 ∧ Fnd l x.2.2.1 true x.1 ∧ x.2.1.length ≤ x.2.2.1 ∧ x.2.2.1 ≤ l.length) (fun x => l.length - x.2.2.1)
      (_, [], 0, .slice none 0 0) [] [] ⟨rfl, hr0, Nat.le_refl _, Nat.zero_le _⟩ ⟨rfl, rfl, rfl, rfl, trivial⟩ rfl ?_
    rintro ⟨r, rs, b, v⟩ ⟨hs, hr, hlen, hb⟩
    simp only at hs hr hlen hb
    cases r with
    | none =>
      repeat (first | refine jo_cons ?_ | (refine jo_iso ?_; first | (refine jo_isbin ?_; first | refine jo_v (pv_add rfl rfl (by omega)) rfl ?_ | refine jo_v (pv_sub rfl rfl (by omega)) rfl ?_ | refine jo_pure tab_ok rfl rfl ?_ | refine jo_v (pv_add64 rfl rfl) rfl ?_ | refine jo_v (pv_ptr_eq tab_ok rfl rfl rfl) rfl ?_ | refine jo_v (pv_ptr_ne tab_ok rfl rfl rfl) rfl ?_ | refine jo_v (pv_if_eq tab_ok rfl rfl rfl (.inl rfl)) rfl ?_ | refine jo_v (pv_if_eq tab_ok rfl rfl rfl (.inr ⟨_, _, rfl⟩)) rfl ?_ | refine jo_v (pv_if_ne tab_ok rfl rfl rfl (.inl rfl)) rfl ?_ | refine jo_v (pv_if_ne tab_ok rfl rfl rfl (.inr ⟨_, _, rfl⟩)) rfl ?_) | refine jo_pure tab_ok rfl rfl ?_ | refine jo_want rfl ?_ | refine jo_skip rfl rfl ?_ | refine jo_load tab_ok rfl rfl rfl (by first | exact Rd.here rfl | exact Rd.there (Rd.here rfl) | exact Rd.there (Rd.there (Rd.here rfl)) | exact Rd.there (Rd.there (Rd.there (Rd.here rfl))) | assumption) rfl ?_) | refine jo_nil ?_ | refine jc_seq ?_ | refine jc_skip ?_ | refine jc_region ?_ | refine jc_block ?_ | refine jc_ret ?_ | refine jc_exit ?_ | refine jx_then ?_ | refine jx_then_exit ?_ | refine jx_then_ret ?_ | refine jx_block ?_ | refine jx_block_ret ?_ | refine jx_block_hit ?_ | refine jx_block_miss rfl ?_ | refine jc_true rfl ?_ | refine jc_false rfl ?_)
      exact j_ret [1, 1, 0] [] rfl ⟨rs, ⟨b, hs, hr⟩, by omega, rfl⟩ ⟨rfl, rfl⟩
    | some f =>
      repeat (first | refine jo_cons ?_ | (refine jo_iso ?_; first | (refine jo_isbin ?_; first | refine jo_v (pv_add rfl rfl (by omega)) rfl ?_ | refine jo_v (pv_sub rfl rfl (by omega)) rfl ?_ | refine jo_pure tab_ok rfl rfl ?_ | refine jo_v (pv_add64 rfl rfl) rfl ?_ | refine jo_v (pv_ptr_eq tab_ok rfl rfl rfl) rfl ?_ | refine jo_v (pv_ptr_ne tab_ok rfl rfl rfl) rfl ?_ | refine jo_v (pv_if_eq tab_ok rfl rfl rfl (.inl rfl)) rfl ?_ | refine jo_v (pv_if_eq tab_ok rfl rfl rfl (.inr ⟨_, _, rfl⟩)) rfl ?_ | refine jo_v (pv_if_ne tab_ok rfl rfl rfl (.inl rfl)) rfl ?_ | refine jo_v (pv_if_ne tab_ok rfl rfl rfl (.inr ⟨_, _, rfl⟩)) rfl ?_) | refine jo_pure tab_ok rfl rfl ?_ | refine jo_want rfl ?_ | refine jo_skip rfl rfl ?_ | refine jo_load tab_ok rfl rfl rfl (by first | exact Rd.here rfl | exact Rd.there (Rd.here rfl) | exact Rd.there (Rd.there (Rd.here rfl)) | exact Rd.there (Rd.there (Rd.there (Rd.here rfl))) | assumption) rfl ?_) | refine jo_nil ?_ | refine jc_seq ?_ | refine jc_skip ?_ | refine jc_region ?_ | refine jc_block ?_ | refine jc_ret ?_ | refine jc_exit ?_ | refine jx_then ?_ | refine jx_then_exit ?_ | refine jx_then_ret ?_ | refine jx_block ?_ | refine jx_block_ret ?_ | refine jx_block_hit ?_ | refine jx_block_miss rfl ?_ | refine jc_true rfl ?_ | refine jc_false rfl ?_)
      refine jo_call [1, 1] (free_tri hA p l f) ent10 rfl ⟨rfl, rfl⟩ rfl ?_
      rintro v2 B ⟨⟨r2, hr2, rfl⟩, rfl⟩
      have h1 := one_of hr hr2
      have hfe := h1.lt
      have htop := h1.top
      have hbf := h1.le
      cases r2 with
      | none =>
        simp only [Option.getD_none] at h1 hfe htop
        repeat (first | refine jo_cons ?_ | (refine jo_iso ?_; first | (refine jo_isbin ?_; first | refine jo_v (pv_add rfl rfl (by omega)) rfl ?_ | refine jo_v (pv_sub rfl rfl (by omega)) rfl ?_ | refine jo_pure tab_ok rfl rfl ?_ | refine jo_v (pv_add64 rfl rfl) rfl ?_ | refine jo_v (pv_ptr_eq tab_ok rfl rfl rfl) rfl ?_ | refine jo_v (pv_ptr_ne tab_ok rfl rfl rfl) rfl ?_ | refine jo_v (pv_if_eq tab_ok rfl rfl rfl (.inl rfl)) rfl ?_ | refine jo_v (pv_if_eq tab_ok rfl rfl rfl (.inr ⟨_, _, rfl⟩)) rfl ?_ | refine jo_v (pv_if_ne tab_ok rfl rfl rfl (.inl rfl)) rfl ?_ | refine jo_v (pv_if_ne tab_ok rfl rfl rfl (.inr ⟨_, _, rfl⟩)) rfl ?_) | refine jo_pure tab_ok rfl rfl ?_ | refine jo_want rfl ?_ | refine jo_skip rfl rfl ?_ | refine jo_load tab_ok rfl rfl rfl (by first | exact Rd.here rfl | exact Rd.there (Rd.here rfl) | exact Rd.there (Rd.there (Rd.here rfl)) | exact Rd.there (Rd.there (Rd.there (Rd.here rfl))) | assumption) rfl ?_) | refine jo_nil ?_ | refine jc_seq ?_ | refine jc_skip ?_ | refine jc_region ?_ | refine jc_block ?_ | refine jc_ret ?_ | refine jc_exit ?_ | refine jx_then ?_ | refine jx_then_exit ?_ | refine jx_then_ret ?_ | refine jx_block ?_ | refine jx_block_ret ?_ | refine jx_block_hit ?_ | refine jx_block_miss rfl ?_ | refine jc_true rfl ?_ | refine jc_false rfl ?_)
        refine j_bm fun ws v3 hw => ?_
        repeat (first | refine jo_cons ?_ | (refine jo_iso ?_; first | (refine jo_isbin ?_; first | refine jo_v (pv_add rfl rfl (by omega)) rfl ?_ | refine jo_v (pv_sub rfl rfl (by omega)) rfl ?_ | refine jo_pure tab_ok rfl rfl ?_ | refine jo_v (pv_add64 rfl rfl) rfl ?_ | refine jo_v (pv_ptr_eq tab_ok rfl rfl rfl) rfl ?_ | refine jo_v (pv_ptr_ne tab_ok rfl rfl rfl) rfl ?_ | refine jo_v (pv_if_eq tab_ok rfl rfl rfl (.inl rfl)) rfl ?_ | refine jo_v (pv_if_eq tab_ok rfl rfl rfl (.inr ⟨_, _, rfl⟩)) rfl ?_ | refine jo_v (pv_if_ne tab_ok rfl rfl rfl (.inl rfl)) rfl ?_ | refine jo_v (pv_if_ne tab_ok rfl rfl rfl (.inr ⟨_, _, rfl⟩)) rfl ?_) | refine jo_pure tab_ok rfl rfl ?_ | refine jo_want rfl ?_ | refine jo_skip rfl rfl ?_ | refine jo_load tab_ok rfl rfl rfl (by first | exact Rd.here rfl | exact Rd.there (Rd.here rfl) | exact Rd.there (Rd.there (Rd.here rfl)) | exact Rd.there (Rd.there (Rd.there (Rd.here rfl))) | assumption) rfl ?_) | refine jo_nil ?_ | refine jc_seq ?_ | refine jc_skip ?_ | refine jc_region ?_ | refine jc_block ?_ | refine jc_ret ?_ | refine jc_exit ?_ | refine jx_then ?_ | refine jx_then_exit ?_ | refine jx_then_ret ?_ | refine jx_block ?_ | refine jx_block_ret ?_ | refine jx_block_hit ?_ | refine jx_block_miss rfl ?_ | refine jc_true rfl ?_ | refine jc_false rfl ?_)
        refine j_close [0, 0] rfl (bm_shut rfl hw) ?_
        refine jo_v (pv_build Tr.tab_ok (szs := [1, 1]) (cs := [I f, I ((l.length : Int) - f)]) rfl rfl rfl rfl (by first | (simp [Instr.fill]; done) | simp [Instr.fill, Value.cells])) rfl ?_
        repeat (first | refine jo_cons ?_ | (refine jo_iso ?_; first | (refine jo_isbin ?_; first | refine jo_v (pv_add rfl rfl (by omega)) rfl ?_ | refine jo_v (pv_sub rfl rfl (by omega)) rfl ?_ | refine jo_pure tab_ok rfl rfl ?_ | refine jo_v (pv_add64 rfl rfl) rfl ?_ | refine jo_v (pv_ptr_eq tab_ok rfl rfl rfl) rfl ?_ | refine jo_v (pv_ptr_ne tab_ok rfl rfl rfl) rfl ?_ | refine jo_v (pv_if_eq tab_ok rfl rfl rfl (.inl rfl)) rfl ?_ | refine jo_v (pv_if_eq tab_ok rfl rfl rfl (.inr ⟨_, _, rfl⟩)) rfl ?_ | refine jo_v (pv_if_ne tab_ok rfl rfl rfl (.inl rfl)) rfl ?_ | refine jo_v (pv_if_ne tab_ok rfl rfl rfl (.inr ⟨_, _, rfl⟩)) rfl ?_) | refine jo_pure tab_ok rfl rfl ?_ | refine jo_want rfl ?_ | refine jo_skip rfl rfl ?_ | refine jo_load tab_ok rfl rfl rfl (by first | exact Rd.here rfl | exact Rd.there (Rd.here rfl) | exact Rd.there (Rd.there (Rd.here rfl)) | exact Rd.there (Rd.there (Rd.there (Rd.here rfl))) | assumption) rfl ?_) | refine jo_nil ?_ | refine jc_seq ?_ | refine jc_skip ?_ | refine jc_region ?_ | refine jc_block ?_ | refine jc_ret ?_ | refine jc_exit ?_ | refine jx_then ?_ | refine jx_then_exit ?_ | refine jx_then_ret ?_ | refine jx_block ?_ | refine jx_block_ret ?_ | refine jx_block_hit ?_ | refine jx_block_miss rfl ?_ | refine jc_true rfl ?_ | refine jc_false rfl ?_)
        refine jo_buildSlice Tr.tab_ok (cs := [I f, I ((l.length : Int) - f)]) rfl rfl rfl rfl rfl rfl (by first | (simp [Instr.fill]; done) | simp [Instr.fill, Value.cells]) rfl fun b3 => ?_
        repeat (first | refine jo_cons ?_ | (refine jo_iso ?_; first | (refine jo_isbin ?_; first | refine jo_v (pv_add rfl rfl (by omega)) rfl ?_ | refine jo_v (pv_sub rfl rfl (by omega)) rfl ?_ | refine jo_pure tab_ok rfl rfl ?_ | refine jo_v (pv_add64 rfl rfl) rfl ?_ | refine jo_v (pv_ptr_eq tab_ok rfl rfl rfl) rfl ?_ | refine jo_v (pv_ptr_ne tab_ok rfl rfl rfl) rfl ?_ | refine jo_v (pv_if_eq tab_ok rfl rfl rfl (.inl rfl)) rfl ?_ | refine jo_v (pv_if_eq tab_ok rfl rfl rfl (.inr ⟨_, _, rfl⟩)) rfl ?_ | refine jo_v (pv_if_ne tab_ok rfl rfl rfl (.inl rfl)) rfl ?_ | refine jo_v (pv_if_ne tab_ok rfl rfl rfl (.inr ⟨_, _, rfl⟩)) rfl ?_) | refine jo_pure tab_ok rfl rfl ?_ | refine jo_want rfl ?_ | refine jo_skip rfl rfl ?_ | refine jo_load tab_ok rfl rfl rfl (by first | exact Rd.here rfl | exact Rd.there (Rd.here rfl) | exact Rd.there (Rd.there (Rd.here rfl)) | exact Rd.there (Rd.there (Rd.there (Rd.here rfl))) | assumption) rfl ?_) | refine jo_nil ?_ | refine jc_seq ?_ | refine jc_skip ?_ | refine jc_region ?_ | refine jc_block ?_ | refine jc_ret ?_ | refine jc_exit ?_ | refine jx_then ?_ | refine jx_then_exit ?_ | refine jx_then_ret ?_ | refine jx_block ?_ | refine jx_block_ret ?_ | refine jx_block_hit ?_ | refine jx_block_miss rfl ?_ | refine jc_true rfl ?_ | refine jc_false rfl ?_)
        refine jo_append Tr.tab_ok 3 [I f, I ((l.length : Int) - f)] rfl rfl rfl rfl rfl rfl ⟨rfl, rfl⟩ rfl (.inr ⟨_, _, rfl, Rd.all⟩) (by simp [one]) ?_ rfl fun v' => ?_
        · intro k' hk'
          have hk2 : (rcells rs).length = k' * 2 := hk'
          rw [rcells_len] at hk2
          have : k' = rs.length := by omega
          refine ⟨?_, by simp [maxLen]; omega⟩
          show (k' + 1) * 16 ≤ _
          omega
        rw [rcells_snoc rs (by omega)]
        repeat (first | refine jo_cons ?_ | (refine jo_iso ?_; first | (refine jo_isbin ?_; first | refine jo_v (pv_add rfl rfl (by omega)) rfl ?_ | refine jo_v (pv_sub rfl rfl (by omega)) rfl ?_ | refine jo_pure tab_ok rfl rfl ?_ | refine jo_v (pv_add64 rfl rfl) rfl ?_ | refine jo_v (pv_ptr_eq tab_ok rfl rfl rfl) rfl ?_ | refine jo_v (pv_ptr_ne tab_ok rfl rfl rfl) rfl ?_ | refine jo_v (pv_if_eq tab_ok rfl rfl rfl (.inl rfl)) rfl ?_ | refine jo_v (pv_if_eq tab_ok rfl rfl rfl (.inr ⟨_, _, rfl⟩)) rfl ?_ | refine jo_v (pv_if_ne tab_ok rfl rfl rfl (.inl rfl)) rfl ?_ | refine jo_v (pv_if_ne tab_ok rfl rfl rfl (.inr ⟨_, _, rfl⟩)) rfl ?_) | refine jo_pure tab_ok rfl rfl ?_ | refine jo_want rfl ?_ | refine jo_skip rfl rfl ?_ | refine jo_load tab_ok rfl rfl rfl (by first | exact Rd.here rfl | exact Rd.there (Rd.here rfl) | exact Rd.there (Rd.there (Rd.here rfl)) | exact Rd.there (Rd.there (Rd.there (Rd.here rfl))) | assumption) rfl ?_) | refine jo_nil ?_ | refine jc_seq ?_ | refine jc_skip ?_ | refine jc_region ?_ | refine jc_block ?_ | refine jc_ret ?_ | refine jc_exit ?_ | refine jx_then ?_ | refine jx_then_exit ?_ | refine jx_then_ret ?_ | refine jx_block ?_ | refine jx_block_ret ?_ | refine jx_block_hit ?_ | refine jx_block_miss rfl ?_ | refine jc_true rfl ?_ | refine jc_false rfl ?_)
        refine jo_call [2, 2] (next_tri hA p l l.length) ent13 rfl ⟨rfl, rfl⟩ rfl ?_
        rintro v4 B ⟨⟨r4, hr4, rfl⟩, rfl⟩
        cases r4
        all_goals
          repeat (first | refine jo_cons ?_ | (refine jo_iso ?_; first | (refine jo_isbin ?_; first | refine jo_v (pv_add rfl rfl (by omega)) rfl ?_ | refine jo_v (pv_sub rfl rfl (by omega)) rfl ?_ | refine jo_pure tab_ok rfl rfl ?_ | refine jo_v (pv_add64 rfl rfl) rfl ?_ | refine jo_v (pv_ptr_eq tab_ok rfl rfl rfl) rfl ?_ | refine jo_v (pv_ptr_ne tab_ok rfl rfl rfl) rfl ?_ | refine jo_v (pv_if_eq tab_ok rfl rfl rfl (.inl rfl)) rfl ?_ | refine jo_v (pv_if_eq tab_ok rfl rfl rfl (.inr ⟨_, _, rfl⟩)) rfl ?_ | refine jo_v (pv_if_ne tab_ok rfl rfl rfl (.inl rfl)) rfl ?_ | refine jo_v (pv_if_ne tab_ok rfl rfl rfl (.inr ⟨_, _, rfl⟩)) rfl ?_) | refine jo_pure tab_ok rfl rfl ?_ | refine jo_want rfl ?_ | refine jo_skip rfl rfl ?_ | refine jo_load tab_ok rfl rfl rfl (by first | exact Rd.here rfl | exact Rd.there (Rd.here rfl) | exact Rd.there (Rd.there (Rd.here rfl)) | exact Rd.there (Rd.there (Rd.there (Rd.here rfl))) | assumption) rfl ?_) | refine jo_nil ?_ | refine jc_seq ?_ | refine jc_skip ?_ | refine jc_region ?_ | refine jc_block ?_ | refine jc_ret ?_ | refine jc_exit ?_ | refine jx_then ?_ | refine jx_then_exit ?_ | refine jx_then_ret ?_ | refine jx_block ?_ | refine jx_block_ret ?_ | refine jx_block_hit ?_ | refine jx_block_miss rfl ?_ | refine jc_true rfl ?_ | refine jc_false rfl ?_)
          exact jx_round (_, rs ++ [(f, l.length - f)], l.length, v') [2, 0, 0] [3] ⟨hs.snoc h1, hr4, by simp; omega, htop⟩ (by simp only; omega) ⟨rfl, rfl, rfl, rfl, trivial⟩ rfl
      | some e =>
        simp only [Option.getD_some] at h1 hfe htop
        repeat (first | refine jo_cons ?_ | (refine jo_iso ?_; first | (refine jo_isbin ?_; first | refine jo_v (pv_add rfl rfl (by omega)) rfl ?_ | refine jo_v (pv_sub rfl rfl (by omega)) rfl ?_ | refine jo_pure tab_ok rfl rfl ?_ | refine jo_v (pv_add64 rfl rfl) rfl ?_ | refine jo_v (pv_ptr_eq tab_ok rfl rfl rfl) rfl ?_ | refine jo_v (pv_ptr_ne tab_ok rfl rfl rfl) rfl ?_ | refine jo_v (pv_if_eq tab_ok rfl rfl rfl (.inl rfl)) rfl ?_ | refine jo_v (pv_if_eq tab_ok rfl rfl rfl (.inr ⟨_, _, rfl⟩)) rfl ?_ | refine jo_v (pv_if_ne tab_ok rfl rfl rfl (.inl rfl)) rfl ?_ | refine jo_v (pv_if_ne tab_ok rfl rfl rfl (.inr ⟨_, _, rfl⟩)) rfl ?_) | refine jo_pure tab_ok rfl rfl ?_ | refine jo_want rfl ?_ | refine jo_skip rfl rfl ?_ | refine jo_load tab_ok rfl rfl rfl (by first | exact Rd.here rfl | exact Rd.there (Rd.here rfl) | exact Rd.there (Rd.there (Rd.here rfl)) | exact Rd.there (Rd.there (Rd.there (Rd.here rfl))) | assumption) rfl ?_) | refine jo_nil ?_ | refine jc_seq ?_ | refine jc_skip ?_ | refine jc_region ?_ | refine jc_block ?_ | refine jc_ret ?_ | refine jc_exit ?_ | refine jx_then ?_ | refine jx_then_exit ?_ | refine jx_then_ret ?_ | refine jx_block ?_ | refine jx_block_ret ?_ | refine jx_block_hit ?_ | refine jx_block_miss rfl ?_ | refine jc_true rfl ?_ | refine jc_false rfl ?_)
        refine jo_v (pv_build Tr.tab_ok (szs := [1, 1]) (cs := [I f, I ((e : Int) - f)]) rfl rfl rfl rfl (by first | (simp [Instr.fill]; done) | simp [Instr.fill, Value.cells])) rfl ?_
        repeat (first | refine jo_cons ?_ | (refine jo_iso ?_; first | (refine jo_isbin ?_; first | refine jo_v (pv_add rfl rfl (by omega)) rfl ?_ | refine jo_v (pv_sub rfl rfl (by omega)) rfl ?_ | refine jo_pure tab_ok rfl rfl ?_ | refine jo_v (pv_add64 rfl rfl) rfl ?_ | refine jo_v (pv_ptr_eq tab_ok rfl rfl rfl) rfl ?_ | refine jo_v (pv_ptr_ne tab_ok rfl rfl rfl) rfl ?_ | refine jo_v (pv_if_eq tab_ok rfl rfl rfl (.inl rfl)) rfl ?_ | refine jo_v (pv_if_eq tab_ok rfl rfl rfl (.inr ⟨_, _, rfl⟩)) rfl ?_ | refine jo_v (pv_if_ne tab_ok rfl rfl rfl (.inl rfl)) rfl ?_ | refine jo_v (pv_if_ne tab_ok rfl rfl rfl (.inr ⟨_, _, rfl⟩)) rfl ?_) | refine jo_pure tab_ok rfl rfl ?_ | refine jo_want rfl ?_ | refine jo_skip rfl rfl ?_ | refine jo_load tab_ok rfl rfl rfl (by first | exact Rd.here rfl | exact Rd.there (Rd.here rfl) | exact Rd.there (Rd.there (Rd.here rfl)) | exact Rd.there (Rd.there (Rd.there (Rd.here rfl))) | assumption) rfl ?_) | refine jo_nil ?_ | refine jc_seq ?_ | refine jc_skip ?_ | refine jc_region ?_ | refine jc_block ?_ | refine jc_ret ?_ | refine jc_exit ?_ | refine jx_then ?_ | refine jx_then_exit ?_ | refine jx_then_ret ?_ | refine jx_block ?_ | refine jx_block_ret ?_ | refine jx_block_hit ?_ | refine jx_block_miss rfl ?_ | refine jc_true rfl ?_ | refine jc_false rfl ?_)
        refine jo_buildSlice Tr.tab_ok (cs := [I f, I ((e : Int) - f)]) rfl rfl rfl rfl rfl rfl (by first | (simp [Instr.fill]; done) | simp [Instr.fill, Value.cells]) rfl fun b3 => ?_
        repeat (first | refine jo_cons ?_ | (refine jo_iso ?_; first | (refine jo_isbin ?_; first | refine jo_v (pv_add rfl rfl (by omega)) rfl ?_ | refine jo_v (pv_sub rfl rfl (by omega)) rfl ?_ | refine jo_pure tab_ok rfl rfl ?_ | refine jo_v (pv_add64 rfl rfl) rfl ?_ | refine jo_v (pv_ptr_eq tab_ok rfl rfl rfl) rfl ?_ | refine jo_v (pv_ptr_ne tab_ok rfl rfl rfl) rfl ?_ | refine jo_v (pv_if_eq tab_ok rfl rfl rfl (.inl rfl)) rfl ?_ | refine jo_v (pv_if_eq tab_ok rfl rfl rfl (.inr ⟨_, _, rfl⟩)) rfl ?_ | refine jo_v (pv_if_ne tab_ok rfl rfl rfl (.inl rfl)) rfl ?_ | refine jo_v (pv_if_ne tab_ok rfl rfl rfl (.inr ⟨_, _, rfl⟩)) rfl ?_) | refine jo_pure tab_ok rfl rfl ?_ | refine jo_want rfl ?_ | refine jo_skip rfl rfl ?_ | refine jo_load tab_ok rfl rfl rfl (by first | exact Rd.here rfl | exact Rd.there (Rd.here rfl) | exact Rd.there (Rd.there (Rd.here rfl)) | exact Rd.there (Rd.there (Rd.there (Rd.here rfl))) | assumption) rfl ?_) | refine jo_nil ?_ | refine jc_seq ?_ | refine jc_skip ?_ | refine jc_region ?_ | refine jc_block ?_ | refine jc_ret ?_ | refine jc_exit ?_ | refine jx_then ?_ | refine jx_then_exit ?_ | refine jx_then_ret ?_ | refine jx_block ?_ | refine jx_block_ret ?_ | refine jx_block_hit ?_ | refine jx_block_miss rfl ?_ | refine jc_true rfl ?_ | refine jc_false rfl ?_)
        refine jo_append Tr.tab_ok 3 [I f, I ((e : Int) - f)] rfl rfl rfl rfl rfl rfl ⟨rfl, rfl⟩ rfl (.inr ⟨_, _, rfl, Rd.all⟩) (by simp [one]) ?_ rfl fun v' => ?_
        · intro k' hk'
          have hk2 : (rcells rs).length = k' * 2 := hk'
          rw [rcells_len] at hk2
          have : k' = rs.length := by omega
          refine ⟨?_, by simp [maxLen]; omega⟩
          show (k' + 1) * 16 ≤ _
          omega
        rw [rcells_snoc rs (by omega)]
        repeat (first | refine jo_cons ?_ | (refine jo_iso ?_; first | (refine jo_isbin ?_; first | refine jo_v (pv_add rfl rfl (by omega)) rfl ?_ | refine jo_v (pv_sub rfl rfl (by omega)) rfl ?_ | refine jo_pure tab_ok rfl rfl ?_ | refine jo_v (pv_add64 rfl rfl) rfl ?_ | refine jo_v (pv_ptr_eq tab_ok rfl rfl rfl) rfl ?_ | refine jo_v (pv_ptr_ne tab_ok rfl rfl rfl) rfl ?_ | refine jo_v (pv_if_eq tab_ok rfl rfl rfl (.inl rfl)) rfl ?_ | refine jo_v (pv_if_eq tab_ok rfl rfl rfl (.inr ⟨_, _, rfl⟩)) rfl ?_ | refine jo_v (pv_if_ne tab_ok rfl rfl rfl (.inl rfl)) rfl ?_ | refine jo_v (pv_if_ne tab_ok rfl rfl rfl (.inr ⟨_, _, rfl⟩)) rfl ?_) | refine jo_pure tab_ok rfl rfl ?_ | refine jo_want rfl ?_ | refine jo_skip rfl rfl ?_ | refine jo_load tab_ok rfl rfl rfl (by first | exact Rd.here rfl | exact Rd.there (Rd.here rfl) | exact Rd.there (Rd.there (Rd.here rfl)) | exact Rd.there (Rd.there (Rd.there (Rd.here rfl))) | assumption) rfl ?_) | refine jo_nil ?_ | refine jc_seq ?_ | refine jc_skip ?_ | refine jc_region ?_ | refine jc_block ?_ | refine jc_ret ?_ | refine jc_exit ?_ | refine jx_then ?_ | refine jx_then_exit ?_ | refine jx_then_ret ?_ | refine jx_block ?_ | refine jx_block_ret ?_ | refine jx_block_hit ?_ | refine jx_block_miss rfl ?_ | refine jc_true rfl ?_ | refine jc_false rfl ?_)
        refine jo_call [2, 2] (next_tri hA p l e) ent13 rfl ⟨rfl, rfl⟩ rfl ?_
        rintro v4 B ⟨⟨r4, hr4, rfl⟩, rfl⟩
        cases r4
        all_goals
          repeat (first | refine jo_cons ?_ | (refine jo_iso ?_; first | (refine jo_isbin ?_; first | refine jo_v (pv_add rfl rfl (by omega)) rfl ?_ | refine jo_v (pv_sub rfl rfl (by omega)) rfl ?_ | refine jo_pure tab_ok rfl rfl ?_ | refine jo_v (pv_add64 rfl rfl) rfl ?_ | refine jo_v (pv_ptr_eq tab_ok rfl rfl rfl) rfl ?_ | refine jo_v (pv_ptr_ne tab_ok rfl rfl rfl) rfl ?_ | refine jo_v (pv_if_eq tab_ok rfl rfl rfl (.inl rfl)) rfl ?_ | refine jo_v (pv_if_eq tab_ok rfl rfl rfl (.inr ⟨_, _, rfl⟩)) rfl ?_ | refine jo_v (pv_if_ne tab_ok rfl rfl rfl (.inl rfl)) rfl ?_ | refine jo_v (pv_if_ne tab_ok rfl rfl rfl (.inr ⟨_, _, rfl⟩)) rfl ?_) | refine jo_pure tab_ok rfl rfl ?_ | refine jo_want rfl ?_ | refine jo_skip rfl rfl ?_ | refine jo_load tab_ok rfl rfl rfl (by first | exact Rd.here rfl | exact Rd.there (Rd.here rfl) | exact Rd.there (Rd.there (Rd.here rfl)) | exact Rd.there (Rd.there (Rd.there (Rd.here rfl))) | assumption) rfl ?_) | refine jo_nil ?_ | refine jc_seq ?_ | refine jc_skip ?_ | refine jc_region ?_ | refine jc_block ?_ | refine jc_ret ?_ | refine jc_exit ?_ | refine jx_then ?_ | refine jx_then_exit ?_ | refine jx_then_ret ?_ | refine jx_block ?_ | refine jx_block_ret ?_ | refine jx_block_hit ?_ | refine jx_block_miss rfl ?_ | refine jc_true rfl ?_ | refine jc_false rfl ?_)
          exact jx_round (_, rs ++ [(f, e - f)], e, v') [2, 0, 0] [3] ⟨hs.snoc h1, hr4, by simp; omega, htop⟩ (by simp only; omega) ⟨rfl, rfl, rfl, rfl, trivial⟩ rfl
end Go.Proofs.YtjlcpofdgcnieaaDoor
