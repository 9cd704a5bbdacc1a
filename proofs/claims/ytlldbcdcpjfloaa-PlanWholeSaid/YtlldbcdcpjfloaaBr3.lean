import Derived.Test.YtlldbcdcpjfloaaBr2
set_option linter.unusedVariables false
set_option linter.unusedSimpArgs false
namespace Go.Proofs.Ytlldbcdcpjfloaa
open Go Go.Proofs.Ytlldbcdcpjfloaa.Hp Go.RowKit Go.Shelf Go.Sort Pp
set_option maxRecDepth 10000
attribute [local irreducible] wpList Code.wp wpAny wpAnyK
theorem Sat.below {E w w' : World} {L N : List Assn} (h : Sat E w (star L)) (hb : RowKit.Below w.heap.size w w') (hN : star N (fun b => if b < w.heap.size then none else w'.heap[b]?)) : Sat E w' (star (N ++ L)) := by
  refine ⟨hb.os.trans h.os, hb.tape.trans h.tape, hb.output.trans h.output, ?_⟩
  refine star_open (M := N) (L := L) ⟨_, fun b => w.heap[b]?, ?_, hN, h.heap⟩
  intro b
  by_cases hlt : b < w.heap.size
  · exact .inr ⟨by simp [hlt], (hb.block b hlt).symm⟩
  · exact .inl ⟨by simp [hlt], by simp; omega⟩
theorem sl_of_row {w w' : World} {t : TypeId} {size n : Nat} {v : Value} {xs : List Value} (h : w'.ownsRow w.heap.size t size v n xs) : star [sl t size v xs] (fun b => if b < w.heap.size then none else w'.heap[b]?) := by
  refine ⟨fun b => if b < w.heap.size then none else w'.heap[b]?, fun _ => none, fun b => .inl ⟨rfl, rfl⟩, ?_, trivial⟩
  rcases h.2 with ⟨rfl, h0⟩ | ⟨g, cap, cur, rfl, hbase, hg, h1, h2, h3, h4⟩
  · exact ⟨none, 0, 0, rfl, by rw [h.1, h0], Nat.le_refl _, Nat.zero_le _, .inl rfl⟩
  · refine ⟨_, n, cap, rfl, h.1, h1, h2, .inr ⟨g, cur.toList.drop (n * size), rfl, ?_, ?_⟩⟩
    · rw [← h4, List.take_append_drop]; simpa using h3
    · show (if g < w.heap.size then none else w'.heap[g]?) = _
      rw [if_neg (by omega), hg, ← h4, List.take_append_drop]
theorem sat_off {E w w' : World} {L : List Assn} {f g : Frag} {b : Nat} (h : Sat E w (fun _ => True)) (hsp : Split (fun k => w.heap[k]?) f g) (hfb : f b ≠ none) (hL : star L g)
    (h1 : w'.os = w.os) (h2 : w'.tape = w.tape) (h3 : w'.output = w.output) (hk : ∀ k, k ≠ b → w'.heap[k]? = w.heap[k]?) : Sat E w' (star L) := by
  refine ⟨h1.trans h.os, h2.trans h.tape, h3.trans h.output, star_mono ?_ hL⟩
  intro k o ho
  have hne : k ≠ b := fun e => by
    subst e
    rcases hsp k with ⟨_, h4⟩ | ⟨h4, _⟩
    · rw [ho] at h4; cases h4
    · exact hfb h4
  show w'.heap[k]? = some o
  rw [hk k hne]
  exact hsp.right ho
theorem values_tri {A : Assn} {b0 : Option Addr} {n0 c0 : Nat} : Tri Try.prog 25 [.slice b0 n0 c0] [A] fun v B => ∃ q, v = .func (.func 32) #[] #[ptr q] ∧ B = [cl q [.slice b0 n0 c0] 22, A] := by
  refine tri_introX Try.func25 rfl Try.ntmps25 rfl fun E X => ?_
  (refine j_nm rfl ?_; repeat (first | refine jo_cons ?_ | (refine jo_iso ?_; first | (refine jo_isbin ?_; first | refine jo_v (by first | exact pv_add rfl rfl (by omega) | exact pv_sub rfl rfl (by omega)) rfl ?_ | refine jo_pure tab_ok rfl rfl ?_ | refine jo_v (by first | exact pv_add64 rfl rfl | exact pv_ptr_eq tab_ok rfl rfl rfl | exact pv_ptr_ne tab_ok rfl rfl rfl | exact pv_if_eq tab_ok rfl rfl rfl (.inl rfl) | exact pv_if_eq tab_ok rfl rfl rfl (.inr ⟨_, _, rfl⟩) | exact pv_if_ne tab_ok rfl rfl rfl (.inl rfl) | exact pv_if_ne tab_ok rfl rfl rfl (.inr ⟨_, _, rfl⟩)) rfl ?_) | refine jo_pure tab_ok rfl rfl ?_ | refine jo_want rfl ?_ | refine jo_skip rfl rfl ?_ | refine jo_load tab_ok rfl rfl rfl (by first | ((repeat first | exact Rd.here rfl | refine Rd.there ?_); done) | assumption) rfl ?_) | refine jo_nil ?_ | refine jc_seq ?_ | refine jc_skip ?_ | refine jc_region ?_ | refine jc_block ?_ | refine jc_ret ?_ | refine jc_exit ?_ | refine jx_then ?_ | refine jx_then_exit ?_ | refine jx_then_ret ?_ | refine jx_block ?_ | refine jx_block_ret ?_ | refine jx_block_hit ?_ | refine jx_block_miss rfl ?_ | refine jc_true rfl ?_ | refine jc_false rfl ?_))
  refine jo_box rfl rfl rfl fun q => ?_
  (refine j_nm rfl ?_; repeat (first | refine jo_cons ?_ | (refine jo_iso ?_; first | (refine jo_isbin ?_; first | refine jo_v (by first | exact pv_add rfl rfl (by omega) | exact pv_sub rfl rfl (by omega)) rfl ?_ | refine jo_pure tab_ok rfl rfl ?_ | refine jo_v (by first | exact pv_add64 rfl rfl | exact pv_ptr_eq tab_ok rfl rfl rfl | exact pv_ptr_ne tab_ok rfl rfl rfl | exact pv_if_eq tab_ok rfl rfl rfl (.inl rfl) | exact pv_if_eq tab_ok rfl rfl rfl (.inr ⟨_, _, rfl⟩) | exact pv_if_ne tab_ok rfl rfl rfl (.inl rfl) | exact pv_if_ne tab_ok rfl rfl rfl (.inr ⟨_, _, rfl⟩)) rfl ?_) | refine jo_pure tab_ok rfl rfl ?_ | refine jo_want rfl ?_ | refine jo_skip rfl rfl ?_ | refine jo_load tab_ok rfl rfl rfl (by first | ((repeat first | exact Rd.here rfl | refine Rd.there ?_); done) | assumption) rfl ?_) | refine jo_nil ?_ | refine jc_seq ?_ | refine jc_skip ?_ | refine jc_region ?_ | refine jc_block ?_ | refine jc_ret ?_ | refine jc_exit ?_ | refine jx_then ?_ | refine jx_then_exit ?_ | refine jx_then_ret ?_ | refine jx_block ?_ | refine jx_block_ret ?_ | refine jx_block_hit ?_ | refine jx_block_miss rfl ?_ | refine jc_true rfl ?_ | refine jc_false rfl ?_))
  exact j_ret [0, 0] [] rfl ⟨q, rfl, rfl⟩ ⟨rfl, rfl⟩
theorem sorts (m : Nat) : AnyZI.SortsIn Try.prog Try.sortedL_ren Fence.wide m :=
  ⟨fun blk off cap ss W hH hblk hsz => callsIn_wide.2 (Try.slices_Sort_int blk off cap ss W hH hblk hsz), fun p cap W => callsIn_wide.2 (Try.slices_Sort_int_none p cap W)⟩
theorem block_lt {w : World} {b o : Nat} {v : Value} (h : w.cell? ⟨b, o, none⟩ = some v) : b < w.heap.size := by
  by_cases hb : b < w.heap.size
  · exact hb
  · have : w.heap[b]? = none := by simp; omega
    simp [World.cell?, this] at h
set_option maxHeartbeats 2000000 in
theorem sortedL_tri {A : Assn} {xs : List Int} {v0 : Value} {q : Nat} (hro : Ro A 1 v0 (xs.map I)) (hx : xs.length ≤ 1000) :
    Tri Try.prog 24 [.func (.func 32) #[] #[ptr q]] [cl q [v0] 22, A] fun v B => B = [sl 3 1 v ((srt xs).map I), cl q [v0] 22, A] := by
  intro E F w hs
  obtain ⟨f, g, hsp, hcl, _⟩ := hs.heap
  have hq := hsp.left hcl
  have hqc : w.cell? ⟨q, 0, none⟩ = some v0 := cell_block hq 0
  have hql : q < w.heap.size := block_lt hqc
  obtain ⟨base, len, cap, rfl, hlen, hlm, hor⟩ := hro
  simp only [List.length_map, Nat.mul_one] at hlen
  have hseq : Br.SeqB Fence.wide 2 Try.prog 32 #[ptr q] xs w := fun l J W hJ hY h0 => by
    by_cases hz : len = 0
    · have hx0 : xs = [] := List.eq_nil_of_length_eq_zero (by omega)
      subst hx0 hz
      exact Br.values1_nil Fence.wide 2 trivial rfl l q base cap J W (((hJ _ _ h0).cell (p := ⟨q, 0, none⟩) hql).trans hqc) h0
    · obtain ⟨b, o, rfl, hrd⟩ := hor.resolve_left hz
      have hc : ∀ j, j < len → w.cell? ⟨b, o + j, none⟩ = some (.int .i64 (xs[j]?.getD 0)) := fun j hj => by
        have hs2 : Sat E w (star (A :: cl q [.slice (some ⟨b, o, none⟩) len cap] 22 :: F)) := hs.perm (List.Perm.swap ..)
        have := hrd _ E w hs2 j (I xs[j]) (ints_at (by omega))
        rw [this, List.getElem?_eq_getElem (by omega)]
        rfl
      exact Br.values1 Fence.wide 2 trivial rfl (by omega) l q b o len cap xs hlen (by omega) w (block_lt (hc 0 (by omega))) hql J hJ (fun pre x W1 h1 h2 => hY pre x W1 h1 (by omega)) W hqc hc h0
  have cS := Br.sortedB Try.sortedL Fence.wide 5 trivial trivial trivial trivial rfl (by omega) (sorts _) (enters_of Try.func31 (by kernel_rfl) rfl) 32 #[ptr q] trivial (enters_of Try.func32 (by kernel_rfl) rfl) xs (by simp only [maxLen]; omega) (by omega) w hseq
  change CallsIn _ _ Try.prog 24 _ _ _ at cS
  refine ((callsIn_wide (n := 5)).1 cS).mono ?_
  rintro e w' ⟨v, rfl, hrow, hb⟩
  refine ⟨v, _, rfl, rfl, ?_⟩
  exact Sat.below (N := [sl 3 1 v ((srt xs).map I)]) (L := [cl q [.slice base len cap] 22, A] ++ F) hs hb (sl_of_row (size := 1) (t := 3) hrow)
theorem compact_len {S : List Int} : (Lib.compact S).length = S.length ↔ ∀ i (h : i + 1 < S.length), S[i] ≠ S[i + 1] := by
  unfold Lib.compact Lib.compactUpTo
  rw [List.length_map]
  have e : S.length = (List.range S.length).length := by simp
  conv => lhs; rhs; rw [e]
  rw [List.length_filter_eq_length_iff]
  simp only [List.mem_range, Lib.keeps, decide_eq_true_eq]
  constructor
  · intro h i hi
    have := (h (i + 1) hi).resolve_left (by omega)
    simp only [List.getElem!_toArray, Nat.add_sub_cancel] at this
    rw [getElem!_pos S (i + 1) hi, getElem!_pos S i (by omega)] at this
    exact fun e => this e.symm
  · intro h i hi
    by_cases h0 : i = 0
    · exact .inl h0
    · refine .inr ?_
      have := h (i - 1) (by omega)
      simp only [List.getElem!_toArray]
      rw [getElem!_pos S i hi, getElem!_pos S (i - 1) (by omega)]
      intro e
      apply this
      rw [← e]
      congr 1
      omega
set_option maxHeartbeats 2000000 in
theorem compact_tri {S : List Int} {v0 : Value} (hx : S.length ≤ 1000) : Tri Try.prog 26 [v0] [sl 3 1 v0 (S.map I)] fun v B => ∃ base k cap, v = .slice base k cap ∧ (k = S.length ↔ ∀ i (h : i + 1 < S.length), S[i] ≠ S[i + 1]) ∧ B = [] := by
  intro E F w hs
  obtain ⟨f, g, hsp, ⟨base, len, cap, rfl, hlen, hlc, hcm, hor⟩, hL⟩ := hs.heap
  simp only [List.length_map, Nat.mul_one] at hlen
  have hw : Sat E w (fun _ => True) := hs.imp fun _ _ => trivial
  have hsF : Sat E w (star F) := hs.imp fun m hm => star_drop hm
  by_cases hz : len = 0
  · have hx0 : S = [] := List.eq_nil_of_length_eq_zero (by omega)
    subst hx0 hz
    refine (Try.slices_Compact_int_empty base cap w).mono ?_
    rintro e w' ⟨rfl, rfl⟩
    exact ⟨_, [], ⟨base, 0, cap, rfl, by simp, rfl⟩, rfl, hsF⟩
  · obtain ⟨b, sp, rfl, hsz, hcl⟩ := hor.resolve_left (by omega)
    have hb := hsp.left hcl
    have hH : Holds (Value.int .i64) w b 0 S.toArray := by
      refine holds_of_block_i (ss := S) hb ?_
      rw [List.toList_toArray, List.take_append_of_le_length (by simp)]
      exact List.take_of_length_le (by simp)
    have := Try.slices_Compact_int b 0 cap S w hH (by omega) (by omega)
    rw [hlen] at this
    refine this.mono ?_
    rintro e w' ⟨rfl, qq, rfl⟩
    refine ⟨_, [], ⟨_, _, cap, rfl, compact_len, rfl⟩, rfl, ?_⟩
    refine sat_off (f := f) (g := g) (b := b) hw hsp (by rw [show f b = _ from hcl]; simp) hL rfl rfl rfl fun k hk => ?_
    simp only [putRow, mapBlock, Array.getElem?_modify]
    rw [if_neg (fun e => hk e.symm)]
    rfl
theorem clone_tri {A : Assn} {xs : List Int} {s : Value} (hro : Ro A 1 s (xs.map I)) (hb : xs.length ≤ 1000) :
    Tri Try.prog 27 [s] [A] fun v B => B = [sl 3 1 v (xs.map I), A] := by
  obtain ⟨base, len, cap, rfl, hlen, hlm, hor⟩ := hro
  refine tri_introX Try.func27 rfl Try.ntmps27 rfl fun E X => ?_
  (refine j_nm rfl ?_; repeat (first | refine jo_cons ?_ | (refine jo_iso ?_; first | (refine jo_isbin ?_; first | refine jo_v (by first | exact pv_add rfl rfl (by omega) | exact pv_sub rfl rfl (by omega)) rfl ?_ | refine jo_pure tab_ok rfl rfl ?_ | refine jo_v (by first | exact pv_add64 rfl rfl | exact pv_ptr_eq tab_ok rfl rfl rfl | exact pv_ptr_ne tab_ok rfl rfl rfl | exact pv_if_eq tab_ok rfl rfl rfl (.inl rfl) | exact pv_if_eq tab_ok rfl rfl rfl (.inr ⟨_, _, rfl⟩) | exact pv_if_ne tab_ok rfl rfl rfl (.inl rfl) | exact pv_if_ne tab_ok rfl rfl rfl (.inr ⟨_, _, rfl⟩)) rfl ?_) | refine jo_pure tab_ok rfl rfl ?_ | refine jo_want rfl ?_ | refine jo_skip rfl rfl ?_ | refine jo_load tab_ok rfl rfl rfl (by first | ((repeat first | exact Rd.here rfl | refine Rd.there ?_); done) | assumption) rfl ?_) | refine jo_nil ?_ | refine jc_seq ?_ | refine jc_skip ?_ | refine jc_region ?_ | refine jc_block ?_ | refine jc_ret ?_ | refine jc_exit ?_ | refine jx_then ?_ | refine jx_then_exit ?_ | refine jx_then_ret ?_ | refine jx_block ?_ | refine jx_block_ret ?_ | refine jx_block_hit ?_ | refine jx_block_miss rfl ?_ | refine jc_true rfl ?_ | refine jc_false rfl ?_))
  refine jo_v (pv_slice_eq tab_ok rfl rfl rfl) rfl ?_
  cases base with
  | none =>
    have : xs = [] := by
      rcases hor with h0 | ⟨b, o, hb, _⟩
      · subst h0; exact List.eq_nil_of_length_eq_zero (by simpa using hlen)
      · cases hb
    subst this
    (refine j_nm rfl ?_; repeat (first | refine jo_cons ?_ | (refine jo_iso ?_; first | (refine jo_isbin ?_; first | refine jo_v (by first | exact pv_add rfl rfl (by omega) | exact pv_sub rfl rfl (by omega)) rfl ?_ | refine jo_pure tab_ok rfl rfl ?_ | refine jo_v (by first | exact pv_add64 rfl rfl | exact pv_ptr_eq tab_ok rfl rfl rfl | exact pv_ptr_ne tab_ok rfl rfl rfl | exact pv_if_eq tab_ok rfl rfl rfl (.inl rfl) | exact pv_if_eq tab_ok rfl rfl rfl (.inr ⟨_, _, rfl⟩) | exact pv_if_ne tab_ok rfl rfl rfl (.inl rfl) | exact pv_if_ne tab_ok rfl rfl rfl (.inr ⟨_, _, rfl⟩)) rfl ?_) | refine jo_pure tab_ok rfl rfl ?_ | refine jo_want rfl ?_ | refine jo_skip rfl rfl ?_ | refine jo_load tab_ok rfl rfl rfl (by first | ((repeat first | exact Rd.here rfl | refine Rd.there ?_); done) | assumption) rfl ?_) | refine jo_nil ?_ | refine jc_seq ?_ | refine jc_skip ?_ | refine jc_region ?_ | refine jc_block ?_ | refine jc_ret ?_ | refine jc_exit ?_ | refine jx_then ?_ | refine jx_then_exit ?_ | refine jx_then_ret ?_ | refine jx_block ?_ | refine jx_block_ret ?_ | refine jx_block_hit ?_ | refine jx_block_miss rfl ?_ | refine jc_true rfl ?_ | refine jc_false rfl ?_))
    refine j_close [] rfl (fun m _ => sl_nil (t := 3) (size := 1) m) ?_
    exact j_ret [0, 0] [] rfl rfl ⟨rfl, rfl⟩
  | some a =>
    (refine j_nm rfl ?_; repeat (first | refine jo_cons ?_ | (refine jo_iso ?_; first | (refine jo_isbin ?_; first | refine jo_v (by first | exact pv_add rfl rfl (by omega) | exact pv_sub rfl rfl (by omega)) rfl ?_ | refine jo_pure tab_ok rfl rfl ?_ | refine jo_v (by first | exact pv_add64 rfl rfl | exact pv_ptr_eq tab_ok rfl rfl rfl | exact pv_ptr_ne tab_ok rfl rfl rfl | exact pv_if_eq tab_ok rfl rfl rfl (.inl rfl) | exact pv_if_eq tab_ok rfl rfl rfl (.inr ⟨_, _, rfl⟩) | exact pv_if_ne tab_ok rfl rfl rfl (.inl rfl) | exact pv_if_ne tab_ok rfl rfl rfl (.inr ⟨_, _, rfl⟩)) rfl ?_) | refine jo_pure tab_ok rfl rfl ?_ | refine jo_want rfl ?_ | refine jo_skip rfl rfl ?_ | refine jo_load tab_ok rfl rfl rfl (by first | ((repeat first | exact Rd.here rfl | refine Rd.there ?_); done) | assumption) rfl ?_) | refine jo_nil ?_ | refine jc_seq ?_ | refine jc_skip ?_ | refine jc_region ?_ | refine jc_block ?_ | refine jc_ret ?_ | refine jc_exit ?_ | refine jx_then ?_ | refine jx_then_exit ?_ | refine jx_then_ret ?_ | refine jx_block ?_ | refine jx_block_ret ?_ | refine jx_block_hit ?_ | refine jx_block_miss rfl ?_ | refine jc_true rfl ?_ | refine jc_false rfl ?_))
    refine jo_buildSlice tab_ok (cs := []) rfl rfl rfl rfl rfl rfl (by first | (simp [Instr.fill]; done) | simp [Instr.fill, Value.cells]) rfl fun b => ?_
    (refine j_nm rfl ?_; repeat (first | refine jo_cons ?_ | (refine jo_iso ?_; first | (refine jo_isbin ?_; first | refine jo_v (by first | exact pv_add rfl rfl (by omega) | exact pv_sub rfl rfl (by omega)) rfl ?_ | refine jo_pure tab_ok rfl rfl ?_ | refine jo_v (by first | exact pv_add64 rfl rfl | exact pv_ptr_eq tab_ok rfl rfl rfl | exact pv_ptr_ne tab_ok rfl rfl rfl | exact pv_if_eq tab_ok rfl rfl rfl (.inl rfl) | exact pv_if_eq tab_ok rfl rfl rfl (.inr ⟨_, _, rfl⟩) | exact pv_if_ne tab_ok rfl rfl rfl (.inl rfl) | exact pv_if_ne tab_ok rfl rfl rfl (.inr ⟨_, _, rfl⟩)) rfl ?_) | refine jo_pure tab_ok rfl rfl ?_ | refine jo_want rfl ?_ | refine jo_skip rfl rfl ?_ | refine jo_load tab_ok rfl rfl rfl (by first | ((repeat first | exact Rd.here rfl | refine Rd.there ?_); done) | assumption) rfl ?_) | refine jo_nil ?_ | refine jc_seq ?_ | refine jc_skip ?_ | refine jc_region ?_ | refine jc_block ?_ | refine jc_ret ?_ | refine jc_exit ?_ | refine jx_then ?_ | refine jx_then_exit ?_ | refine jx_then_ret ?_ | refine jx_block ?_ | refine jx_block_ret ?_ | refine jx_block_hit ?_ | refine jx_block_miss rfl ?_ | refine jc_true rfl ?_ | refine jc_false rfl ?_))
    refine j_close [0] rfl (sl_shut (size := 1) (xs := []) (sp := []) rfl (Nat.le_refl 0) (by simp [maxLen]) rfl) ?_
    refine jo_append tab_ok 0 (xs.map I) rfl rfl rfl rfl rfl rfl ⟨rfl, rfl⟩ hlen ?_ (mem_one fun _ => rfl) ?_ rfl fun v' => ?_
    · rcases hor with h0 | ⟨b', o, hb', hrd⟩
      · exact .inl h0
      · exact .inr ⟨b', o, hb', Rd.there (hrd _)⟩
    · intro k hk
      have h2 : k = 0 := by simpa using hk.symm
      have h3 : xs.length = len := by simpa using hlen
      have := hlm
      refine ⟨?_, by omega⟩
      show (k + len) * 8 ≤ _
      omega
    · (refine j_nm rfl ?_; repeat (first | refine jo_cons ?_ | (refine jo_iso ?_; first | (refine jo_isbin ?_; first | refine jo_v (by first | exact pv_add rfl rfl (by omega) | exact pv_sub rfl rfl (by omega)) rfl ?_ | refine jo_pure tab_ok rfl rfl ?_ | refine jo_v (by first | exact pv_add64 rfl rfl | exact pv_ptr_eq tab_ok rfl rfl rfl | exact pv_ptr_ne tab_ok rfl rfl rfl | exact pv_if_eq tab_ok rfl rfl rfl (.inl rfl) | exact pv_if_eq tab_ok rfl rfl rfl (.inr ⟨_, _, rfl⟩) | exact pv_if_ne tab_ok rfl rfl rfl (.inl rfl) | exact pv_if_ne tab_ok rfl rfl rfl (.inr ⟨_, _, rfl⟩)) rfl ?_) | refine jo_pure tab_ok rfl rfl ?_ | refine jo_want rfl ?_ | refine jo_skip rfl rfl ?_ | refine jo_load tab_ok rfl rfl rfl (by first | ((repeat first | exact Rd.here rfl | refine Rd.there ?_); done) | assumption) rfl ?_) | refine jo_nil ?_ | refine jc_seq ?_ | refine jc_skip ?_ | refine jc_region ?_ | refine jc_block ?_ | refine jc_ret ?_ | refine jc_exit ?_ | refine jx_then ?_ | refine jx_then_exit ?_ | refine jx_then_ret ?_ | refine jx_block ?_ | refine jx_block_ret ?_ | refine jx_block_hit ?_ | refine jx_block_miss rfl ?_ | refine jc_true rfl ?_ | refine jc_false rfl ?_))
      exact j_ret [0, 0] [] rfl rfl ⟨rfl, rfl⟩
end Go.Proofs.Ytlldbcdcpjfloaa
