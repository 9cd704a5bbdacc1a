import Derived.Test.YtejaonodaplbhaaDoorHp
import Derived.Deep.AppendSrc
import Derived.Laws.MakeOwn
import Derived.Laws.CopyRow
namespace Go.Proofs.YtejaonodaplbhaaDoor.Hp
open Go
section
variable {P : Program} (w : World)
theorem run_append_make_grow (t tx ty e : TypeId) (i : TypeInfo) (z : Value) (ht : P.underlying t = some (.slice e)) (htx : P.underlying tx = some (.int .i64)) (hi : P.info? e = some i) (hz : i.zero = some z) (hs1 : i.size = 1) (base : Option Addr) (sLen sCap m : Nat) (olds : List Value)
    (hold : (Builtin.firstCells i.size sLen (.slice base sLen sCap)).run P w.drew = .ok olds.toArray w.drew) (hm : 0 < m)
    (hg : sCap < sLen + m) (h63 : ((sLen + m : Nat) : Int) ≤ 9223372036854775807) (hfit : Builtin.nextslicecap (sLen + m) sCap * i.bytes ≤ 281474976710656) (hmb : m * i.bytes ≤ 281474976710656) :
    (Builtin.append_ #[t, tx] ty #[.slice base sLen sCap, .int .i64 m]).run P w =
      .ok (.slice (some ⟨w.heap.size, 0, none⟩) (sLen + m) (grownCap w (sLen + m) sCap e))
        (w.drew.alloc (.cells (olds.toArray ++ Builtin.zeroCells z.cells m ++ Builtin.zeroCells z.cells (grownCap w (sLen + m) sCap e - (sLen + m))) e)) := by
  have hn : ¬ (sLen + m ≤ sCap) := by omega
  have h63' : ¬ (9223372036854775807 < ((sLen : Int) + (m : Int))) := by omega
  have h48' : ¬ (281474976710656 < Builtin.nextslicecap (sLen + m) sCap * i.bytes) := by omega
  have hw : IntKind.i64.wrap (m : Int) = m := i64_in ⟨by omega, by omega⟩
  have hm0 : ¬ ((m : Int) < 0) := by omega
  have hmb' : ¬ ((281474976710656 : Int) < (m : Int) * (i.bytes : Int)) := by
    rw [← Int.natCast_mul]; omega
  have hmz : m ≠ 0 := by omega
  have hmx : max (m : Int) 0 = m := Int.max_eq_left (by omega)
  have hold1 := hold
  rw [hs1] at hold1
  simp [Builtin.append_, run_underlying ht, run_underlying htx, sizeOf, typeInfo, zeroValue, hi, hz, hn, h63', h48', Question.forced, hold1, hs1, hmz, newRow, grownCap, asInt, asIntOf, hw, hm0, hmx, hmb']
theorem run_append_make_room (t tx ty e : TypeId) (i : TypeInfo) (z : Value) (ht : P.underlying t = some (.slice e)) (htx : P.underlying tx = some (.int .i64)) (hi : P.info? e = some i) (hz : i.zero = some z) (hs1 : i.size = 1) (hz1 : ∀ u ∈ z.cells.toList, u.oneCell' = true) (hzs : z.cells.size = 1)
    (g sLen sCap m : Nat) (cur : Array Value) (hg : w.heap[g]? = some (.cells cur e (0, 0))) (hm : 0 < m) (hroom : sLen + m ≤ sCap) (hfit : sLen + m ≤ cur.size) (h63 : (m : Int) ≤ 9223372036854775807) (hmb : m * i.bytes ≤ 281474976710656) :
    (Builtin.append_ #[t, tx] ty #[.slice (some ⟨g, 0, none⟩) sLen sCap, .int .i64 m]).run P w =
      .ok (.slice (some ⟨g, 0, none⟩) (sLen + m) sCap) (w.setRow g (cur.toList.take sLen ++ (Builtin.zeroCells z.cells m).toList ++ cur.toList.drop (sLen + m)).toArray) := by
  have hw : IntKind.i64.wrap (m : Int) = m := i64_in ⟨by omega, by omega⟩
  have hm0 : ¬ ((m : Int) < 0) := by omega
  have hmb' : ¬ ((281474976710656 : Int) < (m : Int) * (i.bytes : Int)) := by
    rw [← Int.natCast_mul]; omega
  have hmz : m ≠ 0 := by omega
  have hzl : (Builtin.zeroCells z.cells m).toList.length = m := by rw [Array.length_toList, size_zeroCells, hzs, Nat.mul_one]
  have hz2 : ∀ u ∈ (Builtin.zeroCells z.cells m).toList, u.oneCell' = true := by
    intro u hu
    simp only [Builtin.zeroCells, Array.toList_map, List.mem_map] at hu
    obtain ⟨j, _, rfl⟩ := hu
    have h0 : j % z.cells.size < z.cells.size := Nat.mod_lt _ (by omega)
    rw [getElem!_pos z.cells _ h0]
    exact hz1 _ (Array.getElem_mem_toList h0)
  have hst := run_storeCells_at (P := P) g sLen e (Builtin.zeroCells z.cells m).toList 0 cur w hg (by rw [hzl]; simpa using hfit) hz2
  rw [hzl] at hst
  simp only [Nat.add_zero] at hst
  simp [Builtin.append_, run_underlying ht, run_underlying htx, sizeOf, typeInfo, zeroValue, hi, hz, hroom, hs1, hmz, asInt, asIntOf, hw, hm0, hmb', Addr.add_lit, hst]
end
theorem zeroCells_one (z0 : Value) (m : Nat) : Builtin.zeroCells #[z0] m = (List.replicate m z0).toArray := by
  apply Array.ext'
  simp only [Builtin.zeroCells, Array.toList_map, Array.toList_range]
  rw [List.eq_replicate_iff]
  refine ⟨by simp, fun u hu => ?_⟩
  obtain ⟨j, _, rfl⟩ := List.mem_map.1 hu
  show (#[z0])[j % 1]! = z0
  rw [Nat.mod_one]; rfl
section
variable {P : Program} {E : World} {Q : Exit → Act → World → Prop} {K : Act → World → Prop} {n : Nat} {l : Fr} {L : List Assn} {T : Tab}
  {ops : Array Oper} {d : Tmp} {ty : TypeId} {pos : String} {aft : Array Edge}
/-- as many zeros more, of one cell each: append(s, make([]T, m)...) -/
theorem append_make_out (hT : T.ok P) {t tx t' : TypeId} {e ex e' : TE} {z0 : Value} {ty : TypeId} {F : List Assn} {w : World} {v : Value} {xs : List Value} {m : Nat} (ht : T.find t = some e) (htd : e.td = .slice t') (hx : T.find tx = some ex) (hxd : ex.td = .int .i64) (he : T.find t' = some e')
    (hs1 : e'.size = 1) (hz0 : e'.zero = [z0]) (h1 : one z0 = true) (hs : Sat E w (star (sl t' 1 v xs :: F))) (hb : (xs.length + m) * e'.bytes ≤ 140737488355328 ∧ xs.length + m ≤ maxLen) :
    ∃ v' w', (Builtin.append_ #[t, tx] ty #[v, .int .i64 m]).run P w = .ok v' w' ∧ Sat E w' (star (sl t' 1 v' (xs ++ List.replicate m z0) :: F)) := by
  obtain ⟨hok, rfl⟩ := Tab.find_ok hT ht
  obtain ⟨hokx, rfl⟩ := Tab.find_ok hT hx
  obtain ⟨hok', rfl⟩ := Tab.find_ok hT he
  obtain ⟨i, z, hi, hsz, hby, hz, hzc⟩ := hok'.info
  have hu := hok.slice htd
  have hux := hokx.int hxd
  obtain ⟨f, g, hsp, ⟨base, len, cap, rfl, hlen, hlc, hcm, hor⟩, hF⟩ := hs.heap
  have hF' : Sat E w (star F) := hs.imp fun _ => star_drop
  obtain ⟨hbb, hbm⟩ := hb
  simp only [Nat.mul_one] at hlen hor
  rw [hlen] at hbb hbm
  have hi1 : i.size = 1 := by rw [hsz, hs1]
  have hzc1 : z.cells = #[z0] := by rw [hzc, hz0]
  have hmx : len + m ≤ 9223372036854775807 := by have := hbm; simp only [maxLen] at this; omega
  have hmb : m * i.bytes ≤ 281474976710656 := by
    have : m * e'.bytes ≤ (len + m) * e'.bytes := Nat.mul_le_mul_right _ (by omega)
    rw [hby]; omega
  rcases Nat.eq_zero_or_pos m with h0 | hmp
  · subst h0
    refine ⟨.slice base len cap, w, ?_, by rw [List.replicate_zero, List.append_nil]; exact hs⟩
    have hw : IntKind.i64.wrap (0 : Int) = 0 := i64_in ⟨by decide, by decide⟩
    cases base <;> simp [Builtin.append_, run_underlying hu, run_underlying hux, sizeOf, typeInfo, hi, hlc, asInt, asIntOf, hw, storeCells]
  · have fresh : ∀ (old : Nat) (w' : World), w'.os = w.os → w'.tape = w.tape → w'.output = w.output →
        w'.heap = w.heap.push (.cells (xs.toArray ++ Builtin.zeroCells z.cells m ++ Builtin.zeroCells z.cells (grownCap w (len + m) old e'.t - (len + m))) e'.t (0, 0)) →
        Sat E w' (star (sl e'.t 1 (.slice (some ⟨w.heap.size, 0, none⟩) (len + m) (grownCap w (len + m) old e'.t)) (xs ++ List.replicate m z0) :: F)) := by
      intro old w' e1 e2 e3 e4
      have hs' := sat_new hF' e1 e2 e3 e4
      have hge := grownCap_ge w (len + m) old e'.t
      have hle := grownCap_le_maxLen w (len + m) old e'.t hbm
      refine hs'.imp fun m' hm' => star_head ?_ hm'
      intro f' hf'
      refine ⟨_, _, _, rfl, by simp [hlen], hge, hle, .inr ⟨w.heap.size, List.replicate (grownCap w (len + m) old e'.t - (len + m)) z0, rfl, ?_, ?_⟩⟩
      · simp [hlen]; omega
      · rw [hzc1, zeroCells_one, zeroCells_one] at hf'
        simpa using hf'
    rcases hor with rfl | ⟨g0, sp, rfl, hsz2, hcl⟩
    · have hl0 : len = 0 := by omega
      subst hl0
      have hx0 : xs = [] := List.eq_nil_of_length_eq_zero hlen
      subst hx0
      have hfit : Builtin.nextslicecap (0 + m) 0 * i.bytes ≤ 281474976710656 := growslice_fits (by omega) (by rw [hby]; exact hbb)
      have hold : (Builtin.firstCells i.size 0 (.slice base 0 0)).run P w.drew = .ok ([] : List Value).toArray w.drew := by
        cases base with
        | none => exact run_firstCells_none w.drew i.size 0 0 0
        | some b0 => exact run_firstCells_some w.drew i.size 0 b0 0 0 [] (by simp) (fun j v hj => by simp at hj)
      have hr := run_append_make_grow (P := P) w e.t ex.t ty e'.t i z hu hux hi hz hi1 base 0 0 m [] hold hmp (by omega) (by omega) hfit hmb
      exact ⟨_, _, hr, fresh 0 _ rfl rfl rfl rfl⟩
    · have hs' : Sat E w (star (cl g0 (xs ++ sp) e'.t :: F)) := ⟨hs.os, hs.tape, hs.output, f, g, hsp, hcl, hF⟩
      have hblk := Sat.block (o := .cells (xs ++ sp).toArray e'.t (0, 0)) hs'
      by_cases hroom : len + m ≤ cap
      · have hspl : m ≤ sp.length := by
          have h5 : xs.length + sp.length = cap := by rw [← List.length_append]; exact hsz2
          omega
        have hr := run_append_make_room (P := P) w e.t ex.t ty e'.t i z hu hux hi hz hi1 (by
          rw [hzc1]; intro u hu'
          simp only [List.mem_singleton] at hu'
          subst hu'
          cases u <;> first | rfl | (cases h1; done)) (by rw [hzc1]; rfl) g0 len cap m (xs ++ sp).toArray hblk hmp hroom (by simp; omega) (by omega) hmb
        refine ⟨_, _, hr, ?_⟩
        have hnew : ((xs ++ sp).toArray.toList.take len ++ (Builtin.zeroCells z.cells m).toList ++ (xs ++ sp).toArray.toList.drop (len + m)) = (xs ++ List.replicate m z0) ++ sp.drop m := by
          rw [hzc1, zeroCells_one]
          simp only []
          rw [← hlen, List.take_left, ← List.drop_drop, List.drop_left]
        rw [hnew]
        have hput := Sat.put (o := .cells (xs ++ sp).toArray e'.t (0, 0)) (o' := .cells ((xs ++ List.replicate m z0) ++ sp.drop m).toArray e'.t (0, 0)) (w' := w.setRow g0 ((xs ++ List.replicate m z0) ++ sp.drop m).toArray) hs' rfl rfl rfl
          (setRow_heap w g0 _ _ e'.t _ hblk) (fun k hk => setRow_other w g0 k _ hk)
        refine hput.imp fun m' hm' => star_head ?_ hm'
        intro f' hf'
        refine ⟨_, _, _, rfl, by simp [hlen], hroom, hcm, .inr ⟨g0, sp.drop m, rfl, ?_, hf'⟩⟩
        have h5 : xs.length + sp.length = cap := by rw [← List.length_append]; exact hsz2
        simp only [List.length_append, List.length_drop, List.length_replicate]
        omega
      · have hold : (Builtin.firstCells i.size len (.slice (some ⟨g0, 0, none⟩) len cap)).run P w.drew = .ok xs.toArray w.drew := by
          refine run_firstCells_some w.drew i.size len ⟨g0, 0, none⟩ len cap xs (by rw [hi1, Nat.mul_one]; exact hlen) fun j u hj => ?_
          rw [addr_add]
          have h7 : (w.drew).cell? ⟨g0, 0 + j, none⟩ = w.cell? ⟨g0, 0 + j, none⟩ := rfl
          rw [h7, cell_block hblk, Nat.zero_add]
          have : j < xs.length := (List.getElem?_eq_some_iff.1 hj).1
          simp only [List.getElem?_toArray]
          rw [List.getElem?_append_left this, hj]
        have hr := run_append_make_grow (P := P) w e.t ex.t ty e'.t i z hu hux hi hz hi1 (some ⟨g0, 0, none⟩) len cap m xs hold hmp (by omega) (by omega) (growslice_fits (by omega) (by rw [hby]; exact hbb)) hmb
        exact ⟨_, _, hr, fresh cap _ rfl rfl rfl rfl⟩

theorem jo_append_make (hT : T.ok P) {t tx t' : TypeId} {x y : Operand} {e ex e' : TE} {z0 : Value} {F : List Assn} {v : Value} {xs : List Value} {m : Nat} {k : Int} (i : Nat) (hx : ev l x = some v) (hy : ev l y = some (.int .i64 k)) (hk : k = m)
    (ht : T.find t = some e) (htd : e.td = .slice t') (htx : T.find tx = some ex) (hxd : ex.td = .int .i64) (he : T.find t' = some e') (hs1 : e'.size = 1) (hz0 : e'.zero = [z0]) (h1 : one z0 = true) (hL : sel [i] L = [sl t' 1 v xs] ∧ rem [i] L = F)
    (hb : (xs.length + m) * e'.bytes ≤ 140737488355328 ∧ xs.length + m ≤ maxLen) (hd : Nat.blt d n = true)
    (h : ∀ v', J E K n ((d, v') :: l) (sl t' 1 v' (xs ++ List.replicate m z0) :: F)) : J E (wpO P ops Q ⟨some d, .call { callee := .builtin .append, args := #[x, y], argTypes := #[t, tx] }, ty, pos, aft, none⟩ K) n l L := by
  subst hk
  refine jo_run rfl fun a w hf hs => ?_
  have hs1' := hs.sel [i]
  rw [hL.1, hL.2] at hs1'
  obtain ⟨v', w', hr, hs'⟩ := append_make_out (ty := ty) hT ht htd htx hxd he hs1 hz0 h1 hs1' hb
  have h' := h v'
  unfold J at h'
  refine ⟨v', w', ?_, h' _ w' (hf.put (Nat.le_of_ble_eq_true hd) _) hs'⟩
  simp only [execOp, resolve, invoke, builtin, Sem.run_bind, Sem.run_pure, Result.andThen_ok, List.map_toArray, List.map_cons, List.map_nil, hf.ev hx, hf.ev hy, hr]

theorem madeCells_one (z0 : Value) (m : Nat) : madeCells #[z0] m = (List.replicate m z0).toArray := by
  apply Array.ext'
  simp only [madeCells, Array.toList_map, Array.toList_range]
  rw [List.eq_replicate_iff]
  refine ⟨by simp, fun u hu => ?_⟩
  obtain ⟨j, _, rfl⟩ := List.mem_map.1 hu
  show (#[z0])[j % 1]! = z0
  rw [Nat.mod_one]; rfl
/-- make([]T, m), of one cell each -/
theorem jo_makeSlice (hT : T.ok P) {t t' : TypeId} {x y : Operand} {e e' : TE} {z0 : Value} {m : Nat} {k : Int} (hx : ev l x = some (.int .i64 k)) (hy : ev l y = some (.int .i64 k)) (hk : k = m) (ht : T.find t = some e) (htd : e.td = .slice t') (he : T.find t' = some e')
    (hs1 : e'.size = 1) (hz0 : e'.zero = [z0]) (hb : e'.bytes * m ≤ 281474976710656) (hm : m ≤ 16777216) (hd : Nat.blt d n = true)
    (h : ∀ b, J E K n ((d, .slice (some ⟨b, 0, none⟩) m m) :: l) (cl b (List.replicate m z0) t' :: L)) : J E (wpO P ops Q ⟨some d, .makeSlice t x y, ty, pos, aft, none⟩ K) n l L := by
  subst hk
  obtain ⟨hok, rfl⟩ := Tab.find_ok hT ht
  obtain ⟨hok', rfl⟩ := Tab.find_ok hT he
  obtain ⟨i, z, hi, hsz, hby, hz, hzc⟩ := hok'.info
  have hu := hok.slice htd
  have hzc1 : z.cells = #[z0] := by rw [hzc, hz0]
  refine jo_new (List.replicate m z0) (fun b => .slice (some ⟨b, 0, none⟩) m m) (fun a w hf hs => ?_) hd h
  have hr := run_makeSlice (P := P) w e.t e'.t i z hu hi hz .i64 .i64 (m : Int) (m : Int) (by omega) (Int.le_refl _) (by rw [hsz, hs1]; simpa using hm) (by rw [hby, ← Int.natCast_mul]; omega) (by omega)
  rw [hsz, hs1, Nat.mul_one, hzc1, Int.toNat_natCast, madeCells_one] at hr
  simp only [execOp, hf.ev hx, hf.ev hy, hr, Sem.run_bind, Result.andThen_ok]
  rfl
end
end Go.Proofs.YtejaonodaplbhaaDoor.Hp
