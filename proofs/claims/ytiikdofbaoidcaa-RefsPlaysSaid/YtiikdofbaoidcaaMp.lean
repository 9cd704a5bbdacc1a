import Derived.Test.YtiikdofbaoidcaaHp
import Derived.Test.YtiikdofbaoidcaaProg
import Derived.Maps.Keyed
import Derived.WideKeyRuns
import Derived.Laws.StructEq
import Derived.Carry
namespace Go.Proofs.Ytiikdofbaoidcaa
open Go Go.Proofs.Ytiikdofbaoidcaa.Hp
abbrev I (x : Int) : Value := .int .i64 x
abbrev ptr (b : Nat) : Value := .pointer (some ⟨b, 0, none⟩)
abbrev err (k : Int) : Value := .iface 66 (I k)
namespace Mp
open Go Go.Proofs.Ytiikdofbaoidcaa.Hp Go.MapKept
open Go.ChangeMaps (setBlock filter_eq_eraseIdx modify_eq_set set_perm heap_setBlock_same heap_setBlock_other)
set_option maxRecDepth 10000
set_option linter.unusedVariables false
set_option linter.unusedSimpArgs false
/-- what a map's key type must give -/
structure KO (P : Program) (kt : TypeId) {α : Type} (enc : α → Value) : Prop where
  inj : ∀ {a b : α}, enc a = enc b → a = b
  check : ∀ (em : Bool) (a : α) (w : World), (Instr.checkKey em 10000 kt (enc a)).run P w = .ok () w
  find : ∀ (a : α) (es : List MapEntry) (w : World), (∀ e ∈ es, ∃ b, e.key = enc b) → ((Instr.findKey kt (enc a) es).run P w = .ok none w ∧ ∀ e ∈ es, e.key ≠ enc a) ∨ ∃ j e, (Instr.findKey kt (enc a) es).run P w = .ok (some (j, e.val)) w ∧ es[j]? = some e ∧ e.key = enc a
  stays : ∀ (a : α) (w : World), (Instr.keyThatStays (enc a) (enc a)).run P w = .ok (enc a) w
abbrev Two := Int × Int
def encI (a : Int) : Value := I a
def encT (x : Two) : Value := .agg #[I x.1, I x.2]
theorem findNow_int (q : IntKind) (a : Int) : ∀ (es : List MapEntry) (i : Nat), (∀ e ∈ es, ∃ b : Int, e.key = encI b) → (Instr.findNow (.int q) (I a) es i = some none ∧ ∀ e ∈ es, e.key ≠ encI a) ∨ ∃ j e, Instr.findNow (.int q) (I a) es i = some (some (i + j, e.val)) ∧ es[j]? = some e ∧ e.key = encI a
  | [], i, _ => .inl ⟨rfl, fun e h => by cases h⟩
  | e :: es, i, h => by
    obtain ⟨b, hb⟩ := h e (by simp)
    unfold Instr.findNow
    rw [hb]
    by_cases hab : a = b
    · subst hab
      refine .inr ⟨0, e, ?_, rfl, hb⟩
      simp [Instr.sameNow, encI]
    · have hs : Instr.sameNow (.int q) (I a) (encI b) = some false := by simp [Instr.sameNow, encI, hab]
      rw [hs]
      rcases findNow_int q a es (i + 1) (fun e he => h e (by simp [he])) with ⟨h1, h2⟩ | ⟨j, e', h1, h2, h3⟩
      · refine .inl ⟨h1, fun e' he => ?_⟩
        rcases List.mem_cons.1 he with rfl | he
        · rw [hb]; intro hh; simp [encI] at hh; exact hab hh.symm
        · exact h2 e' he
      · exact .inr ⟨j + 1, e', by simp only [h1]; congr 3; omega, h2, h3⟩
theorem ko_int {P : Program} {kt : TypeId} (h : P.underlying kt = some (.int .i64)) : KO P kt encI where
  inj hab := by simpa [encI] using hab
  check em a w := MapKept.run_checkKey h (by simp [MapKept.IsKey, encI]) em 9999
  find a es w he := by
    rcases findNow_int .i64 a es 0 he with ⟨h1, h2⟩ | ⟨j, e, h1, h2, h3⟩
    · exact .inl ⟨by simp [Instr.findKey, run_underlying h, encI, h1, Result.andThen], h2⟩
    · exact .inr ⟨j, e, by simp [Instr.findKey, run_underlying h, encI, h1, Result.andThen], h2, h3⟩
  stays a w := by simp [Instr.keyThatStays, encI, Instr.sameBits]
theorem findAsking_two {P : Program} {kt : TypeId} (heq : ∀ (x y : Two) (w : World), (Op.equal kt (encT x) (encT y)).run P w = .ok (decide (x = y)) w) (a : Two) (w : World) : ∀ (es : List MapEntry) (i : Nat), (∀ e ∈ es, ∃ b : Two, e.key = encT b) →
    ((Instr.findAsking kt (encT a) es i).run P w = .ok none w ∧ ∀ e ∈ es, e.key ≠ encT a) ∨ ∃ j e, (Instr.findAsking kt (encT a) es i).run P w = .ok (some (i + j, e.val)) w ∧ es[j]? = some e ∧ e.key = encT a
  | [], i, _ => .inl ⟨by simp [Instr.findAsking], fun e h => by cases h⟩
  | e :: es, i, h => by
    obtain ⟨b, hb⟩ := h e (by simp)
    by_cases hab : a = b
    · subst hab
      refine .inr ⟨0, e, ?_, rfl, hb⟩
      simp [Instr.findAsking, hb, heq, Result.andThen]
    · rcases findAsking_two heq a w es (i + 1) (fun e he => h e (by simp [he])) with ⟨h1, h2⟩ | ⟨j, e', h1, h2, h3⟩
      · refine .inl ⟨by simp [Instr.findAsking, hb, heq, Result.andThen, hab, h1], fun e' he => ?_⟩
        rcases List.mem_cons.1 he with rfl | he
        · rw [hb]; intro hh; simp [encT] at hh; exact hab (Prod.ext hh.1.symm hh.2.symm)
        · exact h2 e' he
      · exact .inr ⟨j + 1, e', by simp [Instr.findAsking, hb, heq, Result.andThen, hab, h1]; omega, h2, h3⟩
theorem eq_two (x y : Two) (w : World) : (Op.equal 32 (encT x) (encT y)).run Try.prog w = .ok (decide (x = y)) w := by
  have u3 := Try.underlying3
  have a3 := Try.isAgg3
  have z3 := Try.sizeOf3
  have hS : Try.prog.underlying 32 = some (.struct (Try.prog.fieldsOf 32)) := by kernel_rfl
  have hp : Try.prog.stoodInHeld 32 = false := by kernel_rfl
  simp only [encT, Op.equal, Op.maxDepth]
  rw [show (10000 : Nat) = 9999 + 1 from rfl, run_equalIn_agg w 9999 32 _ _ hS hp]
  simp only [Program.fieldsOf, Try.underlying32]
  go_simp
  obtain ⟨x1, x2⟩ := x
  obtain ⟨y1, y2⟩ := y
  by_cases h1 : x1 = y1 <;> by_cases h2 : x2 = y2 <;> simp [h1, h2]
theorem ko_two : KO Try.prog 32 encT where
  inj {a b} hab := by
    simp [encT] at hab
    exact Prod.ext hab.1 hab.2
  check em a w := by
    have u3 := Try.underlying3
    have a3 := Try.isAgg3
    have z3 := Try.sizeOf3
    have u := Try.underlying32
    have c : ∀ (x : Int) (w : World), (Instr.checkKey em 9999 3 (I x)).run Try.prog w = .ok () w := fun x w => MapKept.run_checkKey u3 (by simp [MapKept.IsKey]) em 9998
    rw [show (10000 : Nat) = 9999 + 1 from rfl]
    unfold Instr.checkKey
    simp only [encT]
    go_simp
  find a es w he := by
    have u := Try.underlying32
    have e1 := run_findKey_eq (P := Try.prog) w (k := 32) (by rw [u]) (encT a) es
    rw [e1]
    rcases findAsking_two eq_two a w es 0 he with ⟨h1, h2⟩ | ⟨j, e, h1, h2, h3⟩
    · exact .inl ⟨h1, h2⟩
    · exact .inr ⟨j, e, by simpa using h1, h2, h3⟩
  stays a w := by simp [Instr.keyThatStays, encT, Instr.sameBits]
/-- a map's block: its entries are these, in whatever order -/
def Ents {α : Type} (enc : α → Value) (es : Array MapEntry) (clock : Nat) (D : List (α × Value)) : Prop :=
  Stamped es clock ∧ (es.toList.map fun e => (e.key, e.val)).Perm (D.map fun x => (enc x.1, x.2))
def mp {α : Type} (enc : α → Value) (b : Nat) (D : List (α × Value)) : Assn := fun m => ∃ es clock, m b = some (.map es clock) ∧ Ents enc es clock D
section
variable {P : Program} {kt t e : TypeId} {α : Type} {enc : α → Value} {es : Array MapEntry} {clock : Nat} {D : List (α × Value)} {w : World} {b : Nat}
theorem Ents.keys (h : Ents enc es clock D) : ∀ x ∈ es.toList, ∃ b, x.key = enc b := fun x hx => by
  have h1 : (x.key, x.val) ∈ D.map fun x => (enc x.1, x.2) := h.2.mem_iff.1 (List.mem_map.2 ⟨x, hx, rfl⟩)
  obtain ⟨d, hd, he⟩ := List.mem_map.1 h1
  exact ⟨d.1, (congrArg Prod.fst he).symm⟩
theorem Ents.perm {D' : List (α × Value)} (h : Ents enc es clock D) (hp : D.Perm D') : Ents enc es clock D' := ⟨h.1, h.2.trans (hp.map _)⟩
theorem Ents.off (K : KO P kt enc) (h : Ents enc es clock D) {a : α} (hn : ∀ x ∈ es.toList, x.key ≠ enc a) : ∀ x ∈ D, x.1 ≠ a := fun x hx he => by
  have h1 : (enc x.1, x.2) ∈ es.toList.map fun e => (e.key, e.val) := h.2.mem_iff.2 (List.mem_map.2 ⟨x, hx, rfl⟩)
  obtain ⟨y, hy, e1⟩ := List.mem_map.1 h1
  exact hn y hy (by rw [show y.key = enc x.1 from congrArg Prod.fst e1, he])
theorem Ents.on (K : KO P kt enc) (h : Ents enc es clock D) {a : α} {x : MapEntry} (hx : x ∈ es.toList) (hk : x.key = enc a) : (a, x.val) ∈ D := by
  have h1 : (x.key, x.val) ∈ D.map fun x => (enc x.1, x.2) := h.2.mem_iff.1 (List.mem_map.2 ⟨x, hx, rfl⟩)
  obtain ⟨d, hd, he⟩ := List.mem_map.1 h1
  have e1 : d.1 = a := K.inj (by rw [show enc d.1 = x.key from congrArg Prod.fst he, hk])
  have e2 : d.2 = x.val := congrArg Prod.snd he
  rw [← e1, ← e2]
  exact hd
open Classical in
/-- the entries at other keys -/
theorem Ents.rest [DecidableEq α] (K : KO P kt enc) (h : Ents enc es clock D) (a : α) : ((es.toList.filter fun x => !decide (x.key = enc a)).map fun e => (e.key, e.val)).Perm ((D.filter fun x => !decide (x.1 = a)).map fun x => (enc x.1, x.2)) := by
  have h1 := h.2.filter fun y => !decide (y.1 = enc a)
  rw [List.filter_map, List.filter_map] at h1
  have e1 : (fun y : Value × Value => !decide (y.1 = enc a)) ∘ (fun x : α × Value => (enc x.1, x.2)) = fun x => !decide (x.1 = a) := by
    funext x
    simp only [Function.comp]
    congr 1
    rw [decide_eq_decide]
    exact ⟨K.inj, fun hh => by rw [hh]⟩
  rw [e1] at h1
  exact h1
open Classical in
theorem Ents.at_ (h : Ents enc es clock D) {a : α} {j : Nat} {x : MapEntry} (hj : es.toList[j]? = some x) (hk : x.key = enc a) : (es.toList.filter fun x => !decide (x.key = enc a)) = es.toList.eraseIdx j := by
  refine filter_eq_eraseIdx (fun x : MapEntry => decide (x.key = enc a)) es.toList j x hj (by simp [hk]) ?_
  refine ((stamped_iff es clock).1 h.1).2.2.imp ?_
  intro p q hne ⟨h1, h2⟩
  simp only [decide_eq_true_eq] at h1 h2
  exact hne (h1.trans h2.symm)
theorem mp_look (K : KO P kt enc) (ht : P.underlying t = some (.map kt e)) (hb : w.heap[b]? = some (.map es clock)) (h : Ents enc es clock D) (a : α) :
    ((∀ x ∈ D, x.1 ≠ a) ∧ ∀ (c : Bool) (z : Value), (zeroValue e).run P w = .ok z w → (Instr.lookup t (.map (some b)) (enc a) c).run P w = .ok (if c then .tuple #[z, .bool false] else z) w) ∨
    ∃ v, (a, v) ∈ D ∧ ∀ c : Bool, (Instr.lookup t (.map (some b)) (enc a) c).run P w = .ok (if c then .tuple #[v, .bool true] else v) w := by
  rcases K.find a es.toList w h.keys with ⟨h1, h2⟩ | ⟨j, x, h1, h2, h3⟩
  · refine .inl ⟨h.off K h2, fun c z hz => ?_⟩
    simp [Instr.lookup, run_underlying ht, MapKept.run_getObj_map hb, K.check, h1, hz, Result.andThen]
  · refine .inr ⟨x.val, h.on K (List.mem_of_getElem? h2) h3, fun c => ?_⟩
    simp [Instr.lookup, run_underlying ht, MapKept.run_getObj_map hb, K.check, h1, Result.andThen]
theorem mp_update [DecidableEq α] (K : KO P kt enc) (ht : P.underlying t = some (.map kt e)) (hb : w.heap[b]? = some (.map es clock)) (h : Ents enc es clock D) (a : α) (v : Value) :
    ∃ es' clock', (Instr.mapUpdate t (.map (some b)) (enc a) v).run P w = .ok () (setBlock w b (.map es' clock')) ∧ Ents enc es' clock' ((a, v) :: D.filter fun x => !decide (x.1 = a)) := by
  rcases K.find a es.toList w h.keys with ⟨h1, h2⟩ | ⟨j, x, h1, h2, h3⟩
  · refine ⟨es.push ⟨enc a, v, clock⟩, clock + 1, ?_, stamped_push h.1 h2, ?_⟩
    · simp [Instr.mapUpdate, run_underlying ht, MapKept.run_getObj_map hb, K.check, h1, MapKept.run_setObj_map _ hb, Result.andThen, setBlock]
    · have e1 : (D.filter fun x => !decide (x.1 = a)) = D := List.filter_eq_self.2 fun x hx => by simpa using h.off K h2 x hx
      rw [e1, Array.toList_push, List.map_append, List.map_singleton, List.map_cons]
      exact (List.perm_append_singleton _ _).trans (h.2.cons _)
  · have hj : es[j]? = some x := by simpa using h2
    have hlist : (es.modify j (fun e' => { e' with key := enc a, val := v })).toList = es.toList.set j { x with key := enc a, val := v } := by rw [Array.toList_modify, modify_eq_set _ _ _ _ h2]
    refine ⟨es.modify j (fun e' => { e' with key := enc a, val := v }), clock, ?_, stamped_modify h.1 _ _ (fun _ _ => rfl) (fun e' _ he' => by rw [hj] at he'; cases he'; exact h3.symm), ?_⟩
    · simp [Instr.mapUpdate, run_underlying ht, MapKept.run_getObj_map hb, K.check, h1, hj, h3, K.stays, MapKept.run_setObj_map _ hb, Result.andThen, setBlock]
    · rw [hlist]
      refine ((set_perm es.toList j (List.getElem?_eq_some_iff.1 h2).1 _).map _).trans ?_
      rw [List.map_cons, List.map_cons, ← h.at_ h2 h3]
      exact (h.rest K a).cons _
theorem mp_delete [DecidableEq α] {ty : TypeId} (K : KO P kt enc) (ht : P.underlying t = some (.map kt e)) (hb : w.heap[b]? = some (.map es clock)) (h : Ents enc es clock D) (a : α) :
    ∃ es', (Builtin.delete_ #[t, kt] ty #[.map (some b), enc a]).run P w = .ok (.tuple #[]) (setBlock w b (.map es' clock)) ∧ Ents enc es' clock (D.filter fun x => !decide (x.1 = a)) := by
  rcases K.find a es.toList w h.keys with ⟨h1, h2⟩ | ⟨j, x, h1, h2, h3⟩
  · refine ⟨es, ?_, h.1, ?_⟩
    · simp [Builtin.delete_, run_underlying ht, MapKept.run_getObj_map hb, K.check, h1, MapKept.run_setObj_map _ hb, Result.andThen, setBlock]
    · have e1 : (D.filter fun x => !decide (x.1 = a)) = D := List.filter_eq_self.2 fun x hx => by simpa using h.off K h2 x hx
      rw [e1]; exact h.2
  · have hjs : j < es.size := by have := (List.getElem?_eq_some_iff.1 h2).1; simpa using this
    have hsub : (es.eraseIdxIfInBounds j).toList = es.toList.eraseIdx j := by
      unfold Array.eraseIdxIfInBounds
      rw [dif_pos hjs]
      simp
    refine ⟨es.eraseIdxIfInBounds j, ?_, stamped_erase h.1 j, ?_⟩
    · simp [Builtin.delete_, run_underlying ht, MapKept.run_getObj_map hb, K.check, h1, MapKept.run_setObj_map _ hb, Result.andThen, setBlock]
    · rw [hsub, ← h.at_ h2 h3]
      exact h.rest K a
theorem ents_nil {clock : Nat} : Ents enc #[] clock [] := ⟨stamped_empty clock, by simp⟩
theorem Ents.size (h : Ents enc es clock D) : es.size = D.length := by
  have := h.2.length_eq
  simpa using this
end
end Mp
end Go.Proofs.Ytiikdofbaoidcaa
