import Derived.Tactics
import Derived.Laws.AppendOwn
import Derived.Laws.OwnMore
import Derived.Laws.MakeOwn
import Derived.Laws.CopyOwn
import Derived.Laws.CopyRow
import Derived.Laws.Tables
import Derived.Orders
import Derived.OrdersHeld
import Derived.KernelRfl
import Derived.RowKit3
import Derived.Below
set_option linter.unusedVariables false
set_option linter.unusedSimpArgs false
namespace Go.Proofs.Ytiikdofbaoidcaa.Hd
open Go

abbrev Frag := Nat → Option Obj
abbrev Assn := Frag → Prop

def Split (m f g : Frag) : Prop := ∀ b, (f b = m b ∧ g b = none) ∨ (f b = none ∧ g b = m b)

def star : List Assn → Assn
  | [] => fun _ => True
  | A :: L => fun m => ∃ f g, Split m f g ∧ A f ∧ star L g

theorem Split.left {m f g : Frag} (h : Split m f g) {b : Nat} {o : Obj} (hf : f b = some o) : m b = some o := by
  rcases h b with ⟨h1, _⟩ | ⟨h1, _⟩
  · rw [← h1, hf]
  · rw [hf] at h1; cases h1

theorem Split.right {m f g : Frag} (h : Split m f g) {b : Nat} {o : Obj} (hf : g b = some o) : m b = some o := by
  rcases h b with ⟨_, h1⟩ | ⟨_, h1⟩
  · rw [hf] at h1; cases h1
  · rw [← h1, hf]

theorem Split.none_left {m f g : Frag} (h : Split m f g) {b : Nat} (hf : m b = none) : f b = none := by
  rcases h b with ⟨h1, _⟩ | ⟨h1, _⟩
  · rw [h1, hf]
  · exact h1

theorem Split.none_right {m f g : Frag} (h : Split m f g) {b : Nat} (hf : m b = none) : g b = none := by
  rcases h b with ⟨_, h1⟩ | ⟨_, h1⟩
  · exact h1
  · rw [h1, hf]

/-- more garbage -/
theorem star_mono : ∀ {L : List Assn} {m m' : Frag}, (∀ b o, m b = some o → m' b = some o) → star L m → star L m'
  | [], _, _, _, _ => trivial
  | A :: L, m, m', hle, ⟨f, g, hs, hA, hL⟩ => by
    refine ⟨f, fun b => match f b with | some _ => none | none => m' b, ?_, hA, star_mono (m := g) ?_ hL⟩
    · intro b
      cases hf : f b with
      | none => exact .inr ⟨rfl, by simp [hf]⟩
      | some o => exact .inl ⟨(hle b o (hs.left hf)).symm, by simp [hf]⟩
    · intro b o hg
      have hfb : f b = none := by
        rcases hs b with ⟨_, h1⟩ | ⟨h1, _⟩
        · rw [hg] at h1; cases h1
        · exact h1
      simp only [hfb]
      exact hle b o (hs.right hg)

theorem star_swap {A B : Assn} {L : List Assn} {m : Frag} (h : star (A :: B :: L) m) : star (B :: A :: L) m := by
  obtain ⟨f, g, hs, hA, f2, g2, hs2, hB, hL⟩ := h
  refine ⟨f2, fun b => match f b with | some o => some o | none => g2 b, ?_, hB, f, g2, ?_, hA, hL⟩
  · intro b
    rcases hs b with ⟨h1, h2⟩ | ⟨h1, h2⟩
    · have e2 := hs2.none_left h2
      have e3 := hs2.none_right h2
      refine .inr ⟨e2, ?_⟩
      cases hf : f b with
      | none => simp only [e3]; rw [← h1, hf]
      | some o => simp only; rw [← h1, hf]
    · simp only [h1]
      rcases hs2 b with ⟨k1, k2⟩ | ⟨k1, k2⟩
      · exact .inl ⟨by rw [k1, h2], k2⟩
      · exact .inr ⟨k1, by rw [k2, h2]⟩
  · intro b
    cases hf : f b with
    | none => exact .inr ⟨rfl, by simp [hf]⟩
    | some o =>
      refine .inl ⟨by simp [hf], ?_⟩
      rcases hs b with ⟨h1, h2⟩ | ⟨h1, _⟩
      · exact hs2.none_right h2
      · rw [hf] at h1; cases h1

theorem star_tail {A : Assn} {L L' : List Assn} (h : ∀ m, star L m → star L' m) {m : Frag} : star (A :: L) m → star (A :: L') m
  | ⟨f, g, hs, hA, hL⟩ => ⟨f, g, hs, hA, h g hL⟩

theorem star_head {A B : Assn} {L : List Assn} (h : ∀ m, A m → B m) {m : Frag} : star (A :: L) m → star (B :: L) m
  | ⟨f, g, hs, hA, hL⟩ => ⟨f, g, hs, h f hA, hL⟩

theorem star_drop {A : Assn} {L : List Assn} {m : Frag} : star (A :: L) m → star L m
  | ⟨_, _, hs, _, hL⟩ => star_mono (fun _ _ h => hs.right h) hL

theorem star_perm {L L' : List Assn} (h : L.Perm L') : ∀ {m : Frag}, star L m → star L' m := by
  induction h with
  | nil => exact fun h => h
  | cons x _ ih => exact star_tail fun _ => ih
  | swap x y l => exact star_swap
  | trans _ _ ih1 ih2 => exact fun h => ih2 (ih1 h)

/-- a bundle opens -/
theorem star_open : ∀ {M L : List Assn} {m : Frag}, star (star M :: L) m → star (M ++ L) m
  | [], _, _, h => star_drop h
  | A :: M, L, m, ⟨f, g, hs, ⟨f1, g1, hs1, hA, hM⟩, hL⟩ => by
    refine ⟨f1, fun b => match f1 b with | some _ => none | none => m b, ?_, hA, star_open (M := M) ⟨g1, g, ?_, hM, hL⟩⟩
    · intro b
      cases hf : f1 b with
      | none => exact .inr ⟨rfl, by simp [hf]⟩
      | some o => exact .inl ⟨(hs.left (hs1.left hf)).symm, by simp [hf]⟩
    · intro b
      cases hf : f1 b with
      | none =>
        rcases hs b with ⟨h1, h2⟩ | ⟨h1, h2⟩
        · refine .inl ⟨?_, h2⟩
          rcases hs1 b with ⟨k1, k2⟩ | ⟨k1, k2⟩
          · simp only [hf]; rw [k2, ← h1, ← k1, hf]
          · simp only [hf]; rw [k2, h1]
        · exact .inr ⟨hs1.none_right h1, by simp only [hf]; exact h2⟩
      | some o =>
        have h1 := hs1.left hf
        refine .inl ⟨?_, ?_⟩
        · simp only [hf]
          rcases hs1 b with ⟨k1, k2⟩ | ⟨k1, k2⟩
          · exact k2
          · rw [hf] at k1; cases k1
        · rcases hs b with ⟨_, h2⟩ | ⟨k1, _⟩
          · exact h2
          · rw [h1] at k1; cases k1

theorem star_close : ∀ {M L : List Assn} {m : Frag}, star (M ++ L) m → star (star M :: L) m
  | [], L, m, h => ⟨fun _ => none, m, fun b => .inr ⟨rfl, rfl⟩, trivial, h⟩
  | A :: M, L, m, ⟨f, g, hs, hA, hL⟩ => by
    obtain ⟨f1, g1, hs1, hM, hL1⟩ := star_close (M := M) hL
    refine ⟨fun b => match f b with | some o => some o | none => f1 b, g1, ?_, ⟨f, f1, ?_, hA, hM⟩, hL1⟩
    · intro b
      rcases hs b with ⟨h1, h2⟩ | ⟨h1, h2⟩
      · have e2 := hs1.none_left h2
        refine .inl ⟨?_, hs1.none_right h2⟩
        cases hf : f b with
        | none => simp only [e2]; rw [← h1, hf]
        | some o => simp only; rw [← h1, hf]
      · simp only [h1]
        rcases hs1 b with ⟨k1, k2⟩ | ⟨k1, k2⟩
        · exact .inl ⟨by rw [k1, h2], k2⟩
        · exact .inr ⟨k1, by rw [k2, h2]⟩
    · intro b
      cases hf : f b with
      | none => exact .inr ⟨rfl, by simp [hf]⟩
      | some o =>
        refine .inl ⟨by simp [hf], ?_⟩
        rcases hs b with ⟨_, h2⟩ | ⟨k1, _⟩
        · exact hs1.none_left h2
        · rw [hf] at k1; cases k1

/-- a block with just these cells, none of them frozen -/
def cl (b : Nat) (xs : List Value) (t : TypeId) : Assn := fun m => m b = some (.cells xs.toArray t (0, 0))
/-- a block, whatever it is -/
def ob (b : Nat) (o : Obj) : Assn := fun m => m b = some o
/-- what was there stands -/
def old (h : Array Obj) : Assn := fun m => ∀ b, b < h.size → m b = h[b]?

/-- choosing places of a list, one behind the other -/
def sel : List Nat → List Assn → List Assn
  | [], _ => []
  | i :: is, L => match L[i]? with
    | some A => A :: sel is (L.eraseIdx i)
    | none => sel is L
def rem : List Nat → List Assn → List Assn
  | [], L => L
  | i :: is, L => match L[i]? with
    | some _ => rem is (L.eraseIdx i)
    | none => rem is L

theorem perm_eraseIdx {α : Type} : ∀ {L : List α} {i : Nat} {x : α}, L[i]? = some x → L.Perm (x :: L.eraseIdx i)
  | [], _, _, h => by simp at h
  | y :: L, 0, x, h => by simp at h; subst h; simp
  | y :: L, i + 1, x, h => by
    simp only [List.getElem?_cons_succ] at h
    simp only [List.eraseIdx_cons_succ]
    exact ((perm_eraseIdx h).cons y).trans (List.Perm.swap x y _)

theorem perm_sel : ∀ (is : List Nat) (L : List Assn), L.Perm (sel is L ++ rem is L)
  | [], L => by simp [sel, rem]
  | i :: is, L => by
    cases h : L[i]? with
    | some A => simp only [sel, rem, h]; exact (perm_eraseIdx h).trans ((perm_sel is _).cons A)
    | none => simp only [sel, rem, h]; exact perm_sel is L

structure Sat (E w : World) (A : Assn) : Prop where
  os : w.os = E.os
  tape : w.tape = E.tape
  output : w.output = E.output
  dr : E.drawn ≤ w.drawn
  heap : A (fun b => w.heap[b]?)

theorem Sat.imp {E w : World} {A B : Assn} (h : Sat E w A) (hi : ∀ m, A m → B m) : Sat E w B := ⟨h.os, h.tape, h.output, h.dr, hi _ h.heap⟩
theorem Sat.perm {E w : World} {L L' : List Assn} (h : Sat E w (star L)) (hp : L.Perm L') : Sat E w (star L') := h.imp fun _ => star_perm hp
theorem Sat.sel {E w : World} {L : List Assn} (h : Sat E w (star L)) (is : List Nat) : Sat E w (star (Hd.sel is L ++ Hd.rem is L)) := h.perm (perm_sel is L)

theorem Sat.alloc {E w : World} {L : List Assn} (h : Sat E w (star L)) (o : Obj) : Sat E { w with heap := w.heap.push o } (star (ob w.heap.size o :: L)) := by
  refine ⟨h.os, h.tape, h.output, h.dr, fun b => if b = w.heap.size then some o else none, fun b => w.heap[b]?, ?_, by simp [ob], h.heap⟩
  intro b
  by_cases hb : b = w.heap.size
  · subst hb; exact .inl ⟨by simp, by simp⟩
  · refine .inr ⟨by simp [hb], ?_⟩
    simp only [Array.getElem?_push]
    rw [if_neg hb]

theorem Sat.put {E w w' : World} {L : List Assn} {b : Nat} {o o' : Obj} (h : Sat E w (star (ob b o :: L)))
    (h1 : w'.os = w.os) (h2 : w'.tape = w.tape) (h3 : w'.output = w.output) (hb : w'.heap[b]? = some o') (hk : ∀ k, k ≠ b → w'.heap[k]? = w.heap[k]?) (hd : w.drawn ≤ w'.drawn := by exact Nat.le_refl _) :
    Sat E w' (star (ob b o' :: L)) := by
  obtain ⟨f, g, hs, hA, hL⟩ := h.heap
  refine ⟨h1.trans h.os, h2.trans h.tape, h3.trans h.output, Nat.le_trans h.dr hd, fun k => if k = b then some o' else f k, g, ?_, by simp [ob], hL⟩
  intro k
  by_cases hkb : k = b
  · subst hkb
    refine .inl ⟨by simp [hb], ?_⟩
    rcases hs k with ⟨_, h4⟩ | ⟨h4, _⟩
    · exact h4
    · rw [show f k = some o from hA] at h4; cases h4
  · simp only [hkb, if_false, hk k hkb]
    exact hs k

theorem Sat.block {E w : World} {L : List Assn} {b : Nat} {o : Obj} (h : Sat E w (star (ob b o :: L))) : w.heap[b]? = some o := by
  obtain ⟨f, g, hs, hA, hL⟩ := h.heap
  exact hs.left hA
end Go.Proofs.Ytiikdofbaoidcaa.Hd
namespace Go.Proofs.Ytiikdofbaoidcaa.Hd
open Go

/-! ## frames -/
abbrev Fr := List (Nat × Value)

def lk (d : Nat) : Fr → Option Value
  | [] => none
  | (e, v) :: l => match Nat.beq d e with | true => some v | false => lk d l

structure Fits (a : Act) (n : Nat) (l : Fr) : Prop where
  size : a.tmps.size = n
  defers : a.defers = []
  get : ∀ d v, lk d l = some v → a.tmps.getD d undef = v

def ev (l : Fr) : Operand → Option Value
  | .tmp t => lk t l
  | .const v => some v
  | .global g => some (.pointer (some ⟨g, 0, none⟩))
  | .func f => some (.func (.func f) #[] #[])

def evs (l : Fr) : List Operand → Option (List Value)
  | [] => some []
  | x :: xs => match ev l x with
    | none => none
    | some v => match evs l xs with
      | none => none
      | some vs => some (v :: vs)

theorem Fits.put {a : Act} {n : Nat} {l : Fr} (h : Fits a n l) {d : Nat} (hd : d < n) (v : Value) : Fits (a.put (some d) v) n ((d, v) :: l) := by
  refine ⟨by simp [Act.put, h.size], h.defers, fun e u he => ?_⟩
  simp only [lk] at he
  simp only [Act.put]
  by_cases hde : e = d
  · subst hde
    simp only [Nat.beq_refl] at he
    cases he
    have : e < a.tmps.size := by rw [h.size]; exact hd
    simp [Array.getD, this]
  · have : Nat.beq e d = false := by
      cases hb : Nat.beq e d with
      | false => rfl
      | true => exact absurd (Nat.eq_of_beq_eq_true hb) hde
    rw [this] at he
    have := h.get e u he
    simp only [Array.getD_eq_getD_getElem?] at this ⊢
    rw [Array.getElem?_setIfInBounds_ne (by omega)]
    exact this

theorem Fits.sub {a : Act} {n : Nat} {l l' : Fr} (h : Fits a n l) (hs : ∀ d v, lk d l' = some v → lk d l = some v) : Fits a n l' :=
  ⟨h.size, h.defers, fun d v hv => h.get d v (hs d v hv)⟩

theorem Fits.ev {a : Act} {n : Nat} {l : Fr} (h : Fits a n l) {x : Operand} {v : Value} (hv : ev l x = some v) : a.eval x = v := by
  cases x with
  | tmp t => exact h.get t v hv
  | const c => cases hv; rfl
  | global g => cases hv; rfl
  | func f => cases hv; rfl

theorem Fits.evs {a : Act} {n : Nat} {l : Fr} (h : Fits a n l) : ∀ {xs : List Operand} {vs : List Value}, evs l xs = some vs → xs.map a.eval = vs
  | [], vs, hv => by cases hv; rfl
  | x :: xs, vs, hv => by
    simp only [Hd.evs] at hv
    split at hv
    · cases hv
    · rename_i v hx
      split at hv
      · cases hv
      · rename_i us hxs
        cases hv
        simp only [List.map_cons, h.ev hx, h.evs hxs]

/-! ## the types that are met -/
inductive TD where
  | int (k : IntKind)
  | slice (e : TypeId)
  | struct (fs : List (Nat × TypeId))
  | array (n : Nat) (e : TypeId)
  | map (k e : TypeId)
  | iface
  | bool
  | string
  | pointer (e : TypeId)
  | other

def TD.of : TypeDesc → TD
  | .int k => .int k
  | .slice e => .slice e
  | .struct fs => .struct (fs.toList.map fun f => (f.offset, f.type))
  | .array n e => .array n e
  | .map k e => .map k e
  | .interface _ => .iface
  | .bool => .bool
  | .string => .string
  | .pointer e => .pointer e
  | _ => .other

structure TE where
  t : TypeId
  td : TD
  size : Nat
  bytes : Nat
  zero : List Value

structure TE.ok (P : Program) (e : TE) : Prop where
  td : (P.underlying e.t).map TD.of = some e.td
  size : (P.info? e.t).map (·.size) = some e.size
  bytes : (P.info? e.t).map (·.bytes) = some e.bytes
  zero : (P.info? e.t).bind (fun i => i.zero.map (·.cells)) = some e.zero.toArray

abbrev Tab := List TE
def Tab.ok (P : Program) (T : Tab) : Prop := ∀ e ∈ T, e.ok P

def Tab.find (T : Tab) (t : TypeId) : Option TE :=
  match T with
  | [] => none
  | e :: T => match Nat.beq t e.t with | true => some e | false => Tab.find T t

theorem Tab.find_ok {P : Program} : ∀ {T : Tab} {t : TypeId} {e : TE}, Tab.ok P T → T.find t = some e → e.ok P ∧ e.t = t
  | [], _, _, _, hf => by cases hf
  | e' :: T, t, e, h, hf => by
    simp only [Tab.find] at hf
    cases hb : Nat.beq t e'.t with
    | true =>
      rw [hb] at hf
      cases hf
      exact ⟨h _ (List.mem_cons_self ..), (Nat.eq_of_beq_eq_true hb).symm⟩
    | false =>
      rw [hb] at hf
      exact Tab.find_ok (fun x hx => h x (List.mem_cons_of_mem _ hx)) hf

theorem TE.ok.slice {P : Program} {e : TE} (h : e.ok P) {x : TypeId} (hd : e.td = .slice x) : P.underlying e.t = some (.slice x) := by
  have := h.td
  rw [hd] at this
  cases hu : P.underlying e.t with
  | none => rw [hu] at this; cases this
  | some d => rw [hu] at this; cases d <;> simp [TD.of] at this; rw [this]

theorem TE.ok.iface {P : Program} {e : TE} (h : e.ok P) (hd : e.td = .iface) : ∃ ms, P.underlying e.t = some (.interface ms) := by
  have := h.td
  rw [hd] at this
  cases hu : P.underlying e.t with
  | none => rw [hu] at this; cases this
  | some d => rw [hu] at this; cases d <;> simp [TD.of] at this; exact ⟨_, rfl⟩

theorem TE.ok.not_iface {P : Program} {e : TE} (h : e.ok P) (hd : e.td ≠ .iface) : ∃ d, P.underlying e.t = some d ∧ ∀ ms, d ≠ .interface ms := by
  have := h.td
  cases hu : P.underlying e.t with
  | none => rw [hu] at this; cases this
  | some d =>
    rw [hu] at this
    refine ⟨d, rfl, fun ms hm => ?_⟩
    subst hm
    simp [TD.of] at this
    exact hd this.symm

theorem TE.ok.struct {P : Program} {e : TE} (h : e.ok P) {fs : List (Nat × TypeId)} (hd : e.td = .struct fs) :
    ∃ gs : Array Field, P.underlying e.t = some (.struct gs) ∧ gs.toList.map (fun f => (f.offset, f.type)) = fs := by
  have := h.td
  rw [hd] at this
  cases hu : P.underlying e.t with
  | none => rw [hu] at this; cases this
  | some d => rw [hu] at this; cases d <;> simp [TD.of] at this; exact ⟨_, rfl, this⟩

theorem TE.ok.array {P : Program} {e : TE} (h : e.ok P) {x : TypeId} {n : Nat} (hd : e.td = .array n x) : P.underlying e.t = some (.array n x) := by
  have := h.td
  rw [hd] at this
  cases hu : P.underlying e.t with
  | none => rw [hu] at this; cases this
  | some d => rw [hu] at this; cases d <;> simp [TD.of] at this; rw [this.1, this.2]

theorem TE.ok.int {P : Program} {e : TE} (h : e.ok P) {k : IntKind} (hd : e.td = .int k) : P.underlying e.t = some (.int k) := by
  have := h.td
  rw [hd] at this
  cases hu : P.underlying e.t with
  | none => rw [hu] at this; cases this
  | some d => rw [hu] at this; cases d <;> simp [TD.of] at this; rw [this]

theorem TE.ok.info {P : Program} {e : TE} (h : e.ok P) : ∃ i z, P.info? e.t = some i ∧ i.size = e.size ∧ i.bytes = e.bytes ∧ i.zero = some z ∧ z.cells = e.zero.toArray := by
  have h1 := h.size
  have h2 := h.bytes
  have h3 := h.zero
  cases hi : P.info? e.t with
  | none => rw [hi] at h1; cases h1
  | some i =>
    rw [hi] at h1 h2 h3
    simp only [Option.map_some, Option.some.injEq] at h1 h2
    simp only [Option.bind_some] at h3
    cases hz : i.zero with
    | none => rw [hz] at h3; cases h3
    | some z =>
      rw [hz] at h3
      simp only [Option.map_some, Option.some.injEq] at h3
      exact ⟨i, z, rfl, h1, h2, hz, h3⟩

def TD.agg : TD → Bool
  | .struct _ | .array _ _ => true
  | _ => false

theorem TE.ok.run_isAgg {P : Program} {e : TE} (h : e.ok P) (w : World) : (isAgg e.t).run P w = .ok e.td.agg w := by
  have := h.td
  cases hu : P.underlying e.t with
  | none => rw [hu] at this; cases this
  | some d =>
    rw [hu] at this
    simp only [Option.map_some, Option.some.injEq] at this
    unfold isAgg
    simp only [Sem.run_bind, run_underlying hu, Result.andThen_ok]
    rw [← this]
    cases d <;> rfl

theorem TE.ok.run_sizeOf {P : Program} {e : TE} (h : e.ok P) (w : World) : (sizeOf e.t).run P w = .ok e.size w := by
  obtain ⟨i, z, hi, hs, _⟩ := h.info
  simp [sizeOf, typeInfo, hi, hs]
end Go.Proofs.Ytiikdofbaoidcaa.Hd
namespace Go.Proofs.Ytiikdofbaoidcaa.Hd
open Go
/-! ## operations that look at no memory -/
/-- whole numbers and bools -/
def binV (op : BinOp) (x y : Value) : Option Value :=
  match op, x, y with
  | .add, .int .i64 a, .int .i64 b => some (.int .i64 (IntKind.i64.wrap (a + b)))
  | .sub, .int .i64 a, .int .i64 b => some (.int .i64 (IntKind.i64.wrap (a - b)))
  | .mul, .int .i64 a, .int .i64 b => some (.int .i64 (IntKind.i64.wrap (a * b)))
  | .eql, .int .i64 a, .int .i64 b => some (.bool (a == b))
  | .neq, .int .i64 a, .int .i64 b => some (.bool (a != b))
  | .lss, .int .i64 a, .int .i64 b => some (.bool (decide (a < b)))
  | .leq, .int .i64 a, .int .i64 b => some (.bool (decide (a ≤ b)))
  | .gtr, .int .i64 a, .int .i64 b => some (.bool (decide (a > b)))
  | .geq, .int .i64 a, .int .i64 b => some (.bool (decide (a ≥ b)))
  | .eql, .int .u64 a, .int .u64 b => some (.bool (a == b))
  | .neq, .int .u64 a, .int .u64 b => some (.bool (a != b))
  | .lss, .int .u64 a, .int .u64 b => some (.bool (decide (a < b)))
  | .leq, .int .u64 a, .int .u64 b => some (.bool (decide (a ≤ b)))
  | .gtr, .int .u64 a, .int .u64 b => some (.bool (decide (a > b)))
  | .geq, .int .u64 a, .int .u64 b => some (.bool (decide (a ≥ b)))
  | _, _, _ => none

theorem binV_sound {P : Program} {op : BinOp} {x y v : Value} (h : binV op x y = some v) (t : TypeId) (ox oy : Operand) (w : World) :
    (do eqGuard op t ox oy x y; binOp op t x y : Sem Value).run P w = .ok v w := by
  unfold binV at h
  split at h <;> cases h <;> rfl

/-- one operation, its operands' values by 'ρ'; nothing of memory, nothing that may panic -/
def pureV (T : Tab) (ρ : Operand → Option Value) : Op → Option Value
  | .move x | .assign x => ρ x
  | .pick c a b => match ρ c with
    | some (.bool true) => ρ a
    | some (.bool false) => ρ b
    | _ => none
  | .nilCheck x => match ρ x with
    | some (.pointer (some a)) => some (.pointer (some a))
    | some (.func (.func f) g h) => some (.func (.func f) g h)
    | _ => none
  | .binOp op _ x y _ => match ρ x with
    | none => none
    | some u => match ρ y with
      | none => none
      | some v => binV op u v
  | .unOp .not _ x => match ρ x with
    | some (.bool b) => some (.bool (!b))
    | _ => none
  | .makeInterface t x => match T.find t with
    | none => none
    | some e => match e.td with
      | .iface => none
      | _ => match ρ x with
        | none => none
        | some v => some (.iface t v)
  | .extract x i => match ρ x with
    | some (.tuple vs) => vs[i]?
    | _ => none
  | .makeFunc fn first captured => match evs' ρ first.toList with
    | none => none
    | some fs => match evs' ρ captured.toList with
      | none => none
      | some cs => some (.func fn fs.toArray cs.toArray)
  | .fieldAddr s x f => match T.find s with
    | none => none
    | some e => match e.td with
      | .struct fs => match fs[f]? with
        | none => none
        | some (off, ft) => match T.find ft with
          | none => none
          | some e' => match e'.size with
            | 0 => none
            | _ + 1 => match ρ x with
              | some (.pointer (some ⟨b, o, none⟩)) => some (.pointer (some ⟨b, match off with | 0 => o | _ => o + off, none⟩))
              | _ => none
      | _ => none
  | .field s x f => match T.find s with
    | none => none
    | some e => match e.td with
      | .struct fs => match fs[f]? with
        | none => none
        | some (off, ft) => match T.find ft with
          | none => none
          | some e' => match ρ x with
            | some (.agg cs) => match e'.td.agg with
              | true => some (.agg (cs.toList.extract off (off + e'.size)).toArray)
              | false => cs.toList[off]?
            | _ => none
      | _ => none
  | .call { callee := .builtin .len, args, argTypes } => match argTypes.toList with
    | [t] => match T.find t with
      | none => none
      | some e => match e.td with
        | .slice _ => match args.toList with
          | [x] => match ρ x with
            | some (.slice _ n _) => some (.int .i64 n)
            | _ => none
          | _ => none
        | _ => none
    | _ => none
  | _ => none
where evs' (ρ : Operand → Option Value) : List Operand → Option (List Value)
  | [] => some []
  | x :: xs => match ρ x with
    | none => none
    | some v => match evs' ρ xs with
      | none => none
      | some vs => some (v :: vs)

theorem evs'_sound {ρ : Operand → Option Value} {σ : Operand → Value} (hρ : ∀ x v, ρ x = some v → σ x = v) : ∀ {xs : List Operand} {vs : List Value}, pureV.evs' ρ xs = some vs → xs.map σ = vs
  | [], vs, hv => by cases hv; rfl
  | x :: xs, vs, hv => by
    simp only [pureV.evs'] at hv
    split at hv
    · cases hv
    · rename_i v hx
      split at hv
      · cases hv
      · rename_i us hxs
        cases hv
        simp only [List.map_cons, hρ x v hx, evs'_sound hρ hxs]

theorem pureV_sound {P : Program} {T : Tab} (hT : T.ok P) {ρ : Operand → Option Value} {σ : Operand → Value} (hρ : ∀ x v, ρ x = some v → σ x = v) (o : Oper) {v : Value}
    (h : pureV T ρ o.op = some v) (w : World) : (execOp σ o).run P w = .ok (.value v) w := by
  obtain ⟨dst, op, ty, pos, aft, gd⟩ := o
  simp only at h
  cases op with
  | move x => simp only [pureV] at h; simp [execOp, hρ x v h]
  | assign x => simp only [pureV] at h; simp [execOp, hρ x v h]
  | pick c a b =>
    simp only [pureV] at h
    split at h
    · rename_i hc; simp [execOp, hρ _ _ hc, asBool, hρ _ _ h]
    · rename_i hc; simp [execOp, hρ _ _ hc, asBool, hρ _ _ h]
    · cases h
  | nilCheck x =>
    simp only [pureV] at h
    split at h
    · rename_i hc; cases h; simp [execOp, hρ _ _ hc]
    · rename_i hc; cases h; simp [execOp, hρ _ _ hc]
    · cases h
  | binOp op t x y yt =>
    simp only [pureV] at h
    split at h
    · cases h
    · rename_i u hx
      split at h
      · cases h
      · rename_i u' hy
        have := binV_sound (P := P) h t x y w
        simp only [execOp, hρ _ _ hx, hρ _ _ hy]
        rw [Sem.run_bind, this]
        rfl
  | unOp op t x =>
    cases op <;> simp only [pureV] at h
    all_goals first | (cases h; done) | skip
    split at h
    · rename_i hc; cases h; simp [execOp, hρ _ _ hc, Op.unary]
    · cases h
  | makeInterface t x =>
    simp only [pureV] at h
    split at h
    · cases h
    · rename_i e he
      obtain ⟨hok, rfl⟩ := Tab.find_ok hT he
      split at h
      · cases h
      · rename_i htd
        split at h
        · cases h
        · rename_i u hx
          cases h
          obtain ⟨d, hd, hni⟩ := hok.not_iface (by intro hh; exact htd hh)
          simp only [execOp, Instr.makeInterface, hρ _ _ hx, Sem.run_bind, run_underlying hd, Result.andThen_ok]
          cases d <;> first | rfl | exact absurd rfl (hni _)
  | extract x i =>
    simp only [pureV] at h
    split at h
    · rename_i vs hx
      simp [execOp, hρ _ _ hx, Instr.extract, h]
    · cases h
  | makeFunc fn first captured =>
    simp only [pureV] at h
    split at h
    · cases h
    · rename_i fs hf
      split at h
      · cases h
      · rename_i cs hc
        cases h
        have h1 := evs'_sound hρ hf
        have h2 := evs'_sound hρ hc
        have e1 : first.map σ = fs.toArray := by apply Array.ext'; rw [Array.toList_map, h1]
        have e2 : captured.map σ = cs.toArray := by apply Array.ext'; rw [Array.toList_map, h2]
        simp [execOp, Instr.makeFunc, e1, e2]
  | fieldAddr s x f =>
    simp only [pureV] at h
    split at h
    · cases h
    · rename_i e he
      obtain ⟨hok, rfl⟩ := Tab.find_ok hT he
      split at h
      · rename_i fs htd
        split at h
        · cases h
        · rename_i off ft hf
          split at h
          · cases h
          · rename_i e' he'
            obtain ⟨hok', rfl⟩ := Tab.find_ok hT he'
            split at h
            · cases h
            · rename_i sz hsz
              split at h
              · rename_i b ofs hx
                cases h
                obtain ⟨gs, hu, hgs⟩ := hok.struct htd
                have hg : ∃ g, gs[f]? = some g ∧ g.offset = off ∧ g.type = e'.t := by
                  rw [← hgs] at hf
                  simp only [List.getElem?_map, Option.map_eq_some_iff] at hf
                  obtain ⟨g, hg, hp⟩ := hf
                  exact ⟨g, by simpa using hg, congrArg Prod.fst hp, congrArg Prod.snd hp⟩
                obtain ⟨g, hg, rfl, hgt⟩ := hg
                have hs := hok'.run_sizeOf w
                rw [← hgt] at hs
                have hs' : (sizeOf g.type).run P w = .ok (sz + 1) w := by rw [hs, hsz]
                simp only [execOp, Instr.fieldAt, hρ _ _ hx, Sem.run_bind, run_underlying hu, Result.andThen_ok, hg, Instr.sureAddr, Sem.run_pure, fieldPlace, hs', Nat.succ_ne_zero, if_false, Addr.add]
                cases g.offset with
                | zero => rfl
                | succ k => rfl
              · cases h
      · cases h
  | field s x f =>
    simp only [pureV] at h
    split at h
    · cases h
    · rename_i e he
      obtain ⟨hok, rfl⟩ := Tab.find_ok hT he
      split at h
      · rename_i fs htd
        split at h
        · cases h
        · rename_i off ft hf
          split at h
          · cases h
          · rename_i e' he'
            obtain ⟨hok', rfl⟩ := Tab.find_ok hT he'
            split at h
            · rename_i cs hx
              obtain ⟨gs, hu, hgs⟩ := hok.struct htd
              have hg : ∃ g, gs[f]? = some g ∧ g.offset = off ∧ g.type = e'.t := by
                rw [← hgs] at hf
                simp only [List.getElem?_map, Option.map_eq_some_iff] at hf
                obtain ⟨g, hg, hp⟩ := hf
                exact ⟨g, by simpa using hg, congrArg Prod.fst hp, congrArg Prod.snd hp⟩
              obtain ⟨g, hg, rfl, hgt⟩ := hg
              have hs := hok'.run_sizeOf w
              have ha := hok'.run_isAgg w
              rw [← hgt] at hs ha
              simp only [execOp, Instr.field, hρ _ _ hx, Sem.run_bind, run_underlying hu, Result.andThen_ok, hg, asAgg, Sem.run_pure, part, ha]
              split at h
              · rename_i hag
                cases h
                simp only [hag, if_true, Sem.run_bind, hs, Result.andThen_ok, Sem.run_pure]
                congr 3
                apply Array.ext'
                simp
              · rename_i hag
                have h2 : cs[g.offset]? = some v := by simpa using h
                simp [hag, h2]
            · cases h
      · cases h
  | call c =>
    obtain ⟨callee, args, argTypes⟩ := c
    cases callee with
    | value f => simp only [pureV] at h; cases h
    | invoke r m => simp only [pureV] at h; cases h
    | builtin b =>
      cases b <;> simp only [pureV] at h
      all_goals first | (cases h; done) | skip
      split at h
      · rename_i t ht
        split at h
        · cases h
        · rename_i e he
          obtain ⟨hok, rfl⟩ := Tab.find_ok hT he
          split at h
          · rename_i el htd
            split at h
            · rename_i x hx
              split at h
              · rename_i a n c hv
                cases h
                have hu := hok.slice htd
                have e1 : argTypes = #[e.t] := Array.ext' ht
                have e2 : args = #[x] := Array.ext' hx
                subst e1 e2
                simp [execOp, resolve, invoke, builtin, Builtin.len_, run_underlying hu, hρ _ _ hv, goInt]
              · cases h
            · cases h
          · cases h
      · cases h
  | _ => simp only [pureV] at h; cases h
end Go.Proofs.Ytiikdofbaoidcaa.Hd
namespace Go.Proofs.Ytiikdofbaoidcaa.Hd
open Go
/-! ## the judgement: from each state that fits, 'X' -/
def J (E : World) (X : Act → World → Prop) (n : Nat) (l : Fr) (L : List Assn) : Prop :=
  ∀ a w, Fits a n l → Sat E w (star L) → X a w

section
variable {P : Program} {E : World} {X Y : Act → World → Prop} {Q : Exit → Act → World → Prop} {n : Nat} {l : Fr} {L : List Assn}

theorem J.imp (h : J E X n l L) (hi : ∀ a w, X a w → Y a w) : J E Y n l L := fun a w hf hs => hi a w (h a w hf hs)

theorem j_perm {L' : List Assn} (hp : L.Perm L') (h : J E X n l L') : J E X n l L := fun a w hf hs => h a w hf (hs.perm hp)
/-- these places come to the front -/
theorem j_front (is : List Nat) (h : J E X n l (sel is L ++ rem is L)) : J E X n l L := j_perm (perm_sel is L) h
theorem j_drop (i : Nat) (h : J E X n l (L.eraseIdx i)) : J E X n l L := by
  intro a w hf hs
  cases hi : L[i]? with
  | none => rw [List.eraseIdx_of_length_le (by simpa using hi)] at h; exact h a w hf hs
  | some A => exact h a w hf ((hs.perm (perm_eraseIdx hi)).imp fun _ => star_drop)
theorem j_ex {α : Type} {A : α → Assn} (h : ∀ x, J E X n l (A x :: L)) : J E X n l ((fun m => ∃ x, A x m) :: L) := by
  intro a w hf hs
  obtain ⟨f, g, hsp, ⟨x, hA⟩, hL⟩ := hs.heap
  exact h x a w hf ⟨hs.os, hs.tape, hs.output, hs.dr, f, g, hsp, hA, hL⟩
theorem j_and {p : Prop} {A : Assn} (h : p → J E X n l (A :: L)) : J E X n l ((fun m => p ∧ A m) :: L) := by
  intro a w hf hs
  obtain ⟨f, g, hsp, ⟨hp, hA⟩, hL⟩ := hs.heap
  exact h hp a w hf ⟨hs.os, hs.tape, hs.output, hs.dr, f, g, hsp, hA, hL⟩
theorem j_star {M : List Assn} (h : J E X n l (M ++ L)) : J E X n l (star M :: L) := fun a w hf hs => h a w hf (hs.imp fun _ => star_open)
/-- these atoms are bound up in one -/
theorem j_close {M : List Assn} {A : Assn} (is : List Nat) (hsel : sel is L = M) (hc : ∀ m, star M m → A m) (h : J E X n l (A :: rem is L)) : J E X n l L := by
  intro a w hf hs
  have h1 := hs.sel is
  rw [hsel] at h1
  exact h a w hf (h1.imp fun m hm => star_head hc (star_close hm))
theorem j_fr {l' : Fr} (hl : ∀ d v, lk d l' = some v → lk d l = some v) (h : J E X n l' L) : J E X n l L := fun a w hf hs => h a w (hf.sub hl) hs

theorem star_drops : ∀ (M N : List Assn) m, star (M ++ N) m → star N m
  | [], _, _, h => h
  | _ :: M, N, m, h => star_drops M N m (star_drop h)
theorem Sat.pick {w : World} (hs : Sat E w (star L)) (is ds : List Nat) {M : List Assn} (hA : Hd.sel is (Hd.rem ds L) ++ Hd.rem is (Hd.rem ds L) = M) : Sat E w (star M) := by
  have h1 := ((hs.sel ds).imp (star_drops _ _)).sel is
  rwa [hA] at h1

def Sub : Fr → Fr → Prop
  | [], _ => True
  | (d, v) :: r, l => lk d l = some v ∧ Sub r l
theorem Sub.lk : ∀ {r l : Fr}, Sub r l → ∀ d v, Hd.lk d r = some v → Hd.lk d l = some v
  | [], _, _, _, _, h => by cases h
  | (e, u) :: r, l, hs, d, v, h => by
    simp only [Hd.lk] at h
    cases hb : Nat.beq d e with
    | true =>
      rw [hb] at h
      cases h
      rw [Nat.eq_of_beq_eq_true hb]
      exact hs.1
    | false =>
      rw [hb] at h
      exact hs.2.lk d v h

/-! ## code -/
theorem jc_seq {x y : Code} (h : J E (x.wp P (Exit.then (y.wp P Q) Q)) n l L) : J E ((Code.seq x y).wp P Q) n l L := fun a w hf hs => wp_seq (h a w hf hs)
theorem jc_skip (h : J E (Q .normal) n l L) : J E (Code.skip.wp P Q) n l L := fun a w hf hs => wp_skip (h a w hf hs)
theorem jc_ret (h : J E (Q .ret) n l L) : J E (Code.ret.wp P Q) n l L := fun a w hf hs => wp_ret (h a w hf hs)
theorem jc_exit {id : Nat} (h : J E (Q (.exit id)) n l L) : J E ((Code.exit id).wp P Q) n l L := fun a w hf hs => wp_exit (h a w hf hs)
theorem jc_block {id : Nat} {c : Code} (h : J E (c.wp P (Exit.inBlock id Q)) n l L) : J E ((Code.block id c).wp P Q) n l L := fun a w hf hs => wp_block (h a w hf hs)
theorem jc_cond {c : Operand} {x y : Code} {b : Bool} (hc : ev l c = some (.bool b)) (ht : b = true → J E (x.wp P Q) n l L) (he : b = false → J E (y.wp P Q) n l L) :
    J E ((Code.cond c x y).wp P Q) n l L := fun a w hf hs => by
  cases b with
  | true => exact wp_cond_true (hf.ev hc) (ht rfl a w hf hs)
  | false => exact wp_cond_false (hf.ev hc) (he rfl a w hf hs)
theorem jc_true {c : Operand} {x y : Code} (hc : ev l c = some (.bool true)) (h : J E (x.wp P Q) n l L) : J E ((Code.cond c x y).wp P Q) n l L :=
  fun a w hf hs => wp_cond_true (hf.ev hc) (h a w hf hs)
theorem jc_false {c : Operand} {x y : Code} (hc : ev l c = some (.bool false)) (h : J E (y.wp P Q) n l L) : J E ((Code.cond c x y).wp P Q) n l L :=
  fun a w hf hs => wp_cond_false (hf.ev hc) (h a w hf hs)
/-- a test on a proposition -/
theorem jc_dec {c : Operand} {x y : Code} {p : Prop} [Decidable p] (hc : ev l c = some (.bool (decide p))) (ht : p → J E (x.wp P Q) n l L) (he : ¬ p → J E (y.wp P Q) n l L) :
    J E ((Code.cond c x y).wp P Q) n l L :=
  jc_cond hc (fun h => ht (of_decide_eq_true h)) (fun h => he (of_decide_eq_false h))
theorem jc_beq {c : Operand} {x y : Code} {u v : Int} (hc : ev l c = some (.bool (u == v))) (ht : u = v → J E (x.wp P Q) n l L) (he : ¬ u = v → J E (y.wp P Q) n l L) :
    J E ((Code.cond c x y).wp P Q) n l L :=
  jc_cond hc (fun h => ht (by simpa using h)) (fun h => he (by simpa using h))
theorem jc_bne {c : Operand} {x y : Code} {u v : Int} (hc : ev l c = some (.bool (u != v))) (ht : ¬ u = v → J E (x.wp P Q) n l L) (he : u = v → J E (y.wp P Q) n l L) :
    J E ((Code.cond c x y).wp P Q) n l L :=
  jc_cond hc (fun h => ht (by simpa using h)) (fun h => he (by simpa using h))

/-- a loop: 'x' tells the round; its frame, its memory, what holds, what falls -/
theorem jc_loop {c : Code} {ι : Type} (I : ι → Fr) (A : ι → List Assn) (p : ι → Prop) (μ : ι → Nat) (x0 : ι) (is ds : List Nat) (hp : p x0) (hl : Sub (I x0) l)
    (hA : sel is (rem ds L) ++ rem is (rem ds L) = A x0)
    (round : ∀ x, p x → J E (c.wp P (Exit.then (fun a w => ∃ x', p x' ∧ μ x' < μ x ∧ Fits a n (I x') ∧ Sat E w (star (A x'))) Q)) n (I x) (A x)) :
    J E ((Code.loop c).wp P Q) n l L := by
  intro a w hf hs
  have hs' := hs.pick is ds hA
  have key : ∀ k x, μ x = k → p x → ∀ a w, Fits a n (I x) → Sat E w (star (A x)) → ∀ (b : Frame) (kk : List Item) (cs : List Frame),
      ∃ e a' w', Q e a' w' ∧ Arrives P (lone (b.at a (.code c :: .inLoop c :: kk)) cs w) b kk cs e a' w' := by
    intro k
    induction k using Nat.strongRecOn with
    | _ k ih =>
      intro x hk hp a w hf hs b kk cs
      obtain ⟨e, a₁, w₁, hq, harr⟩ := round x hp a w hf hs b (.inLoop c :: kk) cs
      cases e with
      | normal =>
        obtain ⟨x', hp', hlt, hf', hs'⟩ := hq
        obtain ⟨e₂, a₂, w₂, hq₂, harr₂⟩ := ih (μ x') (hk ▸ hlt) x' rfl hp' a₁ w₁ hf' hs' b kk cs
        exact ⟨e₂, a₂, w₂, hq₂, .of_steps (Steps.trans harr (.one step_inLoop)) harr₂⟩
      | exit id => exact ⟨_, a₁, w₁, hq, .pass (x := .inLoop c) rfl (fun _ _ => .inl (by simp)) harr⟩
      | goto l => exact ⟨_, a₁, w₁, hq, .pass (x := .inLoop c) rfl (fun _ _ => .inl (by simp)) harr⟩
      | ret => exact ⟨_, a₁, w₁, hq, .pass (x := .inLoop c) rfl (fun _ _ => .inl (by simp)) harr⟩
      | panic ch => exact ⟨_, a₁, w₁, hq, .pass (x := .inLoop c) rfl (fun _ _ => .inl (by simp)) harr⟩
      | outgrown => exact ⟨_, a₁, w₁, hq, .pass (x := .inLoop c) rfl (fun _ _ => .inl (by simp)) harr⟩
  intro b kk cs
  obtain ⟨e, a', w', hq, harr⟩ := key _ x0 rfl hp a w (hf.sub hl.lk) hs' b kk cs
  exact ⟨e, a', w', hq, .of_steps (.one step_loop) harr⟩

theorem jx_round {ι : Type} {I : ι → Fr} {A : ι → List Assn} {p : ι → Prop} {k : Nat} {μ : ι → Nat} (x : ι) (is ds : List Nat) (hp : p x) (hμ : μ x < k) (hl : Sub (I x) l)
    (hA : sel is (rem ds L) ++ rem is (rem ds L) = A x) : J E (fun a w => ∃ x', p x' ∧ μ x' < k ∧ Fits a n (I x') ∧ Sat E w (star (A x'))) n l L := by
  intro a w hf hs
  exact ⟨x, hp, hμ, hf.sub hl.lk, hs.pick is ds hA⟩

/-! ## the end of a function -/
def resV (rs : List ResultVar) (l : Fr) : Option Value :=
  match rs with
  | [.tmp t] => lk t l
  | [] => some (.tuple #[])
  | [.tmp t, .tmp u] => match lk t l with
    | none => none
    | some x => match lk u l with
      | none => none
      | some y => some (.tuple #[x, y])
  | _ => none

theorem resV_sound {fn : Func} {a : Act} {v : Value} (hf : Fits a n l) (h : resV fn.results.toList l = some v) (w : World) : (results fn a.tmps).run P w = .ok v w := by
  unfold resV at h
  split at h
  · rename_i t ht
    have e : fn.results = #[.tmp t] := Array.ext' ht
    rw [results_tmp e]
    rw [hf.get t v h]
  · rename_i ht
    have e : fn.results = #[] := Array.ext' ht
    rw [results_none e]
    cases h
    rfl
  · rename_i t u ht
    have e : fn.results = #[.tmp t, .tmp u] := Array.ext' ht
    split at h
    · cases h
    · rename_i x hx
      split at h
      · cases h
      · rename_i y hy
        cases h
        rw [results_tmp2 e, hf.get t x hx, hf.get u y hy]
  · cases h

/-- what a call comes to: 'O v B': it hands back v, and owns B then -/
def Tri (P : Program) (f : FuncId) (vs : List Value) (pre : List Assn) (O : Value → List Assn → Prop) : Prop :=
  ∀ E F w, Sat E w (star (pre ++ F)) → Calls P f vs.toArray w fun e w' => ∃ v B, O v B ∧ e = .returned v ∧ Sat E w' (star (B ++ F))

def ends (E : World) (O : Value → List Assn → Prop) (F : List Assn) : Ending → World → Prop := fun e w' => ∃ v B, O v B ∧ e = .returned v ∧ Sat E w' (star (B ++ F))

def efr : Nat → List Value → Fr
  | _, [] => []
  | i, v :: vs => (i, v) :: efr (i + 1) vs

theorem efr_get : ∀ (vs : List Value) (i d : Nat) (v : Value), lk d (efr i vs) = some v → i ≤ d ∧ vs[d - i]? = some v
  | [], _, _, _, h => by cases h
  | u :: vs, i, d, v, h => by
    simp only [efr, lk] at h
    cases hb : Nat.beq d i with
    | true =>
      rw [hb] at h
      cases h
      rw [Nat.eq_of_beq_eq_true hb]
      simp
    | false =>
      rw [hb] at h
      obtain ⟨h1, h2⟩ := efr_get vs (i + 1) d v h
      refine ⟨by omega, ?_⟩
      rw [show d - i = (d - (i + 1)) + 1 from by omega]
      simpa using h2

theorem tri_intro {f : FuncId} {fn : Func} {c : Code} {vs : List Value} {pre : List Assn} {O : Value → List Assn → Prop} {N : Nat} (hf : P.funcs[f]? = some fn) (hb : fn.body = some c) (hN : fn.ntmps = N)
    (hn : Nat.ble vs.length N = true) (h : ∀ E F, J E (c.wp P (bodyPost P fn (ends E O F))) N (efr 0 vs) (pre ++ F)) : Tri P f vs pre O := by
  intro E F w hs
  subst hN
  refine calls_of_wp hf hb (h E F _ w ⟨?_, rfl, ?_⟩ hs)
  · have := Nat.le_of_ble_eq_true hn; simp; omega
  · intro d v hd
    obtain ⟨_, h2⟩ := efr_get vs 0 d v hd
    simp only [Nat.sub_zero] at h2
    have : d < vs.length := (List.getElem?_eq_some_iff.1 h2).1
    simp only [Array.getD_eq_getD_getElem?]
    rw [Array.getElem?_append_left (by simpa using this)]
    simp [h2]

theorem j_ret {fn : Func} {O : Value → List Assn → Prop} {F B : List Assn} {v : Value} (is ds : List Nat) (hr : resV fn.results.toList l = some v) (hO : O v B)
    (hA : sel is (rem ds L) = B ∧ rem is (rem ds L) = F) : J E (bodyPost P fn (ends E O F) .ret) n l L := by
  intro a w hf hs
  refine ⟨hf.defers, v, resV_sound hf hr w, v, B, hO, rfl, ?_⟩
  have h1 := (hs.sel ds)
  have h2 : ∀ (M N : List Assn) m, star (M ++ N) m → star N m := by
    intro M
    induction M with
    | nil => exact fun _ _ h => h
    | cons A M ih => exact fun N m h => ih N m (star_drop h)
  have h3 := (h1.imp (h2 _ _)).sel is
  rw [hA.1, hA.2] at h3
  exact h3
theorem j_end {fn : Func} {O : Value → List Assn → Prop} {F B : List Assn} {v : Value} (is ds : List Nat) (hr : resV fn.results.toList l = some v) (hO : O v B)
    (hA : sel is (rem ds L) = B ∧ rem is (rem ds L) = F) : J E (bodyPost P fn (ends E O F) .normal) n l L := j_ret (P := P) is ds hr hO hA

/-! ## regions -/
/-- one operation, 'K' behind it -/
def wpO (P : Program) (ops : Array Oper) (Q : Exit → Act → World → Prop) (o : Oper) (K : Act → World → Prop) (a : Act) (w : World) : Prop :=
  if Region.wanted o (yielded ops a.tmps) then o.wp P a w K Q ∨ (o.asks P a w ∧ LetsOut Q) else K (a.put o.dst undef) w
theorem jo_cons {ops : Array Oper} {o : Oper} {rest : List Oper} (h : J E (wpO P ops Q o (wpList P ops Q rest)) n l L) : J E (wpList P ops Q (o :: rest)) n l L := fun a w hf hs => h a w hf hs
theorem jc_region {id : Nat} {os : List Oper} (h : J E (wpList P os.toArray Q os) n l L) : J E ((Code.region id os.toArray false).wp P Q) n l L := fun a w hf hs => wp_region_lit (h a w hf hs)
theorem jo_nil {ops : Array Oper} (h : J E (Q .normal) n l L) : J E (wpList P ops Q []) n l L := fun a w hf hs => wpList_nil (h a w hf hs)

/-- is a guarded operation wanted? -/
def gv (ops : Array Oper) (l : Fr) (g : Nat × Bool) : Option Bool :=
  match ops.toList[g.1]? with
  | none => none
  | some o => match o.dst with
    | none => none
    | some d => match lk d l with
      | some (.bool true) => some g.2
      | some (.bool false) => some (!g.2)
      | some (.tuple _) => some false
      | _ => none

theorem gv_sound {ops : Array Oper} {g : Nat × Bool} {b : Bool} {a : Act} {o : Oper} (hf : Fits a n l) (hg : o.guard = some g) (h : gv ops l g = some b) : Region.wanted o (yielded ops a.tmps) = b := by
  obtain ⟨j, want⟩ := g
  simp only [gv] at h
  split at h
  · cases h
  · rename_i o' ho'
    split at h
    · cases h
    · rename_i d hd
      have ho2 : ops[j]? = some o' := by simpa using ho'
      simp only [Region.wanted, hg, yielded, ho2, Option.bind_some, hd]
      split at h
      all_goals try (cases h; done)
      all_goals
        rename_i hl
        cases h
        have h1 := hf.get _ _ hl
        simp only [Array.getD_eq_getD_getElem?] at h1
        cases hx : a.tmps[d]? with
        | none => rw [hx] at h1; first | (cases h1; done) | rfl
        | some u => rw [hx] at h1; simp only [Option.getD_some] at h1; subst h1; first | rfl | (cases want <;> rfl) | (cases b <;> rfl)

theorem jo_want {ops : Array Oper} {K : Act → World → Prop} {dst : Option Tmp} {op : Op} {ty : TypeId} {pos : String} {aft : Array Edge} {g : Nat × Bool} (hg : gv ops l g = some true)
    (h : J E (wpO P ops Q ⟨dst, op, ty, pos, aft, none⟩ K) n l L) : J E (wpO P ops Q ⟨dst, op, ty, pos, aft, some g⟩ K) n l L := by
  intro a w hf hs
  have h1 := h a w hf hs
  unfold wpO at h1 ⊢
  rw [gv_sound hf rfl hg, if_pos rfl]
  rw [if_pos (show Region.wanted _ _ = true from rfl)] at h1
  exact h1

theorem jo_skip {ops : Array Oper} {K : Act → World → Prop} {d : Tmp} {op : Op} {ty : TypeId} {pos : String} {aft : Array Edge} {g : Nat × Bool} (hg : gv ops l g = some false) (hd : Nat.blt d n = true)
    (h : J E K n ((d, undef) :: l) L) : J E (wpO P ops Q ⟨some d, op, ty, pos, aft, some g⟩ K) n l L := by
  intro a w hf hs
  unfold wpO
  rw [gv_sound hf rfl hg]
  simp only [Bool.false_eq_true, if_false]
  exact h _ w (hf.put (Nat.le_of_ble_eq_true hd) _) hs

/-- an operation whose run is known -/
theorem jo_run {ops : Array Oper} {K : Act → World → Prop} {o : Oper} (hg : o.guard = none)
    (h : ∀ a w, Fits a n l → Sat E w (star L) → ∃ v w', (execOp a.eval o).run P w = .ok (.value v) w' ∧ K (a.put o.dst v) w') : J E (wpO P ops Q o K) n l L := by
  intro a w hf hs
  obtain ⟨v, w', hr, hk⟩ := h a w hf hs
  unfold wpO
  rw [if_pos (by simp [Region.wanted, hg])]
  refine .inl ?_
  unfold Oper.wp
  rw [hr]
  exact hk

theorem jo_pure {T : Tab} (hT : T.ok P) {ops : Array Oper} {K : Act → World → Prop} {d : Tmp} {op : Op} {ty : TypeId} {pos : String} {aft : Array Edge} {v : Value} (hv : pureV T (ev l) op = some v) (hd : Nat.blt d n = true)
    (h : J E K n ((d, v) :: l) L) : J E (wpO P ops Q ⟨some d, op, ty, pos, aft, none⟩ K) n l L :=
  jo_run rfl fun _ w hf hs => ⟨v, w, pureV_sound hT (fun _ _ hx => hf.ev hx) _ hv w, h _ w (hf.put (Nat.le_of_ble_eq_true hd) _) hs⟩
end
end Go.Proofs.Ytiikdofbaoidcaa.Hd
namespace Go.Proofs.Ytiikdofbaoidcaa.Hd
open Go
/-! ## memory -/
/-- what 'L' tells of the cells from (b, o) on -/
def Rd (L : List Assn) (b o : Nat) (vs : List Value) : Prop :=
  ∀ E w, Sat E w (star L) → ∀ j u, vs[j]? = some u → w.cell? ⟨b, o + j, none⟩ = some u

theorem cell_block {w : World} {b : Nat} {c : Array Value} {t : TypeId} {z : Nat × Nat} (h : w.heap[b]? = some (.cells c t z)) (o : Nat) : w.cell? ⟨b, o, none⟩ = c[o]? := by
  simp [World.cell?, h]

theorem Rd.cells {L : List Assn} {b : Nat} {xs : List Value} {t : TypeId} {o : Nat} {vs : List Value} (h : ∀ j u, vs[j]? = some u → xs[o + j]? = some u) : Rd (cl b xs t :: L) b o vs := by
  intro E w hs j u hu
  rw [cell_block (Sat.block (o := .cells xs.toArray t (0, 0)) hs)]
  simpa using h j u hu
theorem Rd.here {L : List Assn} {b : Nat} {xs : List Value} {t : TypeId} {o : Nat} {v : Value} (h : xs[o]? = some v) : Rd (cl b xs t :: L) b o [v] :=
  Rd.cells fun j u hu => by
    cases j with
    | zero => simp at hu; subst hu; exact h
    | succ j => simp at hu
theorem Rd.all {L : List Assn} {b : Nat} {xs : List Value} {t : TypeId} : Rd (cl b xs t :: L) b 0 xs := Rd.cells fun j u hu => by simpa using hu
theorem Rd.there {L : List Assn} {A : Assn} {b o : Nat} {vs : List Value} (h : Rd L b o vs) : Rd (A :: L) b o vs :=
  fun E w hs j u hu => h E w (hs.imp fun _ => star_drop) j u hu
theorem Rd.old {L : List Assn} {w0 : World} {b o : Nat} {vs : List Value} (h : ∀ j u, vs[j]? = some u → w0.cell? ⟨b, o + j, none⟩ = some u) : Rd (Hd.old w0.heap :: L) b o vs := by
  intro E w hs j u hu
  have h1 := h j u hu
  obtain ⟨f, g, hsp, hA, _⟩ := hs.heap
  have hb : b < w0.heap.size := World.block_lt_of_cell? w0 _ h1
  have h2 := hA b hb
  rw [Array.getElem?_eq_getElem hb] at h2
  have h3 := hsp.left h2
  have h4 : w.heap[b]? = w0.heap[b]? := by rw [Array.getElem?_eq_getElem hb]; exact h3
  rw [World.cell?_of_block (w := w0) (a := ⟨b, o + j, none⟩) h4]
  exact h1
theorem Rd.sub {L : List Assn} {b o : Nat} {vs us : List Value} (h : Rd L b o vs) (k : Nat) (hk : ∀ j u, us[j]? = some u → vs[k + j]? = some u) : Rd L b (o + k) us := by
  intro E w hs j u hu
  have := h E w hs (k + j) u (hk j u hu)
  rwa [← Nat.add_assoc] at this
theorem Rd.one {L : List Assn} {b o : Nat} {vs : List Value} (h : Rd L b o vs) {k : Nat} {v : Value} (hk : vs[k]? = some v) : Rd L b (o + k) [v] :=
  h.sub k fun j u hu => by
    cases j with
    | zero => simp at hu; subst hu; exact hk
    | succ j => simp at hu
theorem Rd.perm {L L' : List Assn} (hp : L'.Perm L) {b o : Nat} {vs : List Value} (h : Rd L b o vs) : Rd L' b o vs := fun E w hs => h E w (hs.perm hp)

theorem addr_add (b o k : Nat) : (⟨b, o, none⟩ : Addr).add k = ⟨b, o + k, none⟩ := by
  unfold Addr.add
  split
  · rename_i h; rw [h]; rfl
  · rfl

section
variable {P : Program} {E : World} {Q : Exit → Act → World → Prop} {n : Nat} {l : Fr} {L : List Assn} {T : Tab}
  {ops : Array Oper} {K : Act → World → Prop} {d : Tmp} {ty : TypeId} {pos : String} {aft : Array Edge}

theorem jo_load (hT : T.ok P) {t : TypeId} {x : Operand} {b o : Nat} {e : TE} {v : Value} (hx : ev l x = some (.pointer (some ⟨b, o, none⟩))) (ht : T.find t = some e) (hag : e.td.agg = false)
    (hr : Rd L b o [v]) (hd : Nat.blt d n = true) (h : J E K n ((d, v) :: l) L) : J E (wpO P ops Q ⟨some d, .load t x, ty, pos, aft, none⟩ K) n l L := by
  obtain ⟨hok, rfl⟩ := Tab.find_ok hT ht
  refine jo_run rfl fun a w hf hs => ⟨v, w, ?_, h _ w (hf.put (Nat.le_of_ble_eq_true hd) _) hs⟩
  have hc := hr E w hs 0 v rfl
  simp only [Nat.add_zero] at hc
  simp [execOp, hf.ev hx, Instr.loadAt, Instr.sureAddr, loadVar, hok.run_isAgg, hag, hc]

theorem jo_load_agg (hT : T.ok P) {t : TypeId} {x : Operand} {b o : Nat} {e : TE} {vs : List Value} (hx : ev l x = some (.pointer (some ⟨b, o, none⟩))) (ht : T.find t = some e) (hag : e.td.agg = true)
    (hn : vs.length = e.size) (hr : Rd L b o vs) (hd : Nat.blt d n = true) (h : J E K n ((d, .agg vs.toArray) :: l) L) : J E (wpO P ops Q ⟨some d, .load t x, ty, pos, aft, none⟩ K) n l L := by
  obtain ⟨hok, rfl⟩ := Tab.find_ok hT ht
  refine jo_run rfl fun a w hf hs => ⟨_, w, ?_, h _ w (hf.put (Nat.le_of_ble_eq_true hd) _) hs⟩
  have hc := run_loadCells_list (P := P) (w := w) ⟨b, o, none⟩ vs (fun j v hj => by rw [addr_add]; exact hr E w hs j v hj)
  rw [hn] at hc
  simp [execOp, hf.ev hx, Instr.loadAt, Instr.sureAddr, loadVar, hok.run_isAgg, hag, hok.run_sizeOf, hc]

def one (v : Value) : Bool := match v with | .agg _ | .tuple _ => false | _ => true

theorem setCell_cl {w : World} {b : Nat} {xs : List Value} {t : TypeId} (o : Nat) (v : Value) (h : w.heap[b]? = some (.cells xs.toArray t (0, 0))) :
    (w.setCell ⟨b, o, none⟩ v).heap[b]? = some (.cells (xs.set o v).toArray t (0, 0)) := by
  simp only [World.setCell]
  rw [Array.getElem?_modify]
  simp [h]

theorem sat_store {w : World} {b : Nat} {xs : List Value} {t : TypeId} {M : List Assn} (hs : Sat E w (star (cl b xs t :: M))) (o : Nat) (v : Value) :
    Sat E (w.setCell ⟨b, o, none⟩ v) (star (cl b (xs.set o v) t :: M)) := by
  have hb := Sat.block (o := .cells xs.toArray t (0, 0)) hs
  refine Sat.put (o := .cells xs.toArray t (0, 0)) hs rfl rfl rfl (setCell_cl o v hb) fun k hk => ?_
  exact RowKit.Below.heap_setCell w ⟨b, o, none⟩ v k hk

theorem jo_store (hT : T.ok P) {t tb : TypeId} {x y : Operand} {b o : Nat} {e : TE} {v : Value} {xs : List Value} (i : Nat) {M : List Assn} (hx : ev l x = some (.pointer (some ⟨b, o, none⟩))) (hy : ev l y = some v) (ht : T.find t = some e) (hag : e.size = 1)
    (hv : one v = true) (hL : sel [i] L = [cl b xs tb] ∧ rem [i] L = M) (ho : o < xs.length) (h : J E K n l (cl b (xs.set o v) tb :: M)) : J E (wpO P ops Q ⟨none, .store t x y, ty, pos, aft, none⟩ K) n l L := by
  obtain ⟨hok, rfl⟩ := Tab.find_ok hT ht
  intro a w hf hs
  have hs1 := hs.sel [i]
  rw [hL.1, hL.2] at hs1
  have hb := Sat.block (o := .cells xs.toArray tb (0, 0)) hs1
  have hc : w.cell? ⟨b, o, none⟩ = some xs[o] := by rw [cell_block hb]; simp [ho]
  have hfz : w.frozen? ⟨b, o, none⟩ = false := by simp [World.frozen?, hb]
  have hvs : v.cells = #[v] := by cases v <;> first | rfl | (cases hv; done)
  unfold wpO
  rw [if_pos (by simp [Region.wanted])]
  refine .inl ?_
  have hrun : (execOp a.eval ⟨none, .store e.t x y, ty, pos, aft, none⟩).run P w = .ok .skip (w.setCell ⟨b, o, none⟩ v) := by
    have hst : (storeVar e.t ⟨b, o, none⟩ v).run P w = .ok () (w.setCell ⟨b, o, none⟩ v) := by
      simp only [storeVar, hvs, Sem.run_bind, hok.run_sizeOf, Result.andThen_ok, hag]
      cases v <;> first | (cases hv; done) | simp [storeCells, store, Sem.run, hc, hfz, addr_add]
    simp [execOp, hf.ev hx, hf.ev hy, Instr.storeAt, Instr.sureAddr, hst]
  unfold Oper.wp
  rw [hrun]
  exact h a _ hf (sat_store hs1 o v)

/-- a new block -/
theorem jo_new {op : Op} (cs : List Value) {tb : TypeId} (f : Nat → Value)
    (hrun : ∀ a w, Fits a n l → Sat E w (star L) → (execOp a.eval ⟨some d, op, ty, pos, aft, none⟩).run P w = .ok (.value (f w.heap.size)) { w with heap := w.heap.push (.cells cs.toArray tb (0, 0)) })
    (hd : Nat.blt d n = true) (h : ∀ b, J E K n ((d, f b) :: l) (cl b cs tb :: L)) : J E (wpO P ops Q ⟨some d, op, ty, pos, aft, none⟩ K) n l L :=
  jo_run rfl fun a w hf hs => ⟨_, _, hrun a w hf hs, h _ _ _ (hf.put (Nat.le_of_ble_eq_true hd) _) (hs.alloc _)⟩

theorem jo_box {t : TypeId} {x : Operand} {v : Value} {cs : List Value} (hx : ev l x = some v) (hcs : v.cells = cs.toArray) (hd : Nat.blt d n = true)
    (h : ∀ b, J E K n ((d, .pointer (some ⟨b, 0, none⟩)) :: l) (cl b cs t :: L)) : J E (wpO P ops Q ⟨some d, .box t x, ty, pos, aft, none⟩ K) n l L := by
  refine jo_new cs (fun b => .pointer (some ⟨b, 0, none⟩)) (fun a w hf hs => ?_) hd h
  simp [execOp, hf.ev hx, Instr.box, newVar, newRow, hcs]

theorem jo_alloc (hT : T.ok P) {t : TypeId} {e : TE} (ht : T.find t = some e) (hd : Nat.blt d n = true)
    (h : ∀ b, J E K n ((d, .pointer (some ⟨b, 0, none⟩)) :: l) (cl b e.zero t :: L)) : J E (wpO P ops Q ⟨some d, .alloc t, ty, pos, aft, none⟩ K) n l L := by
  obtain ⟨hok, rfl⟩ := Tab.find_ok hT ht
  obtain ⟨i, z, hi, _, _, hz, hzc⟩ := hok.info
  refine jo_new e.zero (fun b => .pointer (some ⟨b, 0, none⟩)) (fun a w hf hs => ?_) hd h
  simp [execOp, Instr.alloc, newVar, newRow, zeroValue, typeInfo, hi, hz, hzc]

/-! ## whole numbers -/
/-- an operation that is known to hand back 'v', whatever the memory -/
def PV (P : Program) (l : Fr) (op : Op) (v : Value) : Prop :=
  ∀ a n dst ty pos aft gd, Fits a n l → ∀ w, (execOp a.eval ⟨dst, op, ty, pos, aft, gd⟩).run P w = .ok (.value v) w

theorem jo_v {op : Op} {v : Value} (hv : PV P l op v) (hd : Nat.blt d n = true) (h : J E K n ((d, v) :: l) L) : J E (wpO P ops Q ⟨some d, op, ty, pos, aft, none⟩ K) n l L :=
  jo_run rfl fun a w hf hs => ⟨v, w, hv a n _ _ _ _ _ hf w, h _ w (hf.put (Nat.le_of_ble_eq_true hd) _) hs⟩
theorem pv_pure (hT : T.ok P) {op : Op} {v : Value} (hv : pureV T (ev l) op = some v) : PV P l op v :=
  fun _ _ _ _ _ _ _ hf w => pureV_sound hT (fun _ _ hx => hf.ev hx) _ hv w

theorem i64_in {x : Int} (h : -9223372036854775808 ≤ x ∧ x ≤ 9223372036854775807) : IntKind.i64.wrap x = x := by
  rw [IntKind.wrap_i64]; omega

theorem pv_add {x y : Operand} {a b : Int} {t t' : TypeId} (hx : ev l x = some (.int .i64 a)) (hy : ev l y = some (.int .i64 b)) (hr : -9223372036854775808 ≤ a + b ∧ a + b ≤ 9223372036854775807) :
    PV P l (.binOp .add t x y t') (.int .i64 (a + b)) :=
  pv_pure (T := []) (fun _ h => by cases h) (by simp [pureV, hx, hy, binV, i64_in hr])
theorem pv_sub {x y : Operand} {a b : Int} {t t' : TypeId} (hx : ev l x = some (.int .i64 a)) (hy : ev l y = some (.int .i64 b)) (hr : -9223372036854775808 ≤ a - b ∧ a - b ≤ 9223372036854775807) :
    PV P l (.binOp .sub t x y t') (.int .i64 (a - b)) :=
  pv_pure (T := []) (fun _ h => by cases h) (by simp [pureV, hx, hy, binV, i64_in hr])
theorem pv_mul {x y : Operand} {a b : Int} {t t' : TypeId} (hx : ev l x = some (.int .i64 a)) (hy : ev l y = some (.int .i64 b)) (hr : -9223372036854775808 ≤ a * b ∧ a * b ≤ 9223372036854775807) :
    PV P l (.binOp .mul t x y t') (.int .i64 (a * b)) :=
  pv_pure (T := []) (fun _ h => by cases h) (by simp [pureV, hx, hy, binV, i64_in hr])

theorem pv_bin {op : BinOp} {x y : Operand} {u v : Value} {t t' : TypeId} {r : Value} (hx : ev l x = some u) (hy : ev l y = some v)
    (hrun : ∀ w, (do eqGuard op t x y u v; binOp op t u v : Sem Value).run P w = .ok r w) : PV P l (.binOp op t x y t') r := by
  intro a n dst ty pos aft gd hf w
  simp only [execOp, hf.ev hx, hf.ev hy]
  rw [Sem.run_bind, hrun w]
  rfl

theorem pv_quo {x y : Operand} {a b : Int} {t t' : TypeId} (hx : ev l x = some (.int .i64 a)) (hy : ev l y = some (.int .i64 b)) (ha : 0 ≤ a ∧ a ≤ 9223372036854775807) (hb : 0 < b) :
    PV P l (.binOp .quo t x y t') (.int .i64 (a / b)) := by
  refine pv_bin hx hy (fun w => ?_)
  have h1 : a.tdiv b = a / b := Int.tdiv_eq_ediv_of_nonneg ha.1
  have h2 : 0 ≤ a / b := Int.ediv_nonneg ha.1 (by omega)
  have h3 : a / b ≤ a := Int.ediv_le_self b ha.1
  have hb' : ¬ b = 0 := by omega
  simp [eqGuard, binOp, Op.intDiv, hb', h1, i64_in (x := a / b) ⟨by omega, by omega⟩]
theorem pv_rem {x y : Operand} {a b : Int} {t t' : TypeId} (hx : ev l x = some (.int .i64 a)) (hy : ev l y = some (.int .i64 b)) (ha : 0 ≤ a) (hb : 0 < b) :
    PV P l (.binOp .rem t x y t') (.int .i64 (a % b)) := by
  refine pv_bin hx hy (fun w => ?_)
  have h1 : a.tmod b = a % b := Int.tmod_eq_emod_of_nonneg ha
  have hb' : ¬ b = 0 := by omega
  simp [eqGuard, binOp, Op.intDiv, hb', h1]

/-- a word of 64 bits -/
abbrev W (x : BitVec 64) : Value := .int .u64 (x.toNat : Int)
theorem wrap_u64 (x : Int) : IntKind.u64.wrap x = x % 18446744073709551616 := by
  simp [IntKind.wrap, IntKind.bits, IntKind.signed]
theorem u64_in {x : Int} (h : 0 ≤ x ∧ x < 18446744073709551616) : IntKind.u64.wrap x = x := by
  rw [wrap_u64]; omega
theorem u64_nat (x : BitVec 64) : IntKind.u64.wrap (x.toNat : Int) = x.toNat := u64_in ⟨by omega, by have := x.isLt; omega⟩
theorem ofInt_nat (x : BitVec 64) : BitVec.ofInt 64 (x.toNat : Int) = x := by simp

theorem pv_or {x y : Operand} {a b : BitVec 64} {t t' : TypeId} (hx : ev l x = some (W a)) (hy : ev l y = some (W b)) :
    PV P l (.binOp .or t x y t') (W (a ||| b)) := by
  refine pv_bin hx hy (fun w => ?_)
  have e : Op.intBits .or .u64 (a.toNat : Int) (b.toNat : Int) = (pure (W (a ||| b)) : Sem Value) := by
    show (pure (Value.int .u64 (IntKind.u64.wrap ((BitVec.ofInt 64 (a.toNat : Int) ||| BitVec.ofInt 64 (b.toNat : Int)).toNat : Int))) : Sem Value) = _
    rw [ofInt_nat, ofInt_nat, u64_nat]
  simp only [eqGuard, binOp, e]; rfl
theorem pv_and {x y : Operand} {a b : BitVec 64} {t t' : TypeId} (hx : ev l x = some (W a)) (hy : ev l y = some (W b)) :
    PV P l (.binOp .and t x y t') (W (a &&& b)) := by
  refine pv_bin hx hy (fun w => ?_)
  have e : Op.intBits .and .u64 (a.toNat : Int) (b.toNat : Int) = (pure (W (a &&& b)) : Sem Value) := by
    show (pure (Value.int .u64 (IntKind.u64.wrap ((BitVec.ofInt 64 (a.toNat : Int) &&& BitVec.ofInt 64 (b.toNat : Int)).toNat : Int))) : Sem Value) = _
    rw [ofInt_nat, ofInt_nat, u64_nat]
  simp only [eqGuard, binOp, e]; rfl
theorem pv_xor {x y : Operand} {a b : BitVec 64} {t t' : TypeId} (hx : ev l x = some (W a)) (hy : ev l y = some (W b)) :
    PV P l (.binOp .xor t x y t') (W (a ^^^ b)) := by
  refine pv_bin hx hy (fun w => ?_)
  have e : Op.intBits .xor .u64 (a.toNat : Int) (b.toNat : Int) = (pure (W (a ^^^ b)) : Sem Value) := by
    show (pure (Value.int .u64 (IntKind.u64.wrap ((BitVec.ofInt 64 (a.toNat : Int) ^^^ BitVec.ofInt 64 (b.toNat : Int)).toNat : Int))) : Sem Value) = _
    rw [ofInt_nat, ofInt_nat, u64_nat]
  simp only [eqGuard, binOp, e]; rfl
theorem pv_andNot {x y : Operand} {a b : BitVec 64} {t t' : TypeId} (hx : ev l x = some (W a)) (hy : ev l y = some (W b)) :
    PV P l (.binOp .andNot t x y t') (W (a &&& ~~~b)) := by
  refine pv_bin hx hy (fun w => ?_)
  have e : Op.intBits .andNot .u64 (a.toNat : Int) (b.toNat : Int) = (pure (W (a &&& ~~~b)) : Sem Value) := by
    show (pure (Value.int .u64 (IntKind.u64.wrap ((BitVec.ofInt 64 (a.toNat : Int) &&& ~~~(BitVec.ofInt 64 (b.toNat : Int))).toNat : Int))) : Sem Value) = _
    rw [ofInt_nat, ofInt_nat, u64_nat]
  simp only [eqGuard, binOp, e]; rfl
theorem pv_shl {x y : Operand} {a : BitVec 64} {i : Int} {ky : IntKind} {t t' : TypeId} (k : Nat) (hx : ev l x = some (W a)) (hy : ev l y = some (.int ky i)) (hi : i = (k : Int)) (hk : k < 64) :
    PV P l (.binOp .shl t x y t') (W (a <<< k)) := by
  subst hi
  refine pv_bin hx hy (fun w => ?_)
  have h0 : ¬ ((k : Int) < 0) := by omega
  have hm : min (k : Int).toNat 64 = k := by simp; omega
  have e : Op.shift .shl .u64 (a.toNat : Int) ky (k : Int) = (pure (W (a <<< k)) : Sem Value) := by
    unfold Op.shift
    rw [if_neg h0]
    show (pure (Value.int .u64 (IntKind.u64.wrap ((a.toNat : Int) * 2 ^ (min (k : Int).toNat 64)))) : Sem Value) = _
    rw [hm, wrap_u64]
    have h1 : (a <<< k).toNat = (a.toNat * 2 ^ k) % 18446744073709551616 := by rw [BitVec.toNat_shiftLeft, Nat.shiftLeft_eq]
    have h2 : (a.toNat : Int) * 2 ^ k = ((a.toNat * 2 ^ k : Nat) : Int) := by rw [Int.natCast_mul, Int.natCast_pow]; rfl
    rw [h2]
    simp only [W, h1]
    generalize a.toNat * 2 ^ k = z
    have h3 : ((z : Int) % 18446744073709551616) = ((z % 18446744073709551616 : Nat) : Int) := by omega
    rw [h3]
  simp only [eqGuard, binOp, e]; rfl
theorem pv_shr {x y : Operand} {a : BitVec 64} {i : Int} {ky : IntKind} {t t' : TypeId} (k : Nat) (hx : ev l x = some (W a)) (hy : ev l y = some (.int ky i)) (hi : i = (k : Int)) (hk : k < 64) :
    PV P l (.binOp .shr t x y t') (W (a >>> k)) := by
  subst hi
  refine pv_bin hx hy (fun w => ?_)
  have h0 : ¬ ((k : Int) < 0) := by omega
  have hm : min (k : Int).toNat 64 = k := by simp; omega
  have e : Op.shift .shr .u64 (a.toNat : Int) ky (k : Int) = (pure (W (a >>> k)) : Sem Value) := by
    unfold Op.shift
    rw [if_neg h0]
    show (pure (Value.int .u64 ((a.toNat : Int).fdiv (2 ^ (min (k : Int).toNat 64)))) : Sem Value) = _
    rw [hm]
    have : (a >>> k).toNat = a.toNat / 2 ^ k := by rw [BitVec.toNat_ushiftRight, Nat.shiftRight_eq_div_pow]
    simp only [W, this]
    rw [Int.fdiv_eq_ediv_of_nonneg _ (by have : (0:Int) < 2 ^ k := Int.pow_pos (by omega); omega)]
    rw [Int.natCast_ediv, Int.natCast_pow]
    rfl
  simp only [eqGuard, binOp, e]; rfl

/-! ## slices -/
theorem pv_index (hT : T.ok P) {t : TypeId} {x y : Operand} {b o len cap : Nat} {i : Int} {k : IntKind} {e e' : TE} {t' : TypeId} (j : Nat) (hx : ev l x = some (.slice (some ⟨b, o, none⟩) len cap)) (hy : ev l y = some (.int k i))
    (ht : T.find t = some e) (htd : e.td = .slice t') (he : T.find t' = some e') (hi : i = (j : Int)) (hj : j < len) :
    PV P l (.indexAddr t x y) (.pointer (some ⟨b, o + j * e'.size, none⟩)) := by
  obtain ⟨hok, rfl⟩ := Tab.find_ok hT ht
  obtain ⟨hok', rfl⟩ := Tab.find_ok hT he
  intro a n dst ty pos aft gd hf w
  have hu := hok.slice htd
  have h0 : (0 : Int) ≤ i ∧ i < (len : Int) := by omega
  have h1 : i.toNat = j := by omega
  simp [execOp, hf.ev hx, hf.ev hy, Instr.indexAt, asIntOf, run_underlying hu, h0, hok'.run_sizeOf, h1, addr_add]
theorem pv_index1 (hT : T.ok P) {t : TypeId} {x y : Operand} {b o len cap : Nat} {i : Int} {k : IntKind} {e e' : TE} {t' : TypeId} (j : Nat) (hx : ev l x = some (.slice (some ⟨b, o, none⟩) len cap)) (hy : ev l y = some (.int k i))
    (ht : T.find t = some e) (htd : e.td = .slice t') (he : T.find t' = some e') (hsz : e'.size = 1) (hi : i = (j : Int)) (hj : j < len) :
    PV P l (.indexAddr t x y) (.pointer (some ⟨b, o + j, none⟩)) := by
  have := pv_index (P := P) hT j hx hy ht htd he hi hj
  rwa [hsz, Nat.mul_one] at this

/-! ## calls -/
def Enters (P : Program) (f : FuncId) : Prop := ∃ fn c, P.funcs[f]? = some fn ∧ (fn.name == "runtime.NumGoroutine") = false ∧ fn.body = some c
theorem Enters.run {f : FuncId} (h : Enters P f) (args : Array Value) (w : World) : (callFunc f args).run P w = .ok (.enter f args) w := by
  obtain ⟨fn, c, hf, hn, hb⟩ := h
  have h1 : fn.name ≠ "runtime.NumGoroutine" := by simpa using hn
  simp [callFunc, hf, h1, hb]

theorem jo_callc {f : FuncId} {fo : Operand} {caps : List Value} {args : Array Operand} {ats : Array TypeId} {vs : List Value} {pre : List Assn} {O : Value → List Assn → Prop} {F : List Assn} (is : List Nat)
    (ht : Tri P f (vs ++ caps) pre O) (hE : Enters P f) (hfo : ev l fo = some (.func (.func f) #[] caps.toArray)) (ha : evs l args.toList = some vs) (hL : sel is L = pre ∧ rem is L = F) (hd : Nat.blt d n = true)
    (h : ∀ v B, O v B → J E K n ((d, v) :: l) (B ++ F)) : J E (wpO P ops Q ⟨some d, .call { callee := .value fo, args := args, argTypes := ats }, ty, pos, aft, none⟩ K) n l L := by
  intro a w hf hs
  have hs1 := hs.sel is
  rw [hL.1, hL.2] at hs1
  have hvs : args.map a.eval = vs.toArray := by
    have := hf.evs ha
    apply Array.ext'
    rw [Array.toList_map, this]
  have hrun : (execOp a.eval ⟨some d, .call { callee := .value fo, args := args, argTypes := ats }, ty, pos, aft, none⟩).run P w = .ok (.enter f (vs ++ caps).toArray) w := by
    have h1 := hE.run (vs ++ caps).toArray w
    simp only [execOp, resolve, Deferred.ofValue, hf.ev hfo, hvs, Sem.run_bind, Sem.run_pure, Result.andThen_ok, invoke, List.append_toArray, List.nil_append, h1]
  unfold wpO
  rw [if_pos (by simp [Region.wanted])]
  refine .inl ?_
  unfold Oper.wp
  rw [hrun, Oper.upon_enter]
  refine (ht E F w hs1).mono ?_
  rintro e w' ⟨v, B, hO, rfl, hs'⟩
  exact h v B hO _ w' (hf.put (Nat.le_of_ble_eq_true hd) _) hs'
theorem jo_call {f : FuncId} {args : Array Operand} {ats : Array TypeId} {vs : List Value} {pre : List Assn} {O : Value → List Assn → Prop} {F : List Assn} (is : List Nat)
    (ht : Tri P f vs pre O) (hE : Enters P f) (ha : evs l args.toList = some vs) (hL : sel is L = pre ∧ rem is L = F) (hd : Nat.blt d n = true)
    (h : ∀ v B, O v B → J E K n ((d, v) :: l) (B ++ F)) : J E (wpO P ops Q ⟨some d, .call { callee := .value (.func f), args := args, argTypes := ats }, ty, pos, aft, none⟩ K) n l L :=
  jo_callc (caps := []) is (by rw [List.append_nil]; exact ht) hE rfl ha hL hd h
end
end Go.Proofs.Ytiikdofbaoidcaa.Hd
namespace Go.Proofs.Ytiikdofbaoidcaa.Hd
open Go
section
variable {P : Program} {E : World} {K : Act → World → Prop} {Q : Exit → Act → World → Prop} {n : Nat} {l : Fr} {L : List Assn}
theorem jx_then (h : J E K n l L) : J E (Exit.then K Q .normal) n l L := fun a w hf hs => h a w hf hs
theorem jx_then_exit {id : Nat} (h : J E (Q (.exit id)) n l L) : J E (Exit.then K Q (.exit id)) n l L := fun a w hf hs => h a w hf hs
theorem jx_then_ret (h : J E (Q .ret) n l L) : J E (Exit.then K Q .ret) n l L := fun a w hf hs => h a w hf hs
theorem jx_block {id : Nat} (h : J E (Q .normal) n l L) : J E (Exit.inBlock id Q .normal) n l L := fun a w hf hs => h a w hf hs
theorem jx_block_ret {id : Nat} (h : J E (Q .ret) n l L) : J E (Exit.inBlock id Q .ret) n l L := fun a w hf hs => h a w hf hs
theorem jx_block_hit {id : Nat} (h : J E (Q .normal) n l L) : J E (Exit.inBlock id Q (.exit id)) n l L := fun a w hf hs => by
  simp only [Exit.inBlock, if_true]
  exact h a w hf hs
theorem jx_block_miss {id id' : Nat} (hne : Nat.beq id' id = false) (h : J E (Q (.exit id')) n l L) : J E (Exit.inBlock id Q (.exit id')) n l L := fun a w hf hs => by
  simp only [Exit.inBlock]
  rw [if_neg (fun e => by subst e; rw [Nat.beq_refl] at hne; cases hne)]
  exact h a w hf hs
end

/-- an own slice: what it holds; its spare room is its own, too -/
def sl (t : TypeId) (size : Nat) (v : Value) (xs : List Value) : Assn := fun m =>
  ∃ base len cap, v = .slice base len cap ∧ xs.length = len * size ∧ len ≤ cap ∧ cap ≤ maxLen ∧
    (cap = 0 ∨ ∃ b sp, base = some ⟨b, 0, none⟩ ∧ (xs ++ sp).length = cap * size ∧ cl b (xs ++ sp) t m)

section
variable {E : World} {X : Act → World → Prop} {n : Nat} {l : Fr} {L : List Assn}
theorem j_sl {t : TypeId} {size : Nat} {v : Value} {xs : List Value} (hne : xs ≠ [])
    (h : ∀ b len cap sp, v = .slice (some ⟨b, 0, none⟩) len cap → xs.length = len * size → len ≤ cap → cap ≤ maxLen → (xs ++ sp).length = cap * size → J E X n l (cl b (xs ++ sp) t :: L)) : J E X n l (sl t size v xs :: L) := by
  intro a w hf hs
  obtain ⟨f, g, hsp, ⟨base, len, cap, hv, hlen, hlc, hcm, hor⟩, hL⟩ := hs.heap
  rcases hor with h0 | ⟨b, sp, hb, hsz, hcl⟩
  · subst h0
    have : len = 0 := by omega
    subst this
    simp at hlen
    exact absurd hlen hne
  · subst hb
    exact h b len cap sp hv hlen hlc hcm hsz a w hf ⟨hs.os, hs.tape, hs.output, hs.dr, f, g, hsp, hcl, hL⟩
theorem j_sl_len {t : TypeId} {size : Nat} {v : Value} {xs : List Value} 
    (h : ∀ base len cap, v = .slice base len cap → xs.length = len * size → J E X n l (sl t size v xs :: L)) : J E X n l (sl t size v xs :: L) := by
  intro a w hf hs
  obtain ⟨f, g, hsp, ⟨base, len, cap, hv, hlen, hlc, hcm, hor⟩, hL⟩ := hs.heap
  exact h base len cap hv hlen a w hf hs
theorem sl_shut {t : TypeId} {size : Nat} {b len cap : Nat} {xs sp : List Value} (h1 : xs.length = len * size) (h2 : len ≤ cap) (h3 : cap ≤ maxLen) (h4 : (xs ++ sp).length = cap * size) :
    ∀ m, star [cl b (xs ++ sp) t] m → sl t size (.slice (some ⟨b, 0, none⟩) len cap) xs m := by
  rintro m ⟨f, g, hs, hA, _⟩
  exact ⟨_, len, cap, rfl, h1, h2, h3, .inr ⟨b, sp, rfl, h4, hs.left hA⟩⟩
theorem sl_nil {t : TypeId} {size : Nat} : ∀ m, sl t size (.slice none 0 0) [] m := fun _ => ⟨none, 0, 0, rfl, by simp, Nat.le_refl _, by simp [maxLen], .inl rfl⟩
end
end Go.Proofs.Ytiikdofbaoidcaa.Hd
namespace Go.Proofs.Ytiikdofbaoidcaa.Hd
open Go
section
variable {E : World} {X : Act → World → Prop} {n : Nat} {l : Fr} {L : List Assn}
/-- a bool of the frame is looked at -/
theorem j_bool (d : Nat) {b : Bool} (hd : lk d l = some (.bool b)) (ht : b = true → J E X n ((d, .bool true) :: l) L) (hf : b = false → J E X n ((d, .bool false) :: l) L) : J E X n l L := by
  have key : ∀ e v, lk e ((d, .bool b) :: l) = some v → lk e l = some v := by
    intro e v h
    simp only [lk] at h
    cases hb : Nat.beq e d with
    | true => rw [hb] at h; cases h; rw [Nat.eq_of_beq_eq_true hb]; exact hd
    | false => rw [hb] at h; exact h
  cases b with
  | true => exact j_fr key (ht rfl)
  | false => exact j_fr key (hf rfl)
theorem j_dec (d : Nat) {p : Prop} [Decidable p] (hd : lk d l = some (.bool (decide p))) (ht : p → J E X n ((d, .bool true) :: l) L) (hf : ¬ p → J E X n ((d, .bool false) :: l) L) : J E X n l L :=
  j_bool d hd (fun h => ht (of_decide_eq_true h)) (fun h => hf (of_decide_eq_false h))
theorem j_beq (d : Nat) {u v : Int} (hd : lk d l = some (.bool (u == v))) (ht : u = v → J E X n ((d, .bool true) :: l) L) (hf : ¬ u = v → J E X n ((d, .bool false) :: l) L) : J E X n l L :=
  j_bool d hd (fun h => ht (by simpa using h)) (fun h => hf (by simpa using h))
theorem j_bne (d : Nat) {u v : Int} (hd : lk d l = some (.bool (u != v))) (ht : ¬ u = v → J E X n ((d, .bool true) :: l) L) (hf : u = v → J E X n ((d, .bool false) :: l) L) : J E X n l L :=
  j_bool d hd (fun h => ht (by simpa using h)) (fun h => hf (by simpa using h))
end
end Go.Proofs.Ytiikdofbaoidcaa.Hd
namespace Go.Proofs.Ytiikdofbaoidcaa.Hd
open Go
/-! ## regions that draw their order -/
def NP (Q : Exit → Act → World → Prop) : Exit → Act → World → Prop
  | .normal, a, w => Q .normal a w
  | _, _, _ => False
theorem NP.out {Q : Exit → Act → World → Prop} : ∀ e a w, NP Q e a w → Q e a w := by
  intro e a w h
  cases e <;> first | exact h | exact h.elim

section
variable {P : Program} {E : World} {Q : Exit → Act → World → Prop} {n : Nat} {l : Fr} {L : List Assn} {T : Tab}
  {ops : Array Oper} {d : Tmp} {op : Op} {ty : TypeId} {pos : String} {aft : Array Edge} {fuel : Nat} {listed : Array Bool} {v : Value}

theorem Sat.drawn {w : World} {A : Assn} (h : Sat E w A) (k : Nat) (hk : w.drawn ≤ k) : Sat E { w with drawn := k } A := ⟨h.os, h.tape, h.output, Nat.le_trans h.dr hk, h.heap⟩

theorem jc_draw {id : Nat} {os : List Oper} (hm : P.follows .mixedOrders = true) (h : J E (wpAny P .any os.toArray (NP Q) os.length (Array.replicate os.length false)) n l L) :
    J E ((Code.region id os.toArray true).wp P Q) n l L := by
  intro a w hf hs
  refine wp_mono (wp_region_any hm ?_) NP.out
  have := h a _ hf (hs.drawn (w.drawn + 1) (Nat.le_succ _))
  simpa using this

def okB (ops : Array Oper) (listed : Array Bool) (i : Nat) : Bool := Region.noSelect ops && Region.free .any ops listed i && (Region.ready .any ops listed).contains i

theorem ja_v (i : Nat) (hi : ops[i]? = some ⟨some d, op, ty, pos, aft, none⟩) (hok : okB ops listed i = true) (hv : PV P l op v) (hd : Nat.blt d n = true)
    (h : J E (wpAny P .any ops (NP Q) fuel (listed.setIfInBounds i true)) n ((d, v) :: l) L) : J E (wpAny P .any ops (NP Q) (fuel + 1) listed) n l L := by
  intro a w hf hs
  simp only [okB, Bool.and_eq_true] at hok
  refine wpAny_take hi hok.1.1 hok.1.2 hok.2 (fun c a w hh => hh.elim) (.inl ⟨by simp [Region.wanted], fun w => hv a n _ _ _ _ _ hf w⟩) ?_
  exact h _ w (hf.put (Nat.le_of_ble_eq_true hd) _) hs
theorem ja_pure (hT : T.ok P) (i : Nat) (hi : ops[i]? = some ⟨some d, op, ty, pos, aft, none⟩) (hok : okB ops listed i = true) (hv : pureV T (ev l) op = some v) (hd : Nat.blt d n = true)
    (h : J E (wpAny P .any ops (NP Q) fuel (listed.setIfInBounds i true)) n ((d, v) :: l) L) : J E (wpAny P .any ops (NP Q) (fuel + 1) listed) n l L :=
  ja_v i hi hok (pv_pure hT hv) hd h
theorem ja_vg (i : Nat) {g : Nat × Bool} (hi : ops[i]? = some ⟨some d, op, ty, pos, aft, some g⟩) (hok : okB ops listed i = true) (hg : gv ops l g = some true) (hv : PV P l op v) (hd : Nat.blt d n = true)
    (h : J E (wpAny P .any ops (NP Q) fuel (listed.setIfInBounds i true)) n ((d, v) :: l) L) : J E (wpAny P .any ops (NP Q) (fuel + 1) listed) n l L := by
  intro a w hf hs
  simp only [okB, Bool.and_eq_true] at hok
  refine wpAny_take hi hok.1.1 hok.1.2 hok.2 (fun c a w hh => hh.elim) (.inl ⟨gv_sound hf rfl hg, fun w => hv a n _ _ _ _ _ hf w⟩) ?_
  exact h _ w (hf.put (Nat.le_of_ble_eq_true hd) _) hs
theorem ja_pureg (hT : T.ok P) (i : Nat) {g : Nat × Bool} (hi : ops[i]? = some ⟨some d, op, ty, pos, aft, some g⟩) (hok : okB ops listed i = true) (hg : gv ops l g = some true) (hv : pureV T (ev l) op = some v) (hd : Nat.blt d n = true)
    (h : J E (wpAny P .any ops (NP Q) fuel (listed.setIfInBounds i true)) n ((d, v) :: l) L) : J E (wpAny P .any ops (NP Q) (fuel + 1) listed) n l L :=
  ja_vg i hi hok hg (pv_pure hT hv) hd h
theorem ja_skip (i : Nat) {g : Nat × Bool} (hi : ops[i]? = some ⟨some d, op, ty, pos, aft, some g⟩) (hok : okB ops listed i = true) (hg : gv ops l g = some false) (hd : Nat.blt d n = true)
    (h : J E (wpAny P .any ops (NP Q) fuel (listed.setIfInBounds i true)) n ((d, undef) :: l) L) : J E (wpAny P .any ops (NP Q) (fuel + 1) listed) n l L := by
  intro a w hf hs
  simp only [okB, Bool.and_eq_true] at hok
  refine wpAny_take hi hok.1.1 hok.1.2 hok.2 (fun c a w hh => hh.elim) (.inr ⟨gv_sound hf rfl hg, rfl⟩) ?_
  exact h _ w (hf.put (Nat.le_of_ble_eq_true hd) _) hs

/-- those that may come next, each -/
theorem ja_all {rs : List Nat} (hr : Region.ready .any ops listed = rs) (hne : rs.isEmpty = false)
    (h : ∀ i ∈ rs, ∃ o, ops[i]? = some o ∧ J E (wpO P ops (NP Q) o (wpAny P .any ops (NP Q) fuel (listed.setIfInBounds i true))) n l L) : J E (wpAny P .any ops (NP Q) (fuel + 1) listed) n l L := by
  intro a w hf hs
  refine wpAny_all hr (fun e => by subst e; cases hne) fun i hi => ?_
  obtain ⟨o, ho, hJ⟩ := h i hi
  have := hJ a w hf hs
  unfold wpO at this
  unfold wpOp
  simp only [ho]
  exact this
theorem ja_one (i : Nat) {o : Oper} (hi : ops[i]? = some o) (hr : Region.ready .any ops listed = [i])
    (h : J E (wpO P ops (NP Q) o (wpAny P .any ops (NP Q) fuel (listed.setIfInBounds i true))) n l L) : J E (wpAny P .any ops (NP Q) (fuel + 1) listed) n l L :=
  ja_all hr rfl fun j hj => by
    simp at hj
    subst hj
    exact ⟨o, hi, h⟩
theorem ja_two (i j : Nat) {o p : Oper} (hi : ops[i]? = some o) (hj : ops[j]? = some p) (hr : Region.ready .any ops listed = [i, j])
    (h1 : J E (wpO P ops (NP Q) o (wpAny P .any ops (NP Q) fuel (listed.setIfInBounds i true))) n l L)
    (h2 : J E (wpO P ops (NP Q) p (wpAny P .any ops (NP Q) fuel (listed.setIfInBounds j true))) n l L) : J E (wpAny P .any ops (NP Q) (fuel + 1) listed) n l L :=
  ja_all hr rfl fun k hk => by
    simp at hk
    rcases hk with rfl | rfl
    · exact ⟨o, hi, h1⟩
    · exact ⟨p, hj, h2⟩
theorem ja_three (i j k : Nat) {o p q : Oper} (hi : ops[i]? = some o) (hj : ops[j]? = some p) (hk : ops[k]? = some q) (hr : Region.ready .any ops listed = [i, j, k])
    (h1 : J E (wpO P ops (NP Q) o (wpAny P .any ops (NP Q) fuel (listed.setIfInBounds i true))) n l L)
    (h2 : J E (wpO P ops (NP Q) p (wpAny P .any ops (NP Q) fuel (listed.setIfInBounds j true))) n l L)
    (h3 : J E (wpO P ops (NP Q) q (wpAny P .any ops (NP Q) fuel (listed.setIfInBounds k true))) n l L) : J E (wpAny P .any ops (NP Q) (fuel + 1) listed) n l L :=
  ja_all hr rfl fun x hx => by
    simp at hx
    rcases hx with rfl | rfl | rfl
    · exact ⟨o, hi, h1⟩
    · exact ⟨p, hj, h2⟩
    · exact ⟨q, hk, h3⟩
theorem ja_done (hr : Region.ready .any ops listed = []) (h : J E (Q .normal) n l L) : J E (wpAny P .any ops (NP Q) fuel listed) n l L :=
  fun a w hf hs => wpAny_done (Q := NP Q) hr (show NP Q .normal a w from h a w hf hs) fuel
end
end Go.Proofs.Ytiikdofbaoidcaa.Hd
namespace Go.Proofs.Ytiikdofbaoidcaa.Hd
open Go
section
variable {P : Program} {E : World} {Q : Exit → Act → World → Prop} {K : Act → World → Prop} {n : Nat} {l : Fr} {L : List Assn} {T : Tab}
  {ops : Array Oper} {d : Tmp} {ty : TypeId} {pos : String} {aft : Array Edge}

/-! ## literals -/
theorem places_of (hT : T.ok P) : ∀ (fs : List (Nat × TypeId)) (szs : List Nat), fs.map (fun f => (T.find f.2).map (·.size)) = szs.map some →
    ∀ (gs : List Field), gs.map (fun f => (f.offset, f.type)) = fs → gs.mapM (fun f => (P.info? f.type).map fun i => (f.offset, i.size)) = some ((fs.map (·.1)).zip szs)
  | [], szs, _, gs, hg => by
    have : gs = [] := by simpa using hg
    subst this
    rfl
  | f :: fs, szs, hsz, gs, hg => by
    cases gs with
    | nil => cases hg
    | cons g gs =>
      cases szs with
      | nil => cases hsz
      | cons s szs =>
        simp only [List.map_cons, List.cons.injEq] at hg hsz
        obtain ⟨hg1, hg2⟩ := hg
        obtain ⟨hs1, hs2⟩ := hsz
        subst hg1
        cases hf : T.find g.type with
        | none => rw [hf] at hs1; cases hs1
        | some e =>
          rw [hf] at hs1
          obtain ⟨hok, he⟩ := Tab.find_ok hT hf
          obtain ⟨i, z, hi, hs, _⟩ := hok.info
          rw [he] at hi
          simp only [Option.map_some, Option.some.injEq] at hs1
          have := places_of hT fs szs hs2 gs hg2
          simp [List.mapM_cons, hi, this, hs, hs1]

theorem fill_parts {a : Act} {n : Nat} {l : Fr} {parts : Array (Nat × Operand)} {vs : List Value} (hf : Fits a n l) (hv : evs l (parts.toList.map (·.2)) = some vs) :
    parts.toList.map (fun x => (x.1, a.eval x.2)) = (parts.toList.map (·.1)).zip vs := by
  rw [← hf.evs hv]
  induction parts.toList with
  | nil => rfl
  | cons p ps ih => simp only [List.map_cons, List.zip_cons_cons, ih]

theorem pv_build (hT : T.ok P) {t : TypeId} {e : TE} {fs : List (Nat × TypeId)} {szs : List Nat} {parts : Array (Nat × Operand)} {vs : List Value} {cs : List Value} (ht : T.find t = some e) (htd : e.td = .struct fs)
    (hsz : fs.map (fun f => (T.find f.2).map (·.size)) = szs.map some) (hv : evs l (parts.toList.map (·.2)) = some vs)
    (hfill : Instr.fill (fun i => ((fs.map (·.1)).zip szs)[i]?) e.zero.toArray ((parts.toList.map (·.1)).zip vs) = some cs.toArray) : PV P l (.build t parts) (.agg cs.toArray) := by
  obtain ⟨hok, rfl⟩ := Tab.find_ok hT ht
  obtain ⟨gs, hu, hgs⟩ := hok.struct htd
  obtain ⟨i, z, hi, _, _, hz, hzc⟩ := hok.info
  intro a n dst ty pos aft gd hf w
  have hp := fill_parts hf hv
  have hm := places_of hT fs szs hsz gs.toList hgs
  rw [← hzc] at hfill
  simp [execOp, Instr.build, run_underlying hu, typeInfo, zeroValue, hi, hz, Array.mapM_eq_mapM_toList, run_places w _ _ hm, hp, hfill]

theorem zl_eq (zero : List Value) (s : Nat) (hz : zero.length = s) : ∀ k, (List.range (k * s)).map (fun i => zero.toArray[i % zero.toArray.size]!) = (List.replicate k zero).flatten
  | 0 => by simp
  | k + 1 => by
    have h1 : (k + 1) * s = s + k * s := by rw [Nat.add_mul]; omega
    have h2 : (List.range s).map (fun i => zero.toArray[i % zero.toArray.size]!) = zero := by
      apply List.ext_getElem (by simp [hz])
      intro i h3 h4
      have : i % zero.length = i := Nat.mod_eq_of_lt h4
      simp [this, h4]
    have h5 : (List.map (fun x => s + x) (List.range (k * s))).map (fun i => zero.toArray[i % zero.toArray.size]!) = (List.range (k * s)).map (fun i => zero.toArray[i % zero.toArray.size]!) := by
      rw [List.map_map]
      apply List.map_congr_left
      intro i _
      simp [hz]
    rw [h1, List.range_add, List.map_append, h2, h5, zl_eq zero s hz k, List.replicate_succ, List.flatten_cons]
/-- a slice written out, each of its elements one cell -/
theorem jo_buildSlice (hT : T.ok P) {t t' : TypeId} {e e' : TE} {k : Nat} {parts : Array (Nat × Operand)} {vs cs : List Value} (ht : T.find t = some e) (htd : e.td = .slice t') (he : T.find t' = some e')
    (hv : evs l (parts.toList.map (·.2)) = some vs) (hk : Nat.ble (k * e'.size) 16777216 = true) (hzl : e'.zero.length = e'.size)
    (hfill : Instr.fill (fun i => some (i * e'.size, e'.size)) (List.replicate k e'.zero).flatten.toArray ((parts.toList.map (·.1)).zip vs) = some cs.toArray)
    (hd : Nat.blt d n = true) (h : ∀ b, J E K n ((d, .slice (some ⟨b, 0, none⟩) k k) :: l) (cl b cs t' :: L)) : J E (wpO P ops Q ⟨some d, .buildSlice t k parts, ty, pos, aft, none⟩ K) n l L := by
  obtain ⟨hok, rfl⟩ := Tab.find_ok hT ht
  obtain ⟨hok', rfl⟩ := Tab.find_ok hT he
  obtain ⟨i, z, hi, hs, _, hz, hzc⟩ := hok'.info
  have hu := hok.slice htd
  refine jo_new cs (fun b => .slice (some ⟨b, 0, none⟩) k k) (fun a w hf _ => ?_) hd h
  have hp := fill_parts hf hv
  have e2 : (Array.range (k * e'.size)).map (fun i => e'.zero.toArray[i % e'.zero.toArray.size]!) = (List.replicate k e'.zero).flatten.toArray := by
    rw [← zl_eq e'.zero e'.size hzl k]
    apply Array.ext'
    simp
  rw [← e2] at hfill
  have hk' : ¬ (16777216 < k * e'.size) := by have := Nat.le_of_ble_eq_true hk; omega
  by_cases h0 : k * e'.size = 0
  · have e0 : ∀ f : Nat → Value, (Array.range (k * e'.size)).map f = #[] := fun f => by rw [h0]; simp
    rw [e0] at hfill
    have e1 : ∀ f : Nat → Value, Array.map f (Array.range 0) = #[] := fun f => by simp
    simp [execOp, Instr.buildSlice, run_underlying hu, hok'.run_sizeOf, h0, e1, hp, hfill, newRow]
  · rw [← hzc] at hfill
    simp [execOp, Instr.buildSlice, run_underlying hu, hok'.run_sizeOf, hk', h0, zeroValue, typeInfo, hi, hz, hp, hfill, newRow]
end
end Go.Proofs.Ytiikdofbaoidcaa.Hd
namespace Go.Proofs.Ytiikdofbaoidcaa.Hd
open Go
section
variable {P : Program} {E : World} {Q : Exit → Act → World → Prop} {K : Act → World → Prop} {n : Nat} {l : Fr} {L : List Assn} {T : Tab}
  {ops : Array Oper} {d : Tmp} {ty : TypeId} {pos : String} {aft : Array Edge}

theorem sat_new {w w' : World} {M : List Assn} {c : Array Value} {t : TypeId} (hs : Sat E w (star M)) (h1 : w'.os = w.os) (h2 : w'.tape = w.tape) (h3 : w'.output = w.output)
    (hh : w'.heap = w.heap.push (.cells c t (0, 0))) (hd : w.drawn ≤ w'.drawn := by exact Nat.le_refl _) : Sat E w' (star (cl w.heap.size c.toList t :: M)) := by
  have := hs.alloc (.cells c t (0, 0))
  refine ⟨h1.trans hs.os, h2.trans hs.tape, h3.trans hs.output, Nat.le_trans hs.dr hd, ?_⟩
  have h4 := this.heap
  rw [hh]
  exact h4

/-- append, whatever it does -/
theorem append_out (hT : T.ok P) {t t' : TypeId} {e e' : TE} {ty : TypeId} {F : List Assn} {w : World} {v : Value} {xs ys : List Value} {sb : Option Addr} {m c : Nat} {G : List Assn} (ht : T.find t = some e) (htd : e.td = .slice t') (he : T.find t' = some e')
    (hzl : e'.zero.length = e'.size) (hs : Sat E w (star (sl t' e'.size v xs :: F))) (hG : Sat E w (star G)) (hys : ys.length = m * e'.size) (hsrc : m = 0 ∨ ∃ b o, sb = some ⟨b, o, none⟩ ∧ Rd G b o ys)
    (h1 : ∀ u ∈ ys, one u = true) (hb : ∀ len, xs.length = len * e'.size → (len + m) * e'.bytes ≤ 140737488355328 ∧ len + m ≤ maxLen) :
    ∃ v' w', (Builtin.append_ #[t, t] ty #[v, .slice sb m c]).run P w = .ok v' w' ∧ Sat E w' (star (sl t' e'.size v' (xs ++ ys) :: F)) := by
  obtain ⟨hok, rfl⟩ := Tab.find_ok hT ht
  obtain ⟨hok', rfl⟩ := Tab.find_ok hT he
  obtain ⟨i, z, hi, hsz, hby, hz, hzc⟩ := hok'.info
  have hu := hok.slice htd
  obtain ⟨f, g, hsp, ⟨base, len, cap, rfl, hlen, hlc, hcm, hor⟩, hF⟩ := hs.heap
  have hF' : Sat E w (star F) := hs.imp fun _ => star_drop
  obtain ⟨hbb, hbm⟩ := hb len hlen
  have h1' : ∀ u ∈ ys, u.oneCell' = true := by
    intro u hu'
    have := h1 u hu'
    cases u <;> first | rfl | (cases this; done)
  rcases Nat.eq_zero_or_pos m with h0 | hmp
  · subst h0
    have hy0 : ys = [] := List.eq_nil_of_length_eq_zero (by simpa using hys)
    subst hy0
    refine ⟨.slice base len cap, w, ?_, by rw [List.append_nil]; exact hs⟩
    cases sb <;> cases base <;> simp [Builtin.append_, run_underlying hu, hok'.run_sizeOf, Builtin.lenOf, hlc, Builtin.firstCells, loadCells, loadCellsFrom, storeCells]
  · obtain ⟨b, o, rfl, hRd⟩ := hsrc.resolve_left (by omega)
    have hnews : ∀ j u, ys[j]? = some u → w.cell? ((⟨b, o, none⟩ : Addr).add j) = some u := fun j u hj => by rw [addr_add]; exact hRd E w hG j u hj
    have hl : ys.length = m * i.size := by rw [hys, hsz]
    have hmx : len + m ≤ 9223372036854775807 := by have := hbm; simp only [maxLen] at this; omega
    -- a new row
    have fresh : ∀ (old : Nat) (w' : World), w'.os = w.os → w'.tape = w.tape → w'.output = w.output → w.drawn ≤ w'.drawn →
        w'.heap = w.heap.push (.cells (xs.toArray ++ ys.toArray ++ Builtin.zeroCells z.cells (grownCap w (len + m) old e'.t - (len + m))) e'.t (0, 0)) →
        Sat E w' (star (sl e'.t e'.size (.slice (some ⟨w.heap.size, 0, none⟩) (len + m) (grownCap w (len + m) old e'.t)) (xs ++ ys) :: F)) := by
      intro old w' e1 e2 e3 e5 e4
      have hs' := sat_new hF' e1 e2 e3 e4 e5
      have hge := grownCap_ge w (len + m) old e'.t
      have hle := grownCap_le_maxLen w (len + m) old e'.t hbm
      refine hs'.imp fun m' hm' => star_head ?_ hm'
      intro f' hf'
      refine ⟨_, _, _, rfl, ?_, hge, hle, .inr ⟨w.heap.size, (Builtin.zeroCells z.cells (grownCap w (len + m) old e'.t - (len + m))).toList, rfl, ?_, ?_⟩⟩
      · rw [List.length_append, hlen, hys, Nat.add_mul]
      · simp only [List.length_append, hlen, hys, Array.length_toList, size_zeroCells, hzc, List.size_toArray]
        rw [hzl, ← Nat.add_mul, ← Nat.add_mul]
        congr 1
        omega
      · simpa using hf'
    rcases hor with rfl | ⟨g0, sp, rfl, hsz2, hcl⟩
    · have hl0 : len = 0 := by omega
      subst hl0
      have hx0 : xs = [] := List.eq_nil_of_length_eq_zero (by simpa using hlen)
      subst hx0
      simp only [Nat.zero_add, List.nil_append, Array.empty_append] at fresh hbb hmx ⊢
      cases base with
      | none =>
        have hr := run_append_nil (P := P) w e.t ty e'.t i z hu hi hz ⟨b, o, none⟩ m c ys hl hnews hmp (by omega) (by rw [hby]; omega)
        exact ⟨_, _, hr, fresh 0 _ rfl rfl rfl (Nat.le_succ _) rfl⟩
      | some b0 =>
        have hr := run_append_grow (P := P) w e.t ty e'.t i z hu hi hz b0 0 0 [] (by simp) (fun j v hj => by simp at hj) ⟨b, o, none⟩ m c ys hl hnews (by omega) (by omega) (growslice_fits (by omega) (by rw [hby, Nat.zero_add]; omega))
        simp only [Nat.zero_add, Array.empty_append] at hr
        exact ⟨_, _, hr, fresh 0 _ rfl rfl rfl (Nat.le_succ _) rfl⟩
    · have hs' : Sat E w (star (cl g0 (xs ++ sp) e'.t :: F)) := ⟨hs.os, hs.tape, hs.output, hs.dr, f, g, hsp, hcl, hF⟩
      have hblk := Sat.block (o := .cells (xs ++ sp).toArray e'.t (0, 0)) hs'
      have holds : ∀ j u, xs[j]? = some u → w.cell? ((⟨g0, 0, none⟩ : Addr).add j) = some u := by
        intro j u hj
        rw [addr_add, cell_block hblk, Nat.zero_add]
        have : j < xs.length := (List.getElem?_eq_some_iff.1 hj).1
        simp only [List.getElem?_toArray]
        rw [List.getElem?_append_left this, hj]
      by_cases hroom : len + m ≤ cap
      · have hspl : m * e'.size ≤ sp.length := by
          have h5 : xs.length + sp.length = cap * e'.size := by rw [← List.length_append]; exact hsz2
          have h6 := Nat.mul_le_mul_right e'.size hroom
          rw [Nat.add_mul] at h6
          omega
        have hr := run_append_room (P := P) w e.t ty e'.t i hu hi g0 len cap (xs ++ sp).toArray hblk ⟨b, o, none⟩ m c ys hl hnews h1' hroom (by
          rw [hl, hsz]
          simp only [List.size_toArray, List.length_append]
          omega)
        refine ⟨_, _, hr, ?_⟩
        have hnew : ((xs ++ sp).toArray.toList.take (len * i.size) ++ ys ++ (xs ++ sp).toArray.toList.drop (len * i.size + ys.length)) = (xs ++ ys) ++ sp.drop ys.length := by
          simp only []
          rw [hsz, ← hlen, List.take_left, ← List.drop_drop, List.drop_left]
        rw [hnew]
        have hput := Sat.put (o := .cells (xs ++ sp).toArray e'.t (0, 0)) (o' := .cells ((xs ++ ys) ++ sp.drop ys.length).toArray e'.t (0, 0)) (w' := w.setRow g0 ((xs ++ ys) ++ sp.drop ys.length).toArray) hs' rfl rfl rfl
          (setRow_heap w g0 _ _ e'.t _ hblk) (fun k hk => setRow_other w g0 k _ hk)
        refine hput.imp fun m' hm' => star_head ?_ hm'
        intro f' hf'
        refine ⟨_, _, _, rfl, ?_, hroom, hcm, .inr ⟨g0, sp.drop ys.length, rfl, ?_, hf'⟩⟩
        · rw [List.length_append, hlen, hys, Nat.add_mul]
        · have h5 : xs.length + sp.length = cap * e'.size := by rw [← List.length_append]; exact hsz2
          simp only [List.length_append, List.length_drop]
          omega
      · have hr := run_append_grow (P := P) w e.t ty e'.t i z hu hi hz ⟨g0, 0, none⟩ len cap xs (by rw [hlen, hsz]) holds ⟨b, o, none⟩ m c ys hl hnews (by omega) (by omega) (growslice_fits (by omega) (by rw [hby]; exact hbb))
        exact ⟨_, _, hr, fresh cap _ rfl rfl rfl (Nat.le_succ _) rfl⟩

theorem jo_append (hT : T.ok P) {t t' : TypeId} {x y : Operand} {e e' : TE} {F : List Assn} {v : Value} {xs : List Value} {sb : Option Addr} {m c : Nat} (i : Nat) (ys : List Value) (hx : ev l x = some v) (hy : ev l y = some (.slice sb m c))
    (ht : T.find t = some e) (htd : e.td = .slice t') (he : T.find t' = some e') (hzl : e'.zero.length = e'.size) (hL : sel [i] L = [sl t' e'.size v xs] ∧ rem [i] L = F)
    (hys : ys.length = m * e'.size) (hsrc : m = 0 ∨ ∃ b o, sb = some ⟨b, o, none⟩ ∧ Rd L b o ys)
    (h1 : ∀ u ∈ ys, one u = true) (hb : ∀ len, xs.length = len * e'.size → (len + m) * e'.bytes ≤ 140737488355328 ∧ len + m ≤ maxLen) (hd : Nat.blt d n = true)
    (h : ∀ v', J E K n ((d, v') :: l) (sl t' e'.size v' (xs ++ ys) :: F)) : J E (wpO P ops Q ⟨some d, .call { callee := .builtin .append, args := #[x, y], argTypes := #[t, t] }, ty, pos, aft, none⟩ K) n l L := by
  refine jo_run rfl fun a w hf hs => ?_
  have hs1 := hs.sel [i]
  rw [hL.1, hL.2] at hs1
  obtain ⟨v', w', hr, hs'⟩ := append_out (ty := ty) (c := c) hT ht htd he hzl hs1 hs hys hsrc h1 hb
  refine ⟨v', w', ?_, h v' _ w' (hf.put (Nat.le_of_ble_eq_true hd) _) hs'⟩
  simp only [execOp, resolve, invoke, builtin, Sem.run_bind, Sem.run_pure, Result.andThen_ok, List.map_toArray, List.map_cons, List.map_nil, hf.ev hx, hf.ev hy, hr]
end
end Go.Proofs.Ytiikdofbaoidcaa.Hd
namespace Go.Proofs.Ytiikdofbaoidcaa.Hd
open Go
theorem TE.ok.pointer {P : Program} {e : TE} (h : e.ok P) {x : TypeId} (hd : e.td = .pointer x) : P.underlying e.t = some (.pointer x) := by
  have := h.td
  rw [hd] at this
  cases hu : P.underlying e.t with
  | none => rw [hu] at this; cases this
  | some d => rw [hu] at this; cases d <;> simp [TD.of] at this; rw [this]
section
variable {P : Program} {l : Fr} {T : Tab}

/-! ## '==' against nil -/
theorem eq_run {t : TypeId} {u v : Value} {b : Bool} (h : ∀ d w, (Op.equalIn (d + 1) t u v).run P w = .ok b w) (w : World) : (Op.equal t u v).run P w = .ok b w := by
  unfold Op.equal Op.maxDepth
  exact h 9999 w
theorem pv_eql {t t' : TypeId} {x y : Operand} {u v : Value} {b : Bool} (hx : ev l x = some u) (hy : ev l y = some v) (hg : ∀ w, (eqGuard .eql t x y u v).run P w = .ok () w) (hb : binOp .eql t u v = (do pure (.bool (← Op.equal t u v))))
    (h : ∀ d w, (Op.equalIn (d + 1) t u v).run P w = .ok b w) : PV P l (.binOp .eql t x y t') (.bool b) := by
  refine pv_bin hx hy (fun w => ?_)
  rw [Sem.run_bind, hg w]
  simp only [Result.andThen_ok]
  rw [hb, Sem.run_bind, eq_run h]
  rfl
theorem pv_neq {t t' : TypeId} {x y : Operand} {u v : Value} {b : Bool} (hx : ev l x = some u) (hy : ev l y = some v) (hg : ∀ w, (eqGuard .neq t x y u v).run P w = .ok () w) (hb : binOp .neq t u v = (do pure (.bool (!(← Op.equal t u v)))))
    (h : ∀ d w, (Op.equalIn (d + 1) t u v).run P w = .ok b w) : PV P l (.binOp .neq t x y t') (.bool (!b)) := by
  refine pv_bin hx hy (fun w => ?_)
  rw [Sem.run_bind, hg w]
  simp only [Result.andThen_ok]
  rw [hb, Sem.run_bind, eq_run h]
  rfl
theorem pv_slice_eq (hT : T.ok P) {t t' u : TypeId} {x : Operand} {e : TE} {a : Option Addr} {len cap : Nat} (ht : T.find t = some e) (htd : e.td = .slice t') (hx : ev l x = some (.slice a len cap)) :
    PV P l (.binOp .eql t x (.const (.slice none 0 0)) u) (.bool (a.isNone)) := by
  obtain ⟨hok, rfl⟩ := Tab.find_ok hT ht
  have hu := hok.slice htd
  refine pv_eql hx rfl (fun w => rfl) rfl (fun d w => ?_)
  cases a <;> simp [Op.equalIn, run_underlying hu]
theorem pv_slice_ne (hT : T.ok P) {t t' u : TypeId} {x : Operand} {e : TE} {a : Option Addr} {len cap : Nat} (ht : T.find t = some e) (htd : e.td = .slice t') (hx : ev l x = some (.slice a len cap)) :
    PV P l (.binOp .neq t x (.const (.slice none 0 0)) u) (.bool (!a.isNone)) := by
  obtain ⟨hok, rfl⟩ := Tab.find_ok hT ht
  have hu := hok.slice htd
  refine pv_neq hx rfl (fun w => rfl) rfl (fun d w => ?_)
  cases a <;> simp [Op.equalIn, run_underlying hu]
theorem pv_ptr_eq (hT : T.ok P) {t t' u : TypeId} {x : Operand} {e : TE} {a : Option Addr} (ht : T.find t = some e) (htd : e.td = .pointer t') (hx : ev l x = some (.pointer a)) :
    PV P l (.binOp .eql t x (.const (.pointer none)) u) (.bool (a.isNone)) := by
  obtain ⟨hok, rfl⟩ := Tab.find_ok hT ht
  have hu := hok.pointer htd
  refine pv_eql hx rfl (fun w => rfl) rfl (fun d w => ?_)
  cases a <;> simp [Op.equalIn, run_underlying hu]
theorem pv_ptr_ne (hT : T.ok P) {t t' u : TypeId} {x : Operand} {e : TE} {a : Option Addr} (ht : T.find t = some e) (htd : e.td = .pointer t') (hx : ev l x = some (.pointer a)) :
    PV P l (.binOp .neq t x (.const (.pointer none)) u) (.bool (!a.isNone)) := by
  obtain ⟨hok, rfl⟩ := Tab.find_ok hT ht
  have hu := hok.pointer htd
  refine pv_neq hx rfl (fun w => rfl) rfl (fun d w => ?_)
  cases a <;> simp [Op.equalIn, run_underlying hu]
/-- is an interface value nil? -/
def isNil : Value → Bool | .nilIface => true | _ => false
def isIf (v : Value) : Prop := v = .nilIface ∨ ∃ t' v', v = .iface t' v'
theorem pv_if_eq (hT : T.ok P) {t u : TypeId} {x : Operand} {e : TE} {v : Value} (ht : T.find t = some e) (htd : e.td = .iface) (hx : ev l x = some v) (hv : isIf v) :
    PV P l (.binOp .eql t x (.const .nilIface) u) (.bool (isNil v)) := by
  obtain ⟨hok, rfl⟩ := Tab.find_ok hT ht
  obtain ⟨ms, hu⟩ := hok.iface htd
  rcases hv with rfl | ⟨t', v', rfl⟩
  · refine pv_eql hx rfl (fun w => by cases x <;> rfl) rfl (fun d w => ?_)
    simp [Op.equalIn, run_underlying hu, isNil]
  · refine pv_eql hx rfl (fun w => rfl) rfl (fun d w => ?_)
    simp [Op.equalIn, run_underlying hu, isNil]
theorem pv_if_ne (hT : T.ok P) {t u : TypeId} {x : Operand} {e : TE} {v : Value} (ht : T.find t = some e) (htd : e.td = .iface) (hx : ev l x = some v) (hv : isIf v) :
    PV P l (.binOp .neq t x (.const .nilIface) u) (.bool (!isNil v)) := by
  obtain ⟨hok, rfl⟩ := Tab.find_ok hT ht
  obtain ⟨ms, hu⟩ := hok.iface htd
  rcases hv with rfl | ⟨t', v', rfl⟩
  · refine pv_neq hx rfl (fun w => by cases x <;> rfl) rfl (fun d w => ?_)
    simp [Op.equalIn, run_underlying hu, isNil]
  · refine pv_neq hx rfl (fun w => rfl) rfl (fun d w => ?_)
    simp [Op.equalIn, run_underlying hu, isNil]

theorem pv_max {x y : Operand} {a b : Int} {ts : Array TypeId} (hx : ev l x = some (.int .i64 a)) (hy : ev l y = some (.int .i64 b)) :
    PV P l (.call { callee := .builtin .max, args := #[x, y], argTypes := ts }) (.int .i64 (max a b)) := by
  intro a' n dst ty pos aft gd hf w
  have e : (if b > a then b else a) = max a b := by omega
  simp [execOp, resolve, invoke, builtin, hf.ev hx, hf.ev hy, Builtin.max_, Builtin.max2]
  omega
theorem pv_min {x y : Operand} {a b : Int} {ts : Array TypeId} (hx : ev l x = some (.int .i64 a)) (hy : ev l y = some (.int .i64 b)) :
    PV P l (.call { callee := .builtin .min, args := #[x, y], argTypes := ts }) (.int .i64 (min a b)) := by
  intro a' n dst ty pos aft gd hf w
  simp [execOp, resolve, invoke, builtin, hf.ev hx, hf.ev hy, Builtin.min_, Builtin.min2]
  omega

/-- a conversion between kinds of whole numbers where the number fits -/
theorem pv_conv (hT : T.ok P) {s t : TypeId} {e e' : TE} {x : Operand} {k k' : IntKind} {a : Int} (hs : T.find s = some e') (ht : T.find t = some e) (hts : e'.td = .int k') (htd : e.td = .int k) (hx : ev l x = some (.int k' a)) (ha : k.wrap a = a) :
    PV P l (.convert s t x) (.int k a) := by
  obtain ⟨hok, rfl⟩ := Tab.find_ok hT ht
  obtain ⟨hok', rfl⟩ := Tab.find_ok hT hs
  have hu := hok.int htd
  have hu' := hok'.int hts
  intro a' n dst ty pos aft gd hf w
  simp [execOp, convert, run_underlying hu, run_underlying hu', hf.ev hx, Conv.intToInt, ha]

theorem pv_neg64 {x : Operand} {a : BitVec 64} {t : TypeId} (hx : ev l x = some (W a)) : PV P l (.unOp .neg t x) (W (-a)) := by
  intro a' n dst ty pos aft gd hf w
  have e : Op.unary .neg (W a) = (pure (W (-a)) : Sem Value) := by
    show (pure (Value.int .u64 (IntKind.u64.wrap (0 - (a.toNat : Int)))) : Sem Value) = _
    have h1 := a.isLt
    rw [wrap_u64]
    have h2 : (-a).toNat = (18446744073709551616 - a.toNat) % 18446744073709551616 := by simp [BitVec.toNat_neg]
    simp only [W, h2]
    congr 2
    omega
  simp [execOp, hf.ev hx, e]
theorem pv_add64 {x y : Operand} {a b : BitVec 64} {t t' : TypeId} (hx : ev l x = some (W a)) (hy : ev l y = some (W b)) : PV P l (.binOp .add t x y t') (W (a + b)) := by
  refine pv_bin hx hy (fun w => ?_)
  have e : Op.intArith .add .u64 (a.toNat : Int) (b.toNat : Int) = (pure (W (a + b)) : Sem Value) := by
    show (pure (Value.int .u64 (IntKind.u64.wrap ((a.toNat : Int) + b.toNat))) : Sem Value) = _
    rw [wrap_u64]
    have h2 : (a + b).toNat = (a.toNat + b.toNat) % 18446744073709551616 := by rw [BitVec.toNat_add]
    simp only [W, h2]
    congr 2
  simp only [eqGuard, binOp, e]; rfl
theorem pv_mul64 {x y : Operand} {a b : BitVec 64} {t t' : TypeId} (hx : ev l x = some (W a)) (hy : ev l y = some (W b)) : PV P l (.binOp .mul t x y t') (W (a * b)) := by
  refine pv_bin hx hy (fun w => ?_)
  have e : Op.intArith .mul .u64 (a.toNat : Int) (b.toNat : Int) = (pure (W (a * b)) : Sem Value) := by
    show (pure (Value.int .u64 (IntKind.u64.wrap ((a.toNat : Int) * b.toNat))) : Sem Value) = _
    rw [wrap_u64]
    have h2 : (a * b).toNat = (a.toNat * b.toNat) % 18446744073709551616 := by rw [BitVec.toNat_mul]
    simp only [W, h2]
    rw [← Int.natCast_mul]
    generalize a.toNat * b.toNat = z
    congr 2
  simp only [eqGuard, binOp, e]; rfl
end
end Go.Proofs.Ytiikdofbaoidcaa.Hd
namespace Go.Proofs.Ytiikdofbaoidcaa.Hd
open Go
/-- a slice that is read: its elements lie in 'A' -/
def Ro (A : Assn) (size : Nat) (v : Value) (xs : List Value) : Prop :=
  ∃ base len cap, v = .slice base len cap ∧ xs.length = len * size ∧ len ≤ maxLen ∧ (len = 0 ∨ ∃ b o, base = some ⟨b, o, none⟩ ∧ ∀ L, Rd (A :: L) b o xs)

theorem ro_cl {b : Nat} {xs : List Value} {t : TypeId} {k c size : Nat} (h : xs.length = k * size) (hk : k ≤ maxLen) : Ro (cl b xs t) size (.slice (some ⟨b, 0, none⟩) k c) xs :=
  ⟨_, k, c, rfl, h, hk, .inr ⟨b, 0, rfl, fun _ => Rd.all⟩⟩
theorem ro_nil {A : Assn} {size : Nat} : Ro A size (.slice none 0 0) [] := ⟨none, 0, 0, rfl, by simp, by simp [maxLen], .inl rfl⟩

section
variable {E : World} {X : Act → World → Prop} {n : Nat} {l : Fr} {L : List Assn}
theorem j_sl_ro {t : TypeId} {size : Nat} {v : Value} {xs : List Value} (h : Ro (sl t size v xs) size v xs → J E X n l (sl t size v xs :: L)) : J E X n l (sl t size v xs :: L) := by
  intro a w hf hs
  obtain ⟨f, g, hsp, ⟨base, len, cap, hv, hlen, hlc, hcm, hor⟩, hL⟩ := hs.heap
  refine h ⟨base, len, cap, hv, hlen, Nat.le_trans hlc hcm, ?_⟩ a w hf hs
  rcases hor with h0 | ⟨b, sp, hb, hsz, hcl⟩
  · exact .inl (by omega)
  · refine .inr ⟨b, 0, hb, fun L' E' w' hs' j u hu => ?_⟩
    obtain ⟨f', g', hsp', ⟨base', len', cap', hv', hlen', hlc', hcm', hor'⟩, hL'⟩ := hs'.heap
    rw [hv] at hv'
    cases hv'
    rcases hor' with h0 | ⟨b', sp', hb', hsz', hcl'⟩
    · have : xs.length = 0 := by rw [hlen']; have : len = 0 := by omega
                                 rw [this, Nat.zero_mul]
      have : xs = [] := List.eq_nil_of_length_eq_zero this
      subst this
      simp at hu
    · rw [hb] at hb'
      cases hb'
      rw [cell_block (hsp'.left hcl'), Nat.zero_add]
      have : j < xs.length := (List.getElem?_eq_some_iff.1 hu).1
      simp only [List.getElem?_toArray]
      rw [List.getElem?_append_left this, hu]
end
theorem mem_one {f : Int → Value} (hf : ∀ x, one (f x) = true) {xs : List Int} : ∀ u ∈ xs.map f, one u = true := by
  intro u hu
  obtain ⟨x, _, rfl⟩ := List.mem_map.1 hu
  exact hf x
theorem rem_nil_app (F : List Assn) : [] ++ F = F := rfl
end Go.Proofs.Ytiikdofbaoidcaa.Hd
namespace Go.Proofs.Ytiikdofbaoidcaa.Hd
open Go
theorem Tri.mono {P : Program} {f : FuncId} {vs : List Value} {pre : List Assn} {O O' : Value → List Assn → Prop} (h : Tri P f vs pre O) (hi : ∀ v B, O v B → O' v B) : Tri P f vs pre O' :=
  fun E F w hs => (h E F w hs).mono fun _ _ ⟨v, B, hO, he, hs'⟩ => ⟨v, B, hi v B hO, he, hs'⟩
theorem TE.ok.bool {P : Program} {e : TE} (h : e.ok P) (hd : e.td = .bool) : P.underlying e.t = some .bool := by
  have := h.td
  rw [hd] at this
  cases hu : P.underlying e.t with
  | none => rw [hu] at this; cases this
  | some d => rw [hu] at this; cases d <;> simp [TD.of] at this; rfl
theorem pv_bool_eq {P : Program} {l : Fr} {T : Tab} (hT : T.ok P) {t u : TypeId} {x y : Operand} {e : TE} {a b : Bool} (ht : T.find t = some e) (htd : e.td = .bool) (hx : ev l x = some (.bool a)) (hy : ev l y = some (.bool b)) :
    PV P l (.binOp .eql t x y u) (.bool (a == b)) := by
  obtain ⟨hok, rfl⟩ := Tab.find_ok hT ht
  have hu := hok.bool htd
  refine pv_eql hx hy (fun w => rfl) rfl (fun d w => ?_)
  simp [Op.equalIn, run_underlying hu]
theorem pv_bool_ne {P : Program} {l : Fr} {T : Tab} (hT : T.ok P) {t u : TypeId} {x y : Operand} {e : TE} {a b : Bool} (ht : T.find t = some e) (htd : e.td = .bool) (hx : ev l x = some (.bool a)) (hy : ev l y = some (.bool b)) :
    PV P l (.binOp .neq t x y u) (.bool (!(a == b))) := by
  obtain ⟨hok, rfl⟩ := Tab.find_ok hT ht
  have hu := hok.bool htd
  refine pv_neq hx hy (fun w => rfl) rfl (fun d w => ?_)
  simp [Op.equalIn, run_underlying hu]
end Go.Proofs.Ytiikdofbaoidcaa.Hd
namespace Go.Proofs.Ytiikdofbaoidcaa.Hd
open Go
theorem jo_isbin {P : Program} {E : World} {Q : Exit → Act → World → Prop} {K : Act → World → Prop} {n : Nat} {l : Fr} {L : List Assn} {ops : Array Oper} {d : Tmp} {ty : TypeId} {pos : String} {aft : Array Edge} {op : BinOp} {t u : TypeId} {x y : Operand}
    (h : J E (wpO P ops Q ⟨some d, .binOp op t x y u, ty, pos, aft, none⟩ K) n l L) : J E (wpO P ops Q ⟨some d, .binOp op t x y u, ty, pos, aft, none⟩ K) n l L := h
theorem jo_iso {P : Program} {E : World} {Q : Exit → Act → World → Prop} {K : Act → World → Prop} {n : Nat} {l : Fr} {L : List Assn} {ops : Array Oper} {o : Oper}
    (h : J E (wpO P ops Q o K) n l L) : J E (wpO P ops Q o K) n l L := h
end Go.Proofs.Ytiikdofbaoidcaa.Hd
namespace Go.Proofs.Ytiikdofbaoidcaa.Hd
open Go
/-! ## many atoms of a kind -/
def stars {α β : Type} (A : α → β → Assn) : List α → List β → List Assn
  | a :: as, b :: bs => A a b :: stars A as bs
  | _, _ => []
def many {α β : Type} (A : α → β → Assn) (as : List α) (bs : List β) : Assn := star (stars A as bs)
def manyBut {α β : Type} (A : α → β → Assn) (as : List α) (bs : List β) (i : Nat) : Assn := star ((stars A as bs).eraseIdx i)

theorem stars_get {α β : Type} (A : α → β → Assn) : ∀ (as : List α) (bs : List β) (i : Nat) (a : α) (b : β), as[i]? = some a → bs[i]? = some b → (stars A as bs)[i]? = some (A a b)
  | [], _, i, _, _, h, _ => by simp at h
  | _ :: _, [], i, _, _, _, h => by simp at h
  | a :: as, b :: bs, 0, _, _, h, h' => by simp at h h'; subst h; subst h'; rfl
  | a :: as, b :: bs, i + 1, _, _, h, h' => by
    simp only [stars, List.getElem?_cons_succ] at h h' ⊢
    exact stars_get A as bs i _ _ h h'
theorem stars_erase {α β : Type} (A : α → β → Assn) : ∀ (as : List α) (bs : List β) (i : Nat) (b : β), (stars A as (bs.set i b)).eraseIdx i = (stars A as bs).eraseIdx i
  | [], bs, i, b => by simp [stars]
  | _ :: _, [], i, b => by simp [stars]
  | a :: as, b' :: bs, 0, b => by simp [stars]
  | a :: as, b' :: bs, i + 1, b => by simp [stars, stars_erase A as bs i b]
theorem stars_snoc {α β : Type} (A : α → β → Assn) (a : α) (b : β) : ∀ (as : List α) (bs : List β), as.length = bs.length → stars A (as ++ [a]) (bs ++ [b]) = stars A as bs ++ [A a b]
  | [], [], _ => rfl
  | [], _ :: _, h => by simp at h
  | _ :: _, [], h => by simp at h
  | a' :: as, b' :: bs, h => by
    simp only [List.cons_append, stars, stars_snoc A a b as bs (by simpa using h)]

theorem many_open {α β : Type} {A : α → β → Assn} {as : List α} {bs : List β} {i : Nat} {a : α} {b : β} (ha : as[i]? = some a) (hb : bs[i]? = some b) {m : Frag} (h : many A as bs m) :
    star [A a b, manyBut A as bs i] m := by
  have h1 := star_perm (perm_eraseIdx (stars_get A as bs i a b ha hb)) h
  obtain ⟨f, g, hs, hA, hL⟩ := h1
  refine ⟨f, g, hs, hA, ?_⟩
  exact star_close (M := (stars A as bs).eraseIdx i) (L := []) (by simpa using hL)
theorem many_shut {α β : Type} {A : α → β → Assn} {as : List α} {bs : List β} {i : Nat} {a : α} {b' : β} (ha : as[i]? = some a) (hb : i < bs.length) {m : Frag} (h : star [A a b', manyBut A as bs i] m) :
    many A as (bs.set i b') m := by
  obtain ⟨f, g, hs, hA, hL⟩ := h
  have h2 : star ((stars A as bs).eraseIdx i) g := by
    have := star_open (M := (stars A as bs).eraseIdx i) (L := []) hL
    simpa using this
  have h3 : (stars A as (bs.set i b'))[i]? = some (A a b') := stars_get A as _ i a b' ha (by simp [hb])
  refine star_perm (perm_eraseIdx h3).symm ⟨f, g, hs, hA, ?_⟩
  rw [stars_erase]
  exact h2
theorem many_back {α β : Type} {A : α → β → Assn} {as : List α} {bs : List β} {i : Nat} {a : α} {b : β} (ha : as[i]? = some a) (hb : bs[i]? = some b) {m : Frag} (h : star [A a b, manyBut A as bs i] m) :
    many A as bs m := by
  have h1 := many_shut (b' := b) ha (List.getElem?_eq_some_iff.1 hb).1 h
  have : bs.set i b = bs := by
    apply List.ext_getElem?
    intro j
    by_cases e : i = j
    · subst e; rw [List.getElem?_set_self (List.getElem?_eq_some_iff.1 hb).1, hb]
    · rw [List.getElem?_set_ne e]
  rwa [this] at h1
theorem many_nil {α β : Type} {A : α → β → Assn} {m : Frag} : many A [] [] m := trivial
theorem many_snoc {α β : Type} {A : α → β → Assn} {as : List α} {bs : List β} {a : α} {b : β} (hl : as.length = bs.length) {m : Frag} (h : star [many A as bs, A a b] m) : many A (as ++ [a]) (bs ++ [b]) m := by
  unfold many
  rw [stars_snoc A a b as bs hl]
  exact star_open (M := stars A as bs) (L := [A a b]) h
theorem j_many {α β : Type} {A : α → β → Assn} {as : List α} {bs : List β} (i : Nat) {a : α} {b : β} (ha : as[i]? = some a) (hb : bs[i]? = some b) {E : World} {X : Act → World → Prop} {n : Nat} {l : Fr} {L : List Assn}
    (h : J E X n l (A a b :: manyBut A as bs i :: L)) : J E X n l (many A as bs :: L) := fun x w hf hs =>
  h x w hf (hs.imp fun m hm => star_open (M := [A a b, manyBut A as bs i]) (L := L) (star_head (fun _ h1 => many_open ha hb h1) hm))
end Go.Proofs.Ytiikdofbaoidcaa.Hd
namespace Go.Proofs.Ytiikdofbaoidcaa.Hd
open Go
/-! ## a place in a function: the code there, and what comes behind it -/
inductive Stp where
  | l | r | b
  | body (R : Act → World → Prop)
def down (P : Program) : List Stp → Code → (Exit → Act → World → Prop) → Code × (Exit → Act → World → Prop)
  | .l :: π, .seq x y, Q => down P π x (Exit.then (y.wp P Q) Q)
  | .r :: π, .seq _ y, Q => down P π y Q
  | .l :: π, .cond _ x _, Q => down P π x Q
  | .r :: π, .cond _ _ y, Q => down P π y Q
  | .b :: π, .block id c, Q => down P π c (Exit.inBlock id Q)
  | .body R :: π, .loop c, Q => down P π c (Exit.then R Q)
  | _, c, Q => (c, Q)
def here (P : Program) (π : List Stp) (f : Func) (Q : Exit → Act → World → Prop) : Act → World → Prop :=
  (down P π (f.body.getD .skip) Q).1.wp P (down P π (f.body.getD .skip) Q).2
/-- the end of a round -/
def Rnd {ι : Type} (E : World) (n : Nat) (I : ι → Fr) (A : ι → List Assn) (p : ι → Prop) (μ : ι → Nat) (k : Nat) : Act → World → Prop :=
  fun a w => ∃ x', p x' ∧ μ x' < k ∧ Fits a n (I x') ∧ Sat E w (star (A x'))
section
variable {P : Program} {E : World} {X : Act → World → Prop} {Q : Exit → Act → World → Prop} {n : Nat} {l : Fr} {L : List Assn}
theorem j_here {π : List Stp} {f : Func} {c : Code} {K : Exit → Act → World → Prop} (h : down P π (f.body.getD .skip) Q = (c, K)) (hx : J E (c.wp P K) n l L) : J E (here P π f Q) n l L := by
  unfold here
  rw [h]
  exact hx
/-- on with a piece that is proved: a shorter frame, other places -/
theorem j_go {l' : Fr} {L' : List Assn} (h : J E X n l' L') (is ds : List Nat) (hl : Sub l' l) (hA : sel is (rem ds L) ++ rem is (rem ds L) = L') : J E X n l L :=
  fun a w hf hs => h a w (hf.sub hl.lk) (hs.pick is ds hA)
theorem jx_rnd {ι : Type} {I : ι → Fr} {A : ι → List Assn} {p : ι → Prop} {k : Nat} {μ : ι → Nat} (x : ι) (is ds : List Nat) (hp : p x) (hμ : μ x < k) (hl : Sub (I x) l)
    (hA : sel is (rem ds L) ++ rem is (rem ds L) = A x) : J E (Rnd E n I A p μ k) n l L := jx_round x is ds hp hμ hl hA
theorem jc_loopd {c : Code} {ι : Type} (I : ι → Fr) (A : ι → List Assn) (p : ι → Prop) (μ : ι → Nat) (x0 : ι) (is ds : List Nat) (hp : p x0) (hl : Sub (I x0) l)
    (hA : sel is (rem ds L) ++ rem is (rem ds L) = A x0)
    (round : ∀ x, p x → J E (c.wp P (Exit.then (Rnd E n I A p μ (μ x)) Q)) n (I x) (A x)) : J E ((Code.loop c).wp P Q) n l L := jc_loop I A p μ x0 is ds hp hl hA round
end
end Go.Proofs.Ytiikdofbaoidcaa.Hd
namespace Go.Proofs.Ytiikdofbaoidcaa.Hd
open Go
/-! ## regions that draw their order, loads first: these cells stand as they are through the whole region -/
def SC (cs : List (Nat × Nat × Value)) : World → Prop := fun w => ∀ c ∈ cs, w.cell? ⟨c.1, c.2.1, none⟩ = some c.2.2
def RdC (L : List Assn) (cs : List (Nat × Nat × Value)) : Prop := ∀ c ∈ cs, Rd L c.1 c.2.1 [c.2.2]
theorem RdC.nil {L : List Assn} : RdC L [] := fun _ h => by cases h
theorem RdC.cons {L : List Assn} {b o : Nat} {v : Value} {cs : List (Nat × Nat × Value)} (h : Rd L b o [v]) (t : RdC L cs) : RdC L ((b, o, v) :: cs) := fun c hc => by
  rcases List.mem_cons.1 hc with rfl | hc
  · exact h
  · exact t c hc
theorem RdC.sat {L : List Assn} {cs : List (Nat × Nat × Value)} (h : RdC L cs) {E w : World} (hs : Sat E w (star L)) : SC cs w := fun c hc => by
  have := h c hc E w hs 0 c.2.2 rfl
  simpa using this

/-- whatever order is picked from here on; 'S' holds behind every operation as long as number 'k' (which writes at last) has not come -/
def wpAnyK (P : Program) (ops : Array Oper) (Q : Exit → Act → World → Prop) (k : Nat) (S : World → Prop) : Nat → Array Bool → Act → World → Prop
  | 0, listed, a, w => Region.ready .any ops listed = [] ∧ Q .normal a w
  | fuel + 1, listed, a, w =>
    (Region.ready .any ops listed = [] → Q .normal a w) ∧
    ∀ i ∈ Region.ready .any ops listed, wpOp P ops Q i (fun a' w' => ((listed.setIfInBounds i true).getD k false = false → S w') ∧ wpAnyK P ops Q k S fuel (listed.setIfInBounds i true) a' w') a w
theorem wpAny_of_K {P : Program} {ops : Array Oper} {Q : Exit → Act → World → Prop} {k : Nat} {S : World → Prop} : ∀ (fuel : Nat) (listed : Array Bool) (a : Act) (w : World), wpAnyK P ops Q k S fuel listed a w → wpAny P .any ops Q fuel listed a w
  | 0, _, _, _, h => h
  | fuel + 1, _, _, _, h => ⟨h.1, fun i hi => wpOp_mono (fun a' w' h' => wpAny_of_K fuel _ a' w' h'.2) (h.2 i hi)⟩
def waits (ops : Array Oper) (k i : Nat) : Bool := match ops[k]? with
  | none => true
  | some o => o.after.any fun e => Region.binds .any e && Nat.beq e.on i
theorem wpAnyK_first {P : Program} {ops : Array Oper} {Q : Exit → Act → World → Prop} {k : Nat} {S : World → Prop} {i : Nat} {oi : Oper} {v : Value} (hi : ops[i]? = some oi) (hsel : ∀ (j : Nat) (o : Oper) cs b, ops[j]? = some o → o.op ≠ .select cs b)
    (hQ : ∀ c a w, Q (.panic c) (a.put oi.dst v) w → Q (.panic c) a w) (hk : waits ops k i = true) :
    ∀ (fuel : Nat) (listed : Array Bool) (a : Act) (w : World),
      (∀ j oj, ops[j]? = some oj → j ≠ i → listed.getD j true = false → (∀ e ∈ oj.after, Region.binds .any e = true → e.on ≠ i) → oi.apart ops oj = true) →
      i ∈ Region.ready .any ops listed → listed.getD k false = false → YieldsIf P ops S oi v a → S w →
      wpAnyK P ops Q k S fuel (listed.setIfInBounds i true) (a.put oi.dst v) w → wpAnyK P ops Q k S (fuel + 1) listed a w := by
  intro fuel
  induction fuel with
  | zero =>
    intro listed a w _ hr _ hy hS H
    refine ⟨fun h => (by rw [h] at hr; cases hr), fun j hj => ?_⟩
    by_cases hji : j = i
    · subst hji; exact hy.wpOp hi hS ⟨fun _ => hS, H⟩
    · have := ready_mono hj hji
      rw [H.1] at this
      cases this
  | succ fuel ih =>
    intro listed a w hfree hr hk0 hy hS H
    refine ⟨fun h => (by rw [h] at hr; cases hr), fun j hj => ?_⟩
    by_cases hji : j = i
    · subst hji; exact hy.wpOp hi hS ⟨fun _ => hS, H⟩
    · have h1 := H.2 j (ready_mono hj hji)
      obtain ⟨hjun, oj, hoj, hall⟩ := mem_ready.1 hj
      have hnot : ∀ e ∈ oj.after, Region.binds .any e = true → e.on ≠ i := fun e he hb heq => by
        have h1 := hall e he hb
        have h0 := (mem_ready.1 hr).1
        rw [heq] at h1
        rcases Nat.lt_or_ge i listed.size with h' | h'
        · simp [h'] at h0 h1; rw [h0] at h1; cases h1
        · simp [Array.getElem?_eq_none h'] at h1
      have hjk : j ≠ k := by
        intro e
        subst e
        unfold waits at hk
        rw [hoj] at hk
        simp only [Array.any_eq_true, Bool.and_eq_true] at hk
        obtain ⟨x, hx, hb, he⟩ := hk
        exact hnot _ (Array.getElem_mem hx) hb (Nat.eq_of_beq_eq_true he)
      have h2 := wpOp_putIf hoj (hfree j oj hoj hji hjun hnot) (fun cs b => hsel i oi cs b hi) (fun cs b => hsel j oj cs b hoj) hQ hy h1
      have hfree' : ∀ k ok, ops[k]? = some ok → k ≠ i → (listed.setIfInBounds j true).getD k true = false →
          (∀ e ∈ ok.after, Region.binds .any e = true → e.on ≠ i) → oi.apart ops ok = true := fun k ok hk hki hun hno => by
        refine hfree k ok hk hki ?_ hno
        by_cases hjk : j = k
        · subst hjk; exact hjun
        · rw [getD_set_ne true hjk] at hun; exact hun
      have hki : i ≠ k ∨ i = k := by omega
      have hk1 : (listed.setIfInBounds j true).getD k false = false := by rw [getD_set_ne false hjk]; exact hk0
      refine wpOp_mono (fun a' w' h3 => ?_) h2
      have hSw : S w' := by
        by_cases hik : i = k
        · -- then number k waits for itself: it never comes
          subst hik
          obtain ⟨_, oi', hoi', hall'⟩ := mem_ready.1 hr
          unfold waits at hk
          rw [hi] at hk
          simp only [Array.any_eq_true, Bool.and_eq_true] at hk
          obtain ⟨x, hx, hb, he⟩ := hk
          rw [hi] at hoi'
          cases hoi'
          have h1 := hall' _ (Array.getElem_mem hx) hb
          have h0 := (mem_ready.1 hr).1
          rw [Nat.eq_of_beq_eq_true he] at h1
          exfalso
          rcases Nat.lt_or_ge i listed.size with h' | h'
          · simp [h'] at h0 h1; rw [h0] at h1; cases h1
          · simp [Array.getElem?_eq_none h'] at h1
        · refine h3.2.1 ?_
          rw [getD_set_ne false hjk, getD_set_ne false hik]
          exact hk0
      refine ⟨fun _ => hSw, ih (listed.setIfInBounds j true) a' w' hfree' (ready_mono hr (Ne.symm hji)) hk1 h3.1 hSw ?_⟩
      rw [Array.setIfInBounds_comm _ _ hji]
      exact h3.2.2
theorem wpAnyK_take {P : Program} {ops : Array Oper} {Q : Exit → Act → World → Prop} {k : Nat} {S : World → Prop} {i : Nat} {oi : Oper} {v : Value} {fuel : Nat} {listed : Array Bool} {a : Act} {w : World} (hi : ops[i]? = some oi)
    (hs : Region.noSelect ops = true) (hf : Region.free .any ops listed i = true) (hr : (Region.ready .any ops listed).contains i = true) (hk : waits ops k i = true) (hk0 : listed.getD k false = false)
    (hQ : ∀ c a w, Q (.panic c) (a.put oi.dst v) w → Q (.panic c) a w) (hy : YieldsIf P ops S oi v a) (hS : S w)
    (h : wpAnyK P ops Q k S fuel (listed.setIfInBounds i true) (a.put oi.dst v) w) : wpAnyK P ops Q k S (fuel + 1) listed a w :=
  wpAnyK_first hi (Region.noSelect_spec hs) hQ hk fuel listed a w (Region.free_spec hi hf) (by simpa using hr) hk0 hy hS h

section
variable {P : Program} {E : World} {X : Act → World → Prop} {Q : Exit → Act → World → Prop} {n : Nat} {l : Fr} {L : List Assn} {T : Tab}
  {ops : Array Oper} {d : Tmp} {op : Op} {ty : TypeId} {pos : String} {aft : Array Edge} {fuel : Nat} {listed : Array Bool} {v : Value} {cs : List (Nat × Nat × Value)} {k : Nat}
theorem jc_drawh (k : Nat) (cs : List (Nat × Nat × Value)) {id : Nat} {os : List Oper} (hm : P.follows .mixedOrders = true) (hr : RdC L cs)
    (h : RdC L cs → J E (wpAnyK P os.toArray (NP Q) k (SC cs) os.length (Array.replicate os.length false)) n l L) :
    J E ((Code.region id os.toArray true).wp P Q) n l L := by
  intro a w hf hs
  refine wp_mono (wp_region_any hm (wpAny_of_K (k := k) (S := SC cs) _ _ _ _ ?_)) NP.out
  have := h hr a _ hf (hs.drawn (w.drawn + 1) (Nat.le_succ _))
  simpa using this
def okK (ops : Array Oper) (k : Nat) (listed : Array Bool) (i : Nat) : Bool := okB ops listed i && waits ops k i && !(listed.getD k false)
/-- an operation that is known to hand back 'v' wherever these cells stand -/
def PS (P : Program) (cs : List (Nat × Nat × Value)) (l : Fr) (op : Op) (v : Value) : Prop :=
  ∀ a n dst ty pos aft gd, Fits a n l → ∀ w, SC cs w → (execOp a.eval ⟨dst, op, ty, pos, aft, gd⟩).run P w = .ok (.value v) w
theorem PV.ps (h : PV P l op v) : PS P cs l op v := fun a n dst ty pos aft gd hf w _ => h a n dst ty pos aft gd hf w
theorem ps_load (hT : T.ok P) {t : TypeId} {x : Operand} {b o : Nat} {e : TE} (k : Nat) (hx : ev l x = some (.pointer (some ⟨b, o, none⟩))) (ht : T.find t = some e) (hag : e.td.agg = false) (hm : cs[k]? = some (b, o, v)) :
    PS P cs l (.load t x) v := by
  obtain ⟨hok, rfl⟩ := Tab.find_ok hT ht
  intro a n dst ty pos aft gd hf w hs
  have hc := hs _ (List.mem_of_getElem? hm)
  simp only at hc
  simp [execOp, hf.ev hx, Instr.loadAt, Instr.sureAddr, loadVar, hok.run_isAgg, hag, hc]
theorem ps_load1 (hT : T.ok P) {t : TypeId} {x : Operand} {b o : Nat} {e : TE} (k : Nat) (hx : ev l x = some (.pointer (some ⟨b, o, none⟩))) (ht : T.find t = some e) (hag : e.td.agg = true) (hsz : e.size = 1) (hm : cs[k]? = some (b, o, v)) :
    PS P cs l (.load t x) (.agg #[v]) := by
  obtain ⟨hok, rfl⟩ := Tab.find_ok hT ht
  intro a n dst ty pos aft gd hf w hs
  have hc := hs _ (List.mem_of_getElem? hm)
  simp only at hc
  have h1 := run_loadCells_list (P := P) (w := w) ⟨b, o, none⟩ [v] (fun j u hj => by
    rcases j with _ | j
    · simp at hj; subst hj; rw [addr_add]; exact hc
    · simp at hj)
  simp only [List.length_cons, List.length_nil, Nat.zero_add] at h1
  simp [execOp, hf.ev hx, Instr.loadAt, Instr.sureAddr, loadVar, hok.run_isAgg, hag, hok.run_sizeOf, hsz, h1]
theorem jh_s (i : Nat) (hi : ops[i]? = some ⟨some d, op, ty, pos, aft, none⟩) (hok : okK ops k listed i = true) (hv : PS P cs l op v) (hd : Nat.blt d n = true) (hr : RdC L cs)
    (h : J E (wpAnyK P ops (NP Q) k (SC cs) fuel (listed.setIfInBounds i true)) n ((d, v) :: l) L) : J E (wpAnyK P ops (NP Q) k (SC cs) (fuel + 1) listed) n l L := by
  intro a w hf hs
  simp only [okK, okB, Bool.and_eq_true, Bool.not_eq_true'] at hok
  refine wpAnyK_take hi hok.1.1.1.1 hok.1.1.1.2 hok.1.1.2 hok.1.2 hok.2 (fun c a w hh => hh.elim) (.inl ⟨by simp [Region.wanted], fun w hw => hv a n _ _ _ _ _ hf w hw⟩) (hr.sat hs) ?_
  exact h _ w (hf.put (Nat.le_of_ble_eq_true hd) _) hs
theorem jh_sg (i : Nat) {g : Nat × Bool} (hi : ops[i]? = some ⟨some d, op, ty, pos, aft, some g⟩) (hok : okK ops k listed i = true) (hg : gv ops l g = some true) (hv : PS P cs l op v) (hd : Nat.blt d n = true) (hr : RdC L cs)
    (h : J E (wpAnyK P ops (NP Q) k (SC cs) fuel (listed.setIfInBounds i true)) n ((d, v) :: l) L) : J E (wpAnyK P ops (NP Q) k (SC cs) (fuel + 1) listed) n l L := by
  intro a w hf hs
  simp only [okK, okB, Bool.and_eq_true, Bool.not_eq_true'] at hok
  refine wpAnyK_take hi hok.1.1.1.1 hok.1.1.1.2 hok.1.1.2 hok.1.2 hok.2 (fun c a w hh => hh.elim) (.inl ⟨gv_sound hf rfl hg, fun w hw => hv a n _ _ _ _ _ hf w hw⟩) (hr.sat hs) ?_
  exact h _ w (hf.put (Nat.le_of_ble_eq_true hd) _) hs
theorem jh_skip (i : Nat) {g : Nat × Bool} (hi : ops[i]? = some ⟨some d, op, ty, pos, aft, some g⟩) (hok : okK ops k listed i = true) (hg : gv ops l g = some false) (hd : Nat.blt d n = true) (hr : RdC L cs)
    (h : J E (wpAnyK P ops (NP Q) k (SC cs) fuel (listed.setIfInBounds i true)) n ((d, undef) :: l) L) : J E (wpAnyK P ops (NP Q) k (SC cs) (fuel + 1) listed) n l L := by
  intro a w hf hs
  simp only [okK, okB, Bool.and_eq_true, Bool.not_eq_true'] at hok
  refine wpAnyK_take hi hok.1.1.1.1 hok.1.1.1.2 hok.1.1.2 hok.1.2 hok.2 (fun c a w hh => hh.elim) (.inr ⟨gv_sound hf rfl hg, rfl⟩) (hr.sat hs) ?_
  exact h _ w (hf.put (Nat.le_of_ble_eq_true hd) _) hs
theorem jh_pure (hT : T.ok P) (i : Nat) (hi : ops[i]? = some ⟨some d, op, ty, pos, aft, none⟩) (hok : okK ops k listed i = true) (hv : pureV T (ev l) op = some v) (hd : Nat.blt d n = true) (hr : RdC L cs)
    (h : J E (wpAnyK P ops (NP Q) k (SC cs) fuel (listed.setIfInBounds i true)) n ((d, v) :: l) L) : J E (wpAnyK P ops (NP Q) k (SC cs) (fuel + 1) listed) n l L :=
  jh_s i hi hok (pv_pure hT hv).ps hd hr h
theorem jh_pureg (hT : T.ok P) (i : Nat) {g : Nat × Bool} (hi : ops[i]? = some ⟨some d, op, ty, pos, aft, some g⟩) (hok : okK ops k listed i = true) (hg : gv ops l g = some true) (hv : pureV T (ev l) op = some v) (hd : Nat.blt d n = true) (hr : RdC L cs)
    (h : J E (wpAnyK P ops (NP Q) k (SC cs) fuel (listed.setIfInBounds i true)) n ((d, v) :: l) L) : J E (wpAnyK P ops (NP Q) k (SC cs) (fuel + 1) listed) n l L :=
  jh_sg i hi hok hg (pv_pure hT hv).ps hd hr h
theorem jh_back {p : Prop} (hr : RdC L cs) (h : RdC L cs → J E X n l L) : J E (fun a w => (p → SC cs w) ∧ X a w) n l L :=
  fun a w hf hs => ⟨fun _ => hr.sat hs, h hr a w hf hs⟩
theorem jh_last {b : Bool} (hp : b = true) (h : J E X n l L) : J E (fun a w => (b = false → SC cs w) ∧ X a w) n l L :=
  fun a w hf hs => ⟨fun hh => absurd (hp.symm.trans hh) (by decide), h a w hf hs⟩
theorem jh_all {rs : List Nat} (hr : Region.ready .any ops listed = rs) (hne : rs.isEmpty = false)
    (h : ∀ i ∈ rs, ∃ o, ops[i]? = some o ∧ J E (wpO P ops (NP Q) o (fun a w => ((listed.setIfInBounds i true).getD k false = false → SC cs w) ∧ wpAnyK P ops (NP Q) k (SC cs) fuel (listed.setIfInBounds i true) a w)) n l L) : J E (wpAnyK P ops (NP Q) k (SC cs) (fuel + 1) listed) n l L := by
  intro a w hf hs
  refine And.intro (fun h0 => absurd hne (by rw [hr] at h0; rw [h0]; simp)) (fun i hi => ?_)
  rw [hr] at hi
  obtain ⟨o, ho, hJ⟩ := h i hi
  have := hJ a w hf hs
  unfold wpO at this
  unfold wpOp
  simp only [ho]
  exact this
theorem jh_one (i : Nat) {o : Oper} (hi : ops[i]? = some o) (hr : Region.ready .any ops listed = [i])
    (h : J E (wpO P ops (NP Q) o (fun a w => ((listed.setIfInBounds i true).getD k false = false → SC cs w) ∧ wpAnyK P ops (NP Q) k (SC cs) fuel (listed.setIfInBounds i true) a w)) n l L) : J E (wpAnyK P ops (NP Q) k (SC cs) (fuel + 1) listed) n l L :=
  jh_all hr rfl fun j hj => by
    simp at hj
    subst hj
    exact ⟨o, hi, h⟩
theorem jh_two (i j : Nat) {o p : Oper} (hi : ops[i]? = some o) (hj : ops[j]? = some p) (hr : Region.ready .any ops listed = [i, j])
    (h1 : J E (wpO P ops (NP Q) o (fun a w => ((listed.setIfInBounds i true).getD k false = false → SC cs w) ∧ wpAnyK P ops (NP Q) k (SC cs) fuel (listed.setIfInBounds i true) a w)) n l L)
    (h2 : J E (wpO P ops (NP Q) p (fun a w => ((listed.setIfInBounds j true).getD k false = false → SC cs w) ∧ wpAnyK P ops (NP Q) k (SC cs) fuel (listed.setIfInBounds j true) a w)) n l L) : J E (wpAnyK P ops (NP Q) k (SC cs) (fuel + 1) listed) n l L :=
  jh_all hr rfl fun k hk => by
    simp at hk
    rcases hk with rfl | rfl
    · exact ⟨o, hi, h1⟩
    · exact ⟨p, hj, h2⟩
theorem jh_done (hr : Region.ready .any ops listed = []) (h : J E (Q .normal) n l L) : J E (wpAnyK P ops (NP Q) k (SC cs) fuel listed) n l L :=
  fun a w hf hs => by
  have hn : NP Q .normal a w := h a w hf hs
  cases fuel with
  | zero => exact ⟨hr, hn⟩
  | succ fuel => exact ⟨fun _ => hn, fun i hi => by rw [hr] at hi; cases hi⟩
end
end Go.Proofs.Ytiikdofbaoidcaa.Hd
namespace Go.Proofs.Ytiikdofbaoidcaa.Hd
open Go
section
variable {P : Program} {E : World} {Q : Exit → Act → World → Prop} {n : Nat} {l : Fr} {L : List Assn} {T : Tab}
  {ops : Array Oper} {K : Act → World → Prop} {d : Tmp} {ty : TypeId} {pos : String} {aft : Array Edge}
/-- a result that lies in a cell: a struct -/
theorem j_retc {fn : Func} {O : Value → List Assn → Prop} {F B : List Assn} {t b o : Nat} {ty : TypeId} {e : TE} {vs : List Value} (hT : T.ok P) (is ds : List Nat) (hr : fn.results.toList = [.cell t ty])
    (hx : lk t l = some (.pointer (some ⟨b, o, none⟩))) (ht : T.find ty = some e) (hag : e.td.agg = true) (hn : vs.length = e.size) (hrd : Rd L b o vs) (hO : O (.agg vs.toArray) B)
    (hA : sel is (rem ds L) = B ∧ rem is (rem ds L) = F) : J E (bodyPost P fn (ends E O F) .ret) n l L := by
  obtain ⟨hok, rfl⟩ := Tab.find_ok hT ht
  unfold J
  intro a w hf hs
  have hres : (results fn a.tmps).run P w = .ok (.agg vs.toArray) w := by
    have e1 : fn.results = #[.cell t e.t] := Array.ext' hr
    have hc := run_loadCells_list (P := P) (w := w) ⟨b, o, none⟩ vs (fun j v hj => by rw [addr_add]; exact hrd E w hs j v hj)
    rw [hn] at hc
    have hg := hf.get _ _ hx
    have hlv : (loadVar e.t ⟨b, o, none⟩).run P w = .ok (.agg vs.toArray) w := by
      simp [loadVar, hok.run_isAgg, hag, hok.run_sizeOf, hc]
    unfold results
    rw [e1]
    simp only [Array.mapM_eq_mapM_toList, List.mapM_cons, List.mapM_nil, hg]
    simp [asAddr, hlv]
  refine ⟨hf.defers, _, hres, _, B, hO, rfl, ?_⟩
  have h1 := ((hs.sel ds).imp (star_drops _ _)).sel is
  rw [hA.1, hA.2] at h1
  exact h1

/-- a struct of one cell is stored -/
theorem jo_store1 (hT : T.ok P) {t tb : TypeId} {x y : Operand} {b o : Nat} {e : TE} {v : Value} {xs : List Value} (i : Nat) {M : List Assn} (hx : ev l x = some (.pointer (some ⟨b, o, none⟩))) (hy : ev l y = some (.agg #[v])) (ht : T.find t = some e) (hag : e.size = 1)
    (hv : one v = true) (hL : sel [i] L = [cl b xs tb] ∧ rem [i] L = M) (ho : o < xs.length) (h : J E K n l (cl b (xs.set o v) tb :: M)) : J E (wpO P ops Q ⟨none, .store t x y, ty, pos, aft, none⟩ K) n l L := by
  obtain ⟨hok, rfl⟩ := Tab.find_ok hT ht
  unfold J at h ⊢
  intro a w hf hs
  have hs1 := hs.sel [i]
  rw [hL.1, hL.2] at hs1
  have hb := Sat.block (o := .cells xs.toArray tb (0, 0)) hs1
  have hc : w.cell? ⟨b, o, none⟩ = some xs[o] := by rw [cell_block hb]; simp [ho]
  have hfz : w.frozen? ⟨b, o, none⟩ = false := by simp [World.frozen?, hb]
  have hvs : (Value.agg #[v]).cells = #[v] := rfl
  unfold wpO
  rw [if_pos (by simp [Region.wanted])]
  refine .inl ?_
  have hrun : (execOp a.eval ⟨none, .store e.t x y, ty, pos, aft, none⟩).run P w = .ok .skip (w.setCell ⟨b, o, none⟩ v) := by
    have hst : (storeVar e.t ⟨b, o, none⟩ (.agg #[v])).run P w = .ok () (w.setCell ⟨b, o, none⟩ v) := by
      simp only [storeVar, hvs, Sem.run_bind, hok.run_sizeOf, Result.andThen_ok, hag]
      cases v <;> first | (cases hv; done) | simp [storeCells, store, Sem.run, hc, hfz, addr_add]
    simp [execOp, hf.ev hx, hf.ev hy, Instr.storeAt, Instr.sureAddr, hst]
  unfold Oper.wp
  rw [hrun]
  exact h a _ hf (sat_store hs1 o v)
end
theorem Ro.star {A B : Assn} {size : Nat} {v : Value} {xs : List Value} (h : Ro A size v xs) : Ro (Hd.star [B, A]) size v xs := by
  obtain ⟨base, len, cap, hv, hl, hm, hor⟩ := h
  refine ⟨base, len, cap, hv, hl, hm, ?_⟩
  rcases hor with h0 | ⟨b, o, hb, hr⟩
  · exact .inl h0
  · refine .inr ⟨b, o, hb, fun L E w hs => ?_⟩
    have h1 := hs.imp (fun m hm => star_open (M := [B, A]) (L := L) hm)
    exact (Rd.there (A := B) (hr L)) E w h1
theorem Ro.star1 {A B : Assn} {size : Nat} {v : Value} {xs : List Value} (h : Ro A size v xs) : Ro (Hd.star [A, B]) size v xs := by
  obtain ⟨base, len, cap, hv, hl, hm, hor⟩ := h
  refine ⟨base, len, cap, hv, hl, hm, ?_⟩
  rcases hor with h0 | ⟨b, o, hb, hr⟩
  · exact .inl h0
  · refine .inr ⟨b, o, hb, fun L E w hs => ?_⟩
    have h1 := hs.imp (fun m hm => star_open (M := [A, B]) (L := L) hm)
    exact hr (B :: L) E w h1
end Go.Proofs.Ytiikdofbaoidcaa.Hd
namespace Go.Proofs.Ytiikdofbaoidcaa.Hd
open Go
section
variable {P : Program} {E : World} {Q : Exit → Act → World → Prop} {K : Act → World → Prop} {n : Nat} {l : Fr} {L : List Assn} {T : Tab}
  {ops : Array Oper} {d : Tmp} {ty : TypeId} {pos : String} {aft : Array Edge}
/-- a whole block is stored -/
theorem jo_store_agg (hT : T.ok P) {t tb : TypeId} {x y : Operand} {b : Nat} {e : TE} {vs xs : List Value} (i : Nat) {M : List Assn} (hx : ev l x = some (.pointer (some ⟨b, 0, none⟩))) (hy : ev l y = some (.agg vs.toArray)) (ht : T.find t = some e) (hn : vs.length = e.size)
    (h1 : ∀ u ∈ vs, one u = true) (hL : sel [i] L = [cl b xs tb] ∧ rem [i] L = M) (ho : vs.length = xs.length) (h : J E K n l (cl b vs tb :: M)) : J E (wpO P ops Q ⟨none, .store t x y, ty, pos, aft, none⟩ K) n l L := by
  obtain ⟨hok, rfl⟩ := Tab.find_ok hT ht
  unfold J at h ⊢
  intro a w hf hs
  have hs1 := hs.sel [i]
  rw [hL.1, hL.2] at hs1
  have hb := Sat.block (o := .cells xs.toArray tb (0, 0)) hs1
  have h1' : ∀ u ∈ vs, u.oneCell' = true := by
    intro u hu'
    have := h1 u hu'
    cases u <;> first | rfl | (cases this; done)
  have hst := run_storeCells_at (P := P) b 0 tb vs 0 xs.toArray w hb (by simp; omega) h1'
  have e1 : (xs.toArray.toList.take (0 + 0) ++ vs ++ xs.toArray.toList.drop (0 + 0 + vs.length)) = vs := by
    simp [ho]
  rw [e1] at hst
  unfold wpO
  rw [if_pos (by simp [Region.wanted])]
  refine .inl ?_
  have hrun : (execOp a.eval ⟨none, .store e.t x y, ty, pos, aft, none⟩).run P w = .ok .skip (w.setRow b vs.toArray) := by
    have hst2 : (storeVar e.t ⟨b, 0, none⟩ (.agg vs.toArray)).run P w = .ok () (w.setRow b vs.toArray) := by
      have hc : (Value.agg vs.toArray).cells = vs.toArray := rfl
      simp only [storeVar, hc, Sem.run_bind, hok.run_sizeOf, Result.andThen_ok]
      rw [if_neg (by simp [hn])]
      simpa using hst
    simp [execOp, hf.ev hx, hf.ev hy, Instr.storeAt, Instr.sureAddr, hst2]
  unfold Oper.wp
  rw [hrun]
  refine h a _ hf ?_
  exact Sat.put (o := .cells xs.toArray tb (0, 0)) (o' := .cells vs.toArray tb (0, 0)) hs1 rfl rfl rfl (setRow_heap w b _ _ tb _ hb) (fun k hk => setRow_other w b k _ hk)
end
end Go.Proofs.Ytiikdofbaoidcaa.Hd
namespace Go.Proofs.Ytiikdofbaoidcaa.Hd
open Go
/-! ## the list of atoms, told plainly -/
def nm : List Assn → Option (List Assn)
  | [] => some []
  | A :: L => match nm L with
    | some L' => some (A :: L')
    | none => none
theorem nm_eq : ∀ {L L' : List Assn}, nm L = some L' → L = L'
  | [], L', h => by cases h; rfl
  | A :: L, L', h => by
    simp only [nm] at h
    cases h1 : nm L with
    | none => rw [h1] at h; cases h
    | some L2 => rw [h1] at h; cases h; rw [nm_eq h1]
theorem j_nm {E : World} {X : Act → World → Prop} {n : Nat} {l : Fr} {L L' : List Assn} (h : nm L = some L') (hj : J E X n l L') : J E X n l L := by rw [nm_eq h]; exact hj
theorem j_eq {E : World} {X : Act → World → Prop} {n : Nat} {l : Fr} {L L' : List Assn} (h : L = L') (hj : J E X n l L') : J E X n l L := by rw [h]; exact hj
/-- the caller's own atoms as one -/
theorem tri_introX {P : Program} {f : FuncId} {fn : Func} {c : Code} {vs : List Value} {pre : List Assn} {O : Value → List Assn → Prop} {N : Nat} (hf : P.funcs[f]? = some fn) (hb : fn.body = some c) (hN : fn.ntmps = N)
    (hn : Nat.ble vs.length N = true) (h : ∀ E X, J E (c.wp P (bodyPost P fn (ends E O [X]))) N (efr 0 vs) (pre ++ [X])) : Tri P f vs pre O := by
  have h1 : ∀ X, ∀ E w, Sat E w (star (pre ++ [X])) → Calls P f vs.toArray w fun e w' => ∃ v B, O v B ∧ e = .returned v ∧ Sat E w' (star (B ++ [X])) := by
    intro X E w hs
    subst hN
    refine calls_of_wp hf hb (h E X _ w ⟨?_, rfl, ?_⟩ hs)
    · have := Nat.le_of_ble_eq_true hn; simp; omega
    · intro d v hd
      obtain ⟨_, h2⟩ := efr_get vs 0 d v hd
      simp only [Nat.sub_zero] at h2
      have : d < vs.length := (List.getElem?_eq_some_iff.1 h2).1
      simp only [Array.getD_eq_getD_getElem?]
      rw [Array.getElem?_append_left (by simpa using this)]
      simp [h2]
  intro E F w hs
  have hs1 : Sat E w (star (pre ++ [star F])) := by
    have h2 : Sat E w (star (F ++ pre)) := hs.perm List.perm_append_comm
    have h3 := h2.imp (fun m hm => star_close (M := F) (L := pre) hm)
    exact h3.perm (List.perm_append_comm (l₁ := [star F]) (l₂ := pre))
  refine (h1 (star F) E w hs1).mono ?_
  rintro e w' ⟨v, B, hO, he, hs2⟩
  refine ⟨v, B, hO, he, ?_⟩
  have h2 : Sat E w' (star (star F :: B)) := hs2.perm (List.perm_append_comm (l₁ := B) (l₂ := [star F]))
  have h3 := h2.imp (fun m hm => star_open (M := F) (L := B) hm)
  exact h3.perm List.perm_append_comm
/-! ## a contract told in other words -/
theorem tri_wrap {P : Program} {f : FuncId} {vs : List Value} {pre : List Assn} {O : Value → List Assn → Prop} (h : ∀ E X, J E (fun _ w => Calls P f vs.toArray w (ends E O [X])) 0 [] (pre ++ [X])) : Tri P f vs pre O := by
  intro E F w hs
  have hs1 : Sat E w (star (pre ++ [star F])) := by
    have h2 : Sat E w (star (F ++ pre)) := hs.perm List.perm_append_comm
    have h3 := h2.imp (fun m hm => star_close (M := F) (L := pre) hm)
    exact h3.perm (List.perm_append_comm (l₁ := [star F]) (l₂ := pre))
  refine (h E (star F) ⟨#[], []⟩ w ⟨rfl, rfl, fun d v h => by cases h⟩ hs1).mono ?_
  rintro e w' ⟨v, B, hO, he, hs2⟩
  refine ⟨v, B, hO, he, ?_⟩
  have h2 : Sat E w' (star (star F :: B)) := hs2.perm (List.perm_append_comm (l₁ := B) (l₂ := [star F]))
  have h3 := h2.imp (fun m hm => star_open (M := F) (L := B) hm)
  exact h3.perm List.perm_append_comm
def WEnd (E : World) (O : Value → List Assn → Prop) (F : List Assn) (v : Value) : Act → World → Prop := fun _ w => ∃ B2, O v B2 ∧ Sat E w (star (B2 ++ F))
theorem j_wrapped {P : Program} {E : World} {f : FuncId} {vs : List Value} {pre F L F' : List Assn} {O O' : Value → List Assn → Prop} {n : Nat} {l : Fr} (is : List Nat) (ht : Tri P f vs pre O') (hL : sel is L = pre ∧ rem is L = F')
    (h : ∀ v B, O' v B → J E (WEnd E O F v) n l (B ++ F')) : J E (fun _ w => Calls P f vs.toArray w (ends E O F)) n l L := by
  intro a w hf hs
  have hs1 := hs.sel is
  rw [hL.1, hL.2] at hs1
  refine (ht E F' w hs1).mono ?_
  rintro e w' ⟨v, B, hO, he, hs2⟩
  obtain ⟨B2, hO2, hs3⟩ := h v B hO a w' hf hs2
  exact ⟨v, B2, hO2, he, hs3⟩
theorem j_fin {E : World} {O : Value → List Assn → Prop} {v : Value} {L B F : List Assn} {n : Nat} {l : Fr} (is ds : List Nat) (hO : O v B) (hA : sel is (rem ds L) = B ∧ rem is (rem ds L) = F) :
    J E (WEnd E O F v) n l L := fun a w _ hs => by
  have h1 := ((hs.sel ds).imp (star_drops _ _)).sel is
  rw [hA.1, hA.2] at h1
  exact ⟨B, hO, h1⟩
end Go.Proofs.Ytiikdofbaoidcaa.Hd
namespace Go.Proofs.Ytiikdofbaoidcaa.Hd
open Go
theorem addr_add0 (a : Addr) : a.add 0 = a := by unfold Addr.add; simp
section
variable {P : Program} {l : Fr} {T : Tab}
/-- xs[:k] -/
theorem pv_slice_to (hT : T.ok P) {t t' : TypeId} {x y : Operand} {e e' : TE} {a : Option Addr} {len cap : Nat} {i : Int} (k : Nat) (hx : ev l x = some (.slice a len cap)) (hy : ev l y = some (.int .i64 i))
    (ht : T.find t = some e) (htd : e.td = .slice t') (he : T.find t' = some e') (hi : i = (k : Int)) (hk : k ≤ cap) : PV P l (.slice t x none (some y) none) (.slice a k cap) := by
  obtain ⟨hok, rfl⟩ := Tab.find_ok hT ht
  obtain ⟨hok', rfl⟩ := Tab.find_ok hT he
  subst hi
  intro a' n dst ty pos aft gd hf w
  have hu := hok.slice htd
  have hs := hok'.run_sizeOf w
  have h0 : (0 : Int) ≤ (k : Int) ∧ (k : Int) ≤ (cap : Int) := by omega
  have hm : a.map (fun x => x.add 0) = a := by cases a <;> simp [addr_add0]
  simp [execOp, hf.ev hx, hf.ev hy, Instr.sliceAt, Instr.slice, run_underlying hu, Instr.sliceBounds, Instr.sliceBound, asIntOf, h0, hs, hm]
  intro hh; omega
/-- xs[k:] -/
theorem pv_slice_from (hT : T.ok P) {t t' : TypeId} {x y : Operand} {e e' : TE} {a : Option Addr} {len cap : Nat} {i : Int} (k : Nat) (hx : ev l x = some (.slice a len cap)) (hy : ev l y = some (.int .i64 i))
    (ht : T.find t = some e) (htd : e.td = .slice t') (he : T.find t' = some e') (hi : i = (k : Int)) (hk : k ≤ len) :
    PV P l (.slice t x (some y) none none) (.slice (if cap = k then a else a.map fun x => x.add (k * e'.size)) (len - k) (cap - k)) := by
  obtain ⟨hok, rfl⟩ := Tab.find_ok hT ht
  obtain ⟨hok', rfl⟩ := Tab.find_ok hT he
  subst hi
  intro a' n dst ty pos aft gd hf w
  have hu := hok.slice htd
  have hs := hok'.run_sizeOf w
  have h0 : (0 : Int) ≤ (k : Int) ∧ (k : Int) ≤ (len : Int) := by omega
  simp [execOp, hf.ev hx, hf.ev hy, Instr.sliceAt, Instr.slice, run_underlying hu, Instr.sliceBounds, Instr.sliceBound, asIntOf, h0, hs]
  intro hh; omega
end
theorem Rd.pre {L : List Assn} {b o : Nat} {vs : List Value} (h : Rd L b o vs) (k : Nat) : Rd L b o (vs.take k) := fun E w hs j u hu => by
  rw [List.getElem?_take] at hu
  split at hu
  · exact h E w hs j u hu
  · cases hu
theorem Ro.to {A : Assn} {size : Nat} {a : Option Addr} {len cap k : Nat} {xs : List Value} (h : Ro A size (.slice a len cap) xs) (hk : k ≤ len) : Ro A size (.slice a k cap) (xs.take (k * size)) := by
  obtain ⟨_, _, _, e, hl, hm, hor⟩ := h
  cases e
  refine ⟨a, k, cap, rfl, ?_, by omega, ?_⟩
  · rw [List.length_take, hl]
    have : k * size ≤ len * size := Nat.mul_le_mul_right _ hk
    omega
  · by_cases hk0 : k = 0
    · exact .inl hk0
    · obtain ⟨b, o, hb, hr⟩ := hor.resolve_left (by omega)
      exact .inr ⟨b, o, hb, fun L => (hr L).pre _⟩
theorem Ro.from {A : Assn} {size : Nat} {a : Option Addr} {len cap k : Nat} {xs : List Value} (h : Ro A size (.slice a len cap) xs) (hk : k ≤ len) (hc : len ≤ cap) :
    Ro A size (.slice (if cap = k then a else a.map fun x => x.add (k * size)) (len - k) (cap - k)) (xs.drop (k * size)) := by
  obtain ⟨_, _, _, e, hl, hm, hor⟩ := h
  cases e
  refine ⟨_, _, _, rfl, ?_, by omega, ?_⟩
  · rw [List.length_drop, hl, Nat.sub_mul]
  · by_cases hk0 : len - k = 0
    · exact .inl hk0
    · obtain ⟨b, o, hb, hr⟩ := hor.resolve_left (by omega)
      refine .inr ⟨b, o + k * size, ?_, fun L => (hr L).sub _ fun j u hu => ?_⟩
      · rw [if_neg (by omega), hb]
        simp [addr_add]
      · rw [List.getElem?_drop] at hu
        exact hu
theorem j_sl_cap {E : World} {X : Act → World → Prop} {n : Nat} {l : Fr} {L : List Assn} {t : TypeId} {size : Nat} {b : Option Addr} {len cap : Nat} {xs : List Value}
    (h : len ≤ cap → J E X n l (sl t size (.slice b len cap) xs :: L)) : J E X n l (sl t size (.slice b len cap) xs :: L) := by
  unfold J at h ⊢
  intro a w hf hs
  obtain ⟨f, g, hsp, ⟨base, len', cap', hv, hlen, hlc, _⟩, hL⟩ := hs.heap
  cases hv
  exact h hlc a w hf hs
end Go.Proofs.Ytiikdofbaoidcaa.Hd
namespace Go.Proofs.Ytiikdofbaoidcaa.Hd
attribute [irreducible] wpO J
end Go.Proofs.Ytiikdofbaoidcaa.Hd
