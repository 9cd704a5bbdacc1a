import Derived.Test.YtiikdofbaoidcaaHp
namespace Go.Proofs.Ytiikdofbaoidcaa.Hp
open Go
theorem ro_old {w : World} {a : Option Addr} {len cap size : Nat} {xs : List Value} (hx : xs.length = len * size) (hm : len ≤ maxLen) (hs : 0 < size) (h : len = 0 ∨ ∃ x, a = some x ∧ ∀ i u, xs[i]? = some u → w.cell? (x.add i) = some u) :
    Ro (old w.heap) size (.slice a len cap) xs := by
  refine ⟨a, len, cap, rfl, hx, hm, ?_⟩
  rcases h with h | ⟨x, rfl, hc⟩
  · exact .inl h
  · by_cases h0 : len = 0
    · exact .inl h0
    · have hpos : 0 < xs.length := by rw [hx]; exact Nat.mul_pos (by omega) hs
      have h1 := hc 0 xs[0] (by simp [hpos])
      have hsp : x.spot = none := by
        simp only [Addr.add, if_true, World.cell?] at h1
        split at h1
        · split at h1
          · cases h1
          · rename_i hn; simpa using hn
        · cases h1
      obtain ⟨b, o, sp⟩ := x
      simp only at hsp
      subst hsp
      refine .inr ⟨b, o, rfl, fun L => Rd.old fun j u hj => ?_⟩
      have := hc j u hj
      rwa [addr_add] at this
theorem tri_below {P : Program} {f : FuncId} {vs : List Value} {w : World} {r : Value} (h : Tri P f vs [old w.heap] fun v B => v = r ∧ B = [old w.heap]) :
    Calls P f vs.toArray w fun e w' => e = .returned r ∧ RowKit.Below w.heap.size w w' := by
  have hs : Sat w w (star ([old w.heap] ++ [])) := ⟨rfl, rfl, rfl, fun b => w.heap[b]?, fun _ => none, fun b => .inl ⟨rfl, rfl⟩, fun b _ => rfl, trivial⟩
  refine (h w [] w hs).mono ?_
  rintro e w' ⟨v, B, ⟨rfl, rfl⟩, he, hs'⟩
  refine ⟨he, hs'.os, hs'.tape, hs'.output, ?_, ?_⟩
  · obtain ⟨f, g, hsp, hA, _⟩ := hs'.heap
    rcases Nat.eq_zero_or_pos w.heap.size with h0 | h0
    · omega
    · have hk : w.heap.size - 1 < w.heap.size := by omega
      have h1 := hA (w.heap.size - 1) hk
      rw [Array.getElem?_eq_getElem hk] at h1
      have h2 := hsp.left h1
      have := (Array.getElem?_eq_some_iff.1 h2).1
      omega
  · intro k hk
    obtain ⟨f, g, hsp, hA, _⟩ := hs'.heap
    have h1 := hA k hk
    rw [Array.getElem?_eq_getElem hk] at h1 ⊢
    exact hsp.left h1
theorem ro_ints {w : World} {a : Option Addr} {len cap : Nat} {zs : List Int} (h : (a = none ∧ len = 0 ∧ cap = 0 ∧ zs = []) ∨
    ∃ x, a = some x ∧ len ≤ cap ∧ cap ≤ maxLen ∧ zs.length = cap ∧ (∀ i, i < zs.length → w.cell? (x.add i) = some (.int .i64 (zs.getD i 0))) ∧ ∀ n ∈ zs, (Lit.int .i64 n).wf = true) :
    Ro (old w.heap) 1 (.slice a len cap) ((zs.take len).map (Value.int .i64)) := by
  rcases h with ⟨rfl, rfl, rfl, rfl⟩ | ⟨x, rfl, h1, h2, h3, h4, _⟩
  · exact ⟨none, 0, 0, rfl, by simp, by simp [maxLen], .inl rfl⟩
  · refine ro_old (by simp; omega) (Nat.le_trans h1 h2) (by decide) (.inr ⟨x, rfl, fun i u hi => ?_⟩)
    rw [List.getElem?_map, Option.map_eq_some_iff] at hi
    obtain ⟨z, hz, rfl⟩ := hi
    rw [List.getElem?_take] at hz
    split at hz
    · have hl : i < zs.length := (List.getElem?_eq_some_iff.1 hz).1
      rw [h4 i hl]
      rw [List.getElem?_eq_getElem hl] at hz
      cases hz
      simp [hl]
    · cases hz
end Go.Proofs.Ytiikdofbaoidcaa.Hp
namespace Go.Proofs.Ytiikdofbaoidcaa.Hp
open Go
theorem pv_assert {P : Program} {l : Fr} {x : Operand} {u v : Value} {t t' : TypeId} {ok : Bool} (hx : ev l x = some u) (h : ∀ w, (Instr.typeAssert u t t' ok).run P w = .ok v w) : PV P l (.typeAssert x t t' ok) v := by
  intro a n dst ty pos aft gd hf w
  simp [execOp, hf.ev hx, h]
theorem pv_callv {P : Program} {l : Fr} {f : FuncId} {args : Array Operand} {ats : Array TypeId} {vs : List Value} {v : Value} (ha : evs l args.toList = some vs) (h : ∀ w, (callFunc f vs.toArray).run P w = .ok (.value v) w) :
    PV P l (.call { callee := .value (.func f), args := args, argTypes := ats }) v := by
  intro a n dst ty pos aft gd hf w
  have hvs : args.map a.eval = vs.toArray := by
    apply Array.ext'
    rw [Array.toList_map, hf.evs ha]
  have hfo : a.eval (.func f) = .func (.func f) #[] #[] := rfl
  simp only [execOp, resolve, Deferred.ofValue, hfo, hvs, Sem.run_bind, Sem.run_pure, Result.andThen_ok, invoke, Array.append_empty, Array.empty_append, h]
theorem pv_invoke {P : Program} {l : Fr} {r : Operand} {m : String} {args : Array Operand} {ats : Array TypeId} {u v : Value} {vs : List Value} (hr : ev l r = some u) (ha : evs l args.toList = some vs) (h : ∀ w, (callMethod u m vs.toArray).run P w = .ok (.value v) w) :
    PV P l (.call { callee := .invoke r m, args := args, argTypes := ats }) v := by
  intro a n dst ty pos aft gd hf w
  have hvs : args.map a.eval = vs.toArray := by
    apply Array.ext'
    rw [Array.toList_map, hf.evs ha]
  have e : (#[u] ++ vs.toArray).extract 1 (#[u] ++ vs.toArray).size = vs.toArray := by
    apply Array.ext'
    simp
  have e0 : (#[u] ++ vs.toArray)[0]? = some u := by simp
  simp only [execOp, resolve, hf.ev hr, hvs, Sem.run_bind, Sem.run_pure, Result.andThen_ok, invoke, e0, e, h]
end Go.Proofs.Ytiikdofbaoidcaa.Hp
