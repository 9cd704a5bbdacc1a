/-
  No cell of these rows narrows 'for every input' (looked for: loops, veiled, ifaces, maps, wideKeys, modest, calm, conditions, laid).
  DERIVED. THE GIVEN ROWS OF THIS SEAT. 5 by the template 'for every input the law returns true; each argument reads behind the call as it read before'; 0 by the template 'total and deterministic' (their statements: YtiikdofbaoidcaaTotals.lean).
  GIVEN WITH THE SEED: the statements are not yours to turn. If you find one false, say at which input.
  Laid BY PROGRAM, IN A SANDBOX (cutbox-rows.mjs): the forced cells as the released guide's own fill.sh prints them over the translation e6a8c016f8518014… (all of the seat's roots in one cut). By AI agents, Wed Nov 11 2026. No macro, syntax, notation, axiom, sorry.
-/
import Derived.Test.YtiikdofbaoidcaaChecked
import GoSem.Claim
import GoSem.ClaimJoined
import GoSem.ClaimMapViews
import Derived.JoinedTies
import Derived.KernelRfl
namespace Go.Proofs.Ytiikdofbaoidcaa
/- THE CELL 'sum', in the pinned program and in every row, IS THE sha256 OF THE DUMP (.gsa) THAT YtiikdofbaoidcaaProg.lean LOADS. Nothing in Lean hashes anything: it is a label: what it is worth is what the hold of that sum in a sandbox is worth. -/
noncomputable def Try.pinned : Pinned := { name := "ytiikdofbaoidcaa", sum := "e6a8c016f8518014d6dc78f612d2da31d05f77980bc960ae9addc8894198d783", checked := Try.checked }
namespace Rows
def none {H : Type} : Left H := { results := [], args := [] }

/-- 'portagelaw09.RefsMoves': WHATEVER THE INPUT: true; the input reads as it did. -/
def refsMovesSpec : ChangeSpec := { name := "refsMoves", fn := fun _ => fun
  | [d1, d2, d3] => { results := [.lit (.bool true)], args := [d1, d2, d3] }
  | _ => none }
def refsMovesRow : OpenClaim := { program := "ytiikdofbaoidcaa", sum := "e6a8c016f8518014d6dc78f612d2da31d05f77980bc960ae9addc8894198d783", func := "portage/portagelaw09.RefsMoves", spec := "refsMoves", unfollowed := true, recurses := true, plainKeys := false, apart := false }
def RefsMovesSaid : Prop := refsMovesRow.holds Try.pinned (OpenSpec.ofChange refsMovesSpec)

/-- ITS FALSE NEIGHBOUR: 'it returns false'. Refute it at one input. -/
def refsMovesWrong : ChangeSpec := { name := "refsMoves", fn := fun _ => fun
  | [d1, d2, d3] => { results := [.lit (.bool false)], args := [d1, d2, d3] }
  | _ => none }
def RefsMovesWrongFalsely : Prop := refsMovesRow.holds Try.pinned (OpenSpec.ofChange refsMovesWrong)

/-- 'portagelaw09.RefsBack': WHATEVER THE INPUT: true; the input reads as it did. -/
def refsBackSpec : ChangeSpec := { name := "refsBack", fn := fun _ => fun
  | [d1, d2, d3] => { results := [.lit (.bool true)], args := [d1, d2, d3] }
  | _ => none }
def refsBackRow : OpenClaim := { program := "ytiikdofbaoidcaa", sum := "e6a8c016f8518014d6dc78f612d2da31d05f77980bc960ae9addc8894198d783", func := "portage/portagelaw09.RefsBack", spec := "refsBack", unfollowed := true, recurses := true, plainKeys := false, apart := false }
def RefsBackSaid : Prop := refsBackRow.holds Try.pinned (OpenSpec.ofChange refsBackSpec)

/-- ITS FALSE NEIGHBOUR: 'it returns false'. Refute it at one input. -/
def refsBackWrong : ChangeSpec := { name := "refsBack", fn := fun _ => fun
  | [d1, d2, d3] => { results := [.lit (.bool false)], args := [d1, d2, d3] }
  | _ => none }
def RefsBackWrongFalsely : Prop := refsBackRow.holds Try.pinned (OpenSpec.ofChange refsBackWrong)

/-- 'portagelaw09.RefsOne': WHATEVER THE INPUT: true; the input reads as it did. -/
def refsOneSpec : ChangeSpec := { name := "refsOne", fn := fun _ => fun
  | [d] => { results := [.lit (.bool true)], args := [d] }
  | _ => none }
def refsOneRow : OpenClaim := { program := "ytiikdofbaoidcaa", sum := "e6a8c016f8518014d6dc78f612d2da31d05f77980bc960ae9addc8894198d783", func := "portage/portagelaw09.RefsOne", spec := "refsOne", unfollowed := true, recurses := true, plainKeys := false, apart := false }
def RefsOneSaid : Prop := refsOneRow.holds Try.pinned (OpenSpec.ofChange refsOneSpec)

/-- ITS FALSE NEIGHBOUR: 'it returns false'. Refute it at one input. -/
def refsOneWrong : ChangeSpec := { name := "refsOne", fn := fun _ => fun
  | [d] => { results := [.lit (.bool false)], args := [d] }
  | _ => none }
def RefsOneWrongFalsely : Prop := refsOneRow.holds Try.pinned (OpenSpec.ofChange refsOneWrong)

/-- 'portagelaw09.RefsVolumes': WHATEVER THE INPUT: true; the input reads as it did. -/
def refsVolumesSpec : ChangeSpec := { name := "refsVolumes", fn := fun _ => fun
  | [d] => { results := [.lit (.bool true)], args := [d] }
  | _ => none }
def refsVolumesRow : OpenClaim := { program := "ytiikdofbaoidcaa", sum := "e6a8c016f8518014d6dc78f612d2da31d05f77980bc960ae9addc8894198d783", func := "portage/portagelaw09.RefsVolumes", spec := "refsVolumes", unfollowed := true, recurses := true, plainKeys := false, apart := false }
def RefsVolumesSaid : Prop := refsVolumesRow.holds Try.pinned (OpenSpec.ofChange refsVolumesSpec)

/-- ITS FALSE NEIGHBOUR: 'it returns false'. Refute it at one input. -/
def refsVolumesWrong : ChangeSpec := { name := "refsVolumes", fn := fun _ => fun
  | [d] => { results := [.lit (.bool false)], args := [d] }
  | _ => none }
def RefsVolumesWrongFalsely : Prop := refsVolumesRow.holds Try.pinned (OpenSpec.ofChange refsVolumesWrong)

/-- 'portagelaw09.RefsPlays': WHATEVER THE INPUT: true; the input reads as it did. -/
def refsPlaysSpec : ChangeSpec := { name := "refsPlays", fn := fun _ => fun
  | [d] => { results := [.lit (.bool true)], args := [d] }
  | _ => none }
def refsPlaysRow : OpenClaim := { program := "ytiikdofbaoidcaa", sum := "e6a8c016f8518014d6dc78f612d2da31d05f77980bc960ae9addc8894198d783", func := "portage/portagelaw09.RefsPlays", spec := "refsPlays", inPlace := ["internal/reflectlite.TypeOf"], unfollowed := true, recurses := true, plainKeys := false, apart := false }
def RefsPlaysSaid : Prop := refsPlaysRow.holds Try.pinned (OpenSpec.ofChange refsPlaysSpec)

/-- ITS FALSE NEIGHBOUR: 'it returns false'. Refute it at one input. -/
def refsPlaysWrong : ChangeSpec := { name := "refsPlays", fn := fun _ => fun
  | [d] => { results := [.lit (.bool false)], args := [d] }
  | _ => none }
def RefsPlaysWrongFalsely : Prop := refsPlaysRow.holds Try.pinned (OpenSpec.ofChange refsPlaysWrong)

/- THE SECOND FORM. 'bulk': how many values and letters a reading holds, each counted each time it is reached (what is shared counts as often as it is met; a slice's spare places count too). A statement '..UptoSaid' is the law's where the arguments, and the package variables that the reading takes, are together of bulk at most 1048576: NARROWER than '..Said'. Prove '..Said' where nothing that the law and all that it calls make is longer than what came in: it says more and counts as full. Else prove '..UptoSaid'. A law counts once. -/
mutual
def uptoBulk {H : Type} : DataW H → Nat
  | .lit (.string bytes) => bytes.length + 1
  | .lit _ => 1
  | .nil => 1
  | .ptr d => uptoBulk d + 1
  | .slice elems spare => uptoBulkAll elems + uptoBulkAll spare + 1
  | .agg parts => uptoBulkAll parts + 1
  | .iface _ d => uptoBulk d + 1
  | .map entries => uptoBulkEntries entries + 1
  | .held _ => 1
def uptoBulkAll {H : Type} : List (DataW H) → Nat
  | [] => 0
  | d :: r => uptoBulk d + uptoBulkAll r
def uptoBulkEntries {H : Type} : List (Lit × DataW H) → Nat
  | [] => 0
  | x :: r => uptoBulkEntry x + uptoBulkEntries r
def uptoBulkEntry {H : Type} : Lit × DataW H → Nat
  | (.string bytes, d) => bytes.length + uptoBulk d + 1
  | (_, d) => uptoBulk d + 1
 end
def uptoSmall : (H : Type) → List (DataW H) → Bool := fun _ ds => decide (uptoBulkAll ds ≤ 1048576)
def OpenSpec.upto (s : _root_.Go.ChangeSpec) : _root_.Go.OpenSpec := { _root_.Go.OpenSpec.ofChange s with cond := some uptoSmall }

/-- 'portagelaw09.RefsMoves', WHERE WHAT IT READS IS OF BULK AT MOST 1048576: true; the input reads as it did. -/
def refsMovesUptoRow : OpenClaim := { program := "ytiikdofbaoidcaa", sum := "e6a8c016f8518014d6dc78f612d2da31d05f77980bc960ae9addc8894198d783", func := "portage/portagelaw09.RefsMoves", spec := "refsMoves", unfollowed := true, recurses := true, plainKeys := false, apart := false, narrowed := true }
def RefsMovesUptoSaid : Prop := refsMovesUptoRow.holds Try.pinned (OpenSpec.upto refsMovesSpec)

/-- 'portagelaw09.RefsBack', WHERE WHAT IT READS IS OF BULK AT MOST 1048576: true; the input reads as it did. -/
def refsBackUptoRow : OpenClaim := { program := "ytiikdofbaoidcaa", sum := "e6a8c016f8518014d6dc78f612d2da31d05f77980bc960ae9addc8894198d783", func := "portage/portagelaw09.RefsBack", spec := "refsBack", unfollowed := true, recurses := true, plainKeys := false, apart := false, narrowed := true }
def RefsBackUptoSaid : Prop := refsBackUptoRow.holds Try.pinned (OpenSpec.upto refsBackSpec)

/-- 'portagelaw09.RefsOne', WHERE WHAT IT READS IS OF BULK AT MOST 1048576: true; the input reads as it did. -/
def refsOneUptoRow : OpenClaim := { program := "ytiikdofbaoidcaa", sum := "e6a8c016f8518014d6dc78f612d2da31d05f77980bc960ae9addc8894198d783", func := "portage/portagelaw09.RefsOne", spec := "refsOne", unfollowed := true, recurses := true, plainKeys := false, apart := false, narrowed := true }
def RefsOneUptoSaid : Prop := refsOneUptoRow.holds Try.pinned (OpenSpec.upto refsOneSpec)

/-- 'portagelaw09.RefsVolumes', WHERE WHAT IT READS IS OF BULK AT MOST 1048576: true; the input reads as it did. -/
def refsVolumesUptoRow : OpenClaim := { program := "ytiikdofbaoidcaa", sum := "e6a8c016f8518014d6dc78f612d2da31d05f77980bc960ae9addc8894198d783", func := "portage/portagelaw09.RefsVolumes", spec := "refsVolumes", unfollowed := true, recurses := true, plainKeys := false, apart := false, narrowed := true }
def RefsVolumesUptoSaid : Prop := refsVolumesUptoRow.holds Try.pinned (OpenSpec.upto refsVolumesSpec)

/-- 'portagelaw09.RefsPlays', WHERE WHAT IT READS IS OF BULK AT MOST 1048576: true; the input reads as it did. -/
def refsPlaysUptoRow : OpenClaim := { program := "ytiikdofbaoidcaa", sum := "e6a8c016f8518014d6dc78f612d2da31d05f77980bc960ae9addc8894198d783", func := "portage/portagelaw09.RefsPlays", spec := "refsPlays", inPlace := ["internal/reflectlite.TypeOf"], unfollowed := true, recurses := true, plainKeys := false, apart := false, narrowed := true }
def RefsPlaysUptoSaid : Prop := refsPlaysUptoRow.holds Try.pinned (OpenSpec.upto refsPlaysSpec)

end Rows
end Go.Proofs.Ytiikdofbaoidcaa
