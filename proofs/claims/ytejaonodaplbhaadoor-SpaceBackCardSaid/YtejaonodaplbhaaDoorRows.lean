/-
  NARROWER THAN 'FOR EVERY INPUT', by the rows' own cells (each row's printed sentence says how): SpaceAddrs: laid · SpaceFills: laid · SpaceSafe: laid · SpaceSettles: laid · SpaceBack: laid.
  DERIVED. THE GIVEN ROWS OF THIS SEAT. 5 by the template 'for every input the law returns true; each argument reads behind the call as it read before'; 0 by the template 'total and deterministic' (their statements: YtejaonodaplbhaaDoorTotals.lean).
  GIVEN WITH THE SEED: the statements are not yours to turn. If you find one false, say at which input.
  Laid BY PROGRAM, IN A SANDBOX (cutbox-rows.mjs): the forced cells as the released guide's own fill.sh prints them over the translation f3997c4aa50370ce… (all of the seat's roots in one cut). By AI agents, Wed Nov 11 2026. No macro, syntax, notation, axiom, sorry.
-/
import Derived.Test.YtejaonodaplbhaaDoorChecked
import GoSem.Claim
import GoSem.ClaimJoined
import GoSem.ClaimMapViews
import Derived.JoinedTies
import Derived.KernelRfl
namespace Go.Proofs.YtejaonodaplbhaaDoor
/- THE CELL 'sum', in the pinned program and in every row, IS THE sha256 OF THE DUMP (.gsa) THAT YtejaonodaplbhaaDoorProg.lean LOADS. Nothing in Lean hashes anything: it is a label: what it is worth is what the hold of that sum in a sandbox is worth. -/
noncomputable def Tryd.pinned : Pinned := { name := "ytejaonodaplbhaadoor", sum := "f3997c4aa50370ce6e4456e0cd46c40c334422d12c960dece23e8d19c587d4ce", checked := Tryd.checked }
namespace Rows
def none {H : Type} : Left H := { results := [], args := [] }

/- WHAT THE LISTED PACKAGE-LEVEL VARIABLES READ AS WHEN THE CALL BEGINS. Each datum BY PROGRAM (the guide's laid-datum.mjs) off the statement by which the dump's own 'gosem.cut.vars' lays the variable. In a bare row this is a premise. The card (YtejaonodaplbhaaDoorCards.lean) ties it to the program's text. -/
def laid_math_bits_deBruijn64tab {H : Type} : DataW H := .agg [.lit (.int .u8 0), .lit (.int .u8 1), .lit (.int .u8 56), .lit (.int .u8 2), .lit (.int .u8 57), .lit (.int .u8 49), .lit (.int .u8 28), .lit (.int .u8 3), .lit (.int .u8 61), .lit (.int .u8 58), .lit (.int .u8 42), .lit (.int .u8 50), .lit (.int .u8 38), .lit (.int .u8 29), .lit (.int .u8 17), .lit (.int .u8 4), .lit (.int .u8 62), .lit (.int .u8 47), .lit (.int .u8 59), .lit (.int .u8 36), .lit (.int .u8 45), .lit (.int .u8 43), .lit (.int .u8 51), .lit (.int .u8 22), .lit (.int .u8 53), .lit (.int .u8 39), .lit (.int .u8 33), .lit (.int .u8 30), .lit (.int .u8 24), .lit (.int .u8 18), .lit (.int .u8 12), .lit (.int .u8 5), .lit (.int .u8 63), .lit (.int .u8 55), .lit (.int .u8 48), .lit (.int .u8 27), .lit (.int .u8 60), .lit (.int .u8 41), .lit (.int .u8 37), .lit (.int .u8 16), .lit (.int .u8 46), .lit (.int .u8 35), .lit (.int .u8 44), .lit (.int .u8 21), .lit (.int .u8 52), .lit (.int .u8 32), .lit (.int .u8 23), .lit (.int .u8 11), .lit (.int .u8 54), .lit (.int .u8 26), .lit (.int .u8 40), .lit (.int .u8 15), .lit (.int .u8 34), .lit (.int .u8 20), .lit (.int .u8 31), .lit (.int .u8 10), .lit (.int .u8 25), .lit (.int .u8 14), .lit (.int .u8 19), .lit (.int .u8 9), .lit (.int .u8 13), .lit (.int .u8 8), .lit (.int .u8 7), .lit (.int .u8 6)]

/-- 'portagelaw08.SpaceAddrs': WHATEVER THE INPUT: true; the input reads as it did. -/
def spaceAddrsSpec : ChangeSpec := { name := "spaceAddrs", fn := fun _ => fun
  | [d1, d2, d3] => { results := [.lit (.bool true)], args := [d1, d2, d3] }
  | _ => none }
def spaceAddrsRow : OpenClaim := { program := "ytejaonodaplbhaadoor", sum := "f3997c4aa50370ce6e4456e0cd46c40c334422d12c960dece23e8d19c587d4ce", func := "portage/portagelaw08.SpaceAddrs", spec := "spaceAddrs", unfollowed := true, recurses := true, named := ["math/bits.deBruijn64tab"], apart := false, laid := [("math/bits.deBruijn64tab", laid_math_bits_deBruijn64tab)] }
def SpaceAddrsSaid : Prop := spaceAddrsRow.holds Tryd.pinned (OpenSpec.ofChange spaceAddrsSpec)

/-- ITS FALSE NEIGHBOUR: 'it returns false'. Refute it at one input. -/
def spaceAddrsWrong : ChangeSpec := { name := "spaceAddrs", fn := fun _ => fun
  | [d1, d2, d3] => { results := [.lit (.bool false)], args := [d1, d2, d3] }
  | _ => none }
def SpaceAddrsWrongFalsely : Prop := spaceAddrsRow.holds Tryd.pinned (OpenSpec.ofChange spaceAddrsWrong)

/-- 'portagelaw08.SpaceFills': WHATEVER THE INPUT: true; the input reads as it did. -/
def spaceFillsSpec : ChangeSpec := { name := "spaceFills", fn := fun _ => fun
  | [d] => { results := [.lit (.bool true)], args := [d] }
  | _ => none }
def spaceFillsRow : OpenClaim := { program := "ytejaonodaplbhaadoor", sum := "f3997c4aa50370ce6e4456e0cd46c40c334422d12c960dece23e8d19c587d4ce", func := "portage/portagelaw08.SpaceFills", spec := "spaceFills", inPlace := ["internal/reflectlite.TypeOf"], unfollowed := true, recurses := true, named := ["math/bits.deBruijn64tab"], apart := false, laid := [("math/bits.deBruijn64tab", laid_math_bits_deBruijn64tab)] }
def SpaceFillsSaid : Prop := spaceFillsRow.holds Tryd.pinned (OpenSpec.ofChange spaceFillsSpec)

/-- ITS FALSE NEIGHBOUR: 'it returns false'. Refute it at one input. -/
def spaceFillsWrong : ChangeSpec := { name := "spaceFills", fn := fun _ => fun
  | [d] => { results := [.lit (.bool false)], args := [d] }
  | _ => none }
def SpaceFillsWrongFalsely : Prop := spaceFillsRow.holds Tryd.pinned (OpenSpec.ofChange spaceFillsWrong)

/-- 'portagelaw08.SpaceSafe': WHATEVER THE INPUT: true; the input reads as it did. -/
def spaceSafeSpec : ChangeSpec := { name := "spaceSafe", fn := fun _ => fun
  | [d1, d2] => { results := [.lit (.bool true)], args := [d1, d2] }
  | _ => none }
def spaceSafeRow : OpenClaim := { program := "ytejaonodaplbhaadoor", sum := "f3997c4aa50370ce6e4456e0cd46c40c334422d12c960dece23e8d19c587d4ce", func := "portage/portagelaw08.SpaceSafe", spec := "spaceSafe", unfollowed := true, recurses := true, named := ["math/bits.deBruijn64tab"], apart := false, laid := [("math/bits.deBruijn64tab", laid_math_bits_deBruijn64tab)] }
def SpaceSafeSaid : Prop := spaceSafeRow.holds Tryd.pinned (OpenSpec.ofChange spaceSafeSpec)

/-- ITS FALSE NEIGHBOUR: 'it returns false'. Refute it at one input. -/
def spaceSafeWrong : ChangeSpec := { name := "spaceSafe", fn := fun _ => fun
  | [d1, d2] => { results := [.lit (.bool false)], args := [d1, d2] }
  | _ => none }
def SpaceSafeWrongFalsely : Prop := spaceSafeRow.holds Tryd.pinned (OpenSpec.ofChange spaceSafeWrong)

/-- 'portagelaw08.SpaceSettles': WHATEVER THE INPUT: true; the input reads as it did. -/
def spaceSettlesSpec : ChangeSpec := { name := "spaceSettles", fn := fun _ => fun
  | [d1, d2, d3] => { results := [.lit (.bool true)], args := [d1, d2, d3] }
  | _ => none }
def spaceSettlesRow : OpenClaim := { program := "ytejaonodaplbhaadoor", sum := "f3997c4aa50370ce6e4456e0cd46c40c334422d12c960dece23e8d19c587d4ce", func := "portage/portagelaw08.SpaceSettles", spec := "spaceSettles", inPlace := ["internal/reflectlite.TypeOf"], unfollowed := true, recurses := true, named := ["math/bits.deBruijn64tab"], apart := false, laid := [("math/bits.deBruijn64tab", laid_math_bits_deBruijn64tab)] }
def SpaceSettlesSaid : Prop := spaceSettlesRow.holds Tryd.pinned (OpenSpec.ofChange spaceSettlesSpec)

/-- ITS FALSE NEIGHBOUR: 'it returns false'. Refute it at one input. -/
def spaceSettlesWrong : ChangeSpec := { name := "spaceSettles", fn := fun _ => fun
  | [d1, d2, d3] => { results := [.lit (.bool false)], args := [d1, d2, d3] }
  | _ => none }
def SpaceSettlesWrongFalsely : Prop := spaceSettlesRow.holds Tryd.pinned (OpenSpec.ofChange spaceSettlesWrong)

/-- 'portagelaw08.SpaceBack': WHATEVER THE INPUT: true; the input reads as it did. -/
def spaceBackSpec : ChangeSpec := { name := "spaceBack", fn := fun _ => fun
  | [d1, d2, d3] => { results := [.lit (.bool true)], args := [d1, d2, d3] }
  | _ => none }
def spaceBackRow : OpenClaim := { program := "ytejaonodaplbhaadoor", sum := "f3997c4aa50370ce6e4456e0cd46c40c334422d12c960dece23e8d19c587d4ce", func := "portage/portagelaw08.SpaceBack", spec := "spaceBack", inPlace := ["internal/reflectlite.TypeOf"], unfollowed := true, recurses := true, named := ["math/bits.deBruijn64tab"], apart := false, laid := [("math/bits.deBruijn64tab", laid_math_bits_deBruijn64tab)] }
def SpaceBackSaid : Prop := spaceBackRow.holds Tryd.pinned (OpenSpec.ofChange spaceBackSpec)

/-- ITS FALSE NEIGHBOUR: 'it returns false'. Refute it at one input. -/
def spaceBackWrong : ChangeSpec := { name := "spaceBack", fn := fun _ => fun
  | [d1, d2, d3] => { results := [.lit (.bool false)], args := [d1, d2, d3] }
  | _ => none }
def SpaceBackWrongFalsely : Prop := spaceBackRow.holds Tryd.pinned (OpenSpec.ofChange spaceBackWrong)

/- THE SECOND FORM. 'bulk': how many values and letters a reading holds, each counted each time it is reached (what is shared counts as often as it is met; a slice's spare places count too). A statement '..UptoSaid' is the law's where the arguments, and the package variables that the reading takes, are together of bulk at most 1048576: NARROWER than '..Said'. Prove '..Said' where nothing that the law and all that it calls make is longer than what came in: it says more and counts as full. Else prove '..UptoSaid'. A law counts once. -/
mutual
def uptoBulk {H : Type} : DataW H → Nat
  | .lit (.string bytes) => bytes.length + 1
  | .lit _ => 1
  | .nil => 1
  | .ptr d => uptoBulk d + 1
  | .slice elems spare => uptoBulkAll elems + uptoBulkAll spare + 1
  | .agg parts => uptoBulkAll parts + 1
  | .iface _ d => uptoBulk d + 1
  | .map entries => uptoBulkEntries entries + 1
  | .held _ => 1
def uptoBulkAll {H : Type} : List (DataW H) → Nat
  | [] => 0
  | d :: r => uptoBulk d + uptoBulkAll r
def uptoBulkEntries {H : Type} : List (Lit × DataW H) → Nat
  | [] => 0
  | x :: r => uptoBulkEntry x + uptoBulkEntries r
def uptoBulkEntry {H : Type} : Lit × DataW H → Nat
  | (.string bytes, d) => bytes.length + uptoBulk d + 1
  | (_, d) => uptoBulk d + 1
 end
def uptoSmall : (H : Type) → List (DataW H) → Bool := fun _ ds => decide (uptoBulkAll ds ≤ 1048576)
def OpenSpec.upto (s : _root_.Go.ChangeSpec) : _root_.Go.OpenSpec := { _root_.Go.OpenSpec.ofChange s with cond := some uptoSmall }

/-- 'portagelaw08.SpaceAddrs', WHERE WHAT IT READS IS OF BULK AT MOST 1048576: true; the input reads as it did. -/
def spaceAddrsUptoRow : OpenClaim := { program := "ytejaonodaplbhaadoor", sum := "f3997c4aa50370ce6e4456e0cd46c40c334422d12c960dece23e8d19c587d4ce", func := "portage/portagelaw08.SpaceAddrs", spec := "spaceAddrs", unfollowed := true, recurses := true, named := ["math/bits.deBruijn64tab"], apart := false, laid := [("math/bits.deBruijn64tab", laid_math_bits_deBruijn64tab)], narrowed := true }
def SpaceAddrsUptoSaid : Prop := spaceAddrsUptoRow.holds Tryd.pinned (OpenSpec.upto spaceAddrsSpec)

/-- 'portagelaw08.SpaceFills', WHERE WHAT IT READS IS OF BULK AT MOST 1048576: true; the input reads as it did. -/
def spaceFillsUptoRow : OpenClaim := { program := "ytejaonodaplbhaadoor", sum := "f3997c4aa50370ce6e4456e0cd46c40c334422d12c960dece23e8d19c587d4ce", func := "portage/portagelaw08.SpaceFills", spec := "spaceFills", inPlace := ["internal/reflectlite.TypeOf"], unfollowed := true, recurses := true, named := ["math/bits.deBruijn64tab"], apart := false, laid := [("math/bits.deBruijn64tab", laid_math_bits_deBruijn64tab)], narrowed := true }
def SpaceFillsUptoSaid : Prop := spaceFillsUptoRow.holds Tryd.pinned (OpenSpec.upto spaceFillsSpec)

/-- 'portagelaw08.SpaceSafe', WHERE WHAT IT READS IS OF BULK AT MOST 1048576: true; the input reads as it did. -/
def spaceSafeUptoRow : OpenClaim := { program := "ytejaonodaplbhaadoor", sum := "f3997c4aa50370ce6e4456e0cd46c40c334422d12c960dece23e8d19c587d4ce", func := "portage/portagelaw08.SpaceSafe", spec := "spaceSafe", unfollowed := true, recurses := true, named := ["math/bits.deBruijn64tab"], apart := false, laid := [("math/bits.deBruijn64tab", laid_math_bits_deBruijn64tab)], narrowed := true }
def SpaceSafeUptoSaid : Prop := spaceSafeUptoRow.holds Tryd.pinned (OpenSpec.upto spaceSafeSpec)

/-- 'portagelaw08.SpaceSettles', WHERE WHAT IT READS IS OF BULK AT MOST 1048576: true; the input reads as it did. -/
def spaceSettlesUptoRow : OpenClaim := { program := "ytejaonodaplbhaadoor", sum := "f3997c4aa50370ce6e4456e0cd46c40c334422d12c960dece23e8d19c587d4ce", func := "portage/portagelaw08.SpaceSettles", spec := "spaceSettles", inPlace := ["internal/reflectlite.TypeOf"], unfollowed := true, recurses := true, named := ["math/bits.deBruijn64tab"], apart := false, laid := [("math/bits.deBruijn64tab", laid_math_bits_deBruijn64tab)], narrowed := true }
def SpaceSettlesUptoSaid : Prop := spaceSettlesUptoRow.holds Tryd.pinned (OpenSpec.upto spaceSettlesSpec)

/-- 'portagelaw08.SpaceBack', WHERE WHAT IT READS IS OF BULK AT MOST 1048576: true; the input reads as it did. -/
def spaceBackUptoRow : OpenClaim := { program := "ytejaonodaplbhaadoor", sum := "f3997c4aa50370ce6e4456e0cd46c40c334422d12c960dece23e8d19c587d4ce", func := "portage/portagelaw08.SpaceBack", spec := "spaceBack", inPlace := ["internal/reflectlite.TypeOf"], unfollowed := true, recurses := true, named := ["math/bits.deBruijn64tab"], apart := false, laid := [("math/bits.deBruijn64tab", laid_math_bits_deBruijn64tab)], narrowed := true }
def SpaceBackUptoSaid : Prop := spaceBackUptoRow.holds Tryd.pinned (OpenSpec.upto spaceBackSpec)

end Rows
end Go.Proofs.YtejaonodaplbhaaDoor
