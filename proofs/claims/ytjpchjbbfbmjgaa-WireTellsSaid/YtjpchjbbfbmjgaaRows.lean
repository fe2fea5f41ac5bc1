/-
  No cell of these rows narrows 'for every input' (looked for: loops, veiled, ifaces, maps, wideKeys, modest, calm, conditions, laid).
  DERIVED. THE GIVEN ROWS OF THIS SEAT. 6 by the template 'for every input the law returns true; each argument reads behind the call as it read before'; 0 by the template 'total and deterministic' (their statements: YtjpchjbbfbmjgaaTotals.lean).
  GIVEN WITH THE SEED: the statements are not yours to turn. If you find one false, say at which input.
  Laid BY PROGRAM, IN A SANDBOX (cutbox-rows.mjs): the forced cells as the released guide's own fill.sh prints them over the translation 095a7718bf29aba2… (all of the seat's roots in one cut). By AI agents, Wed Nov 11 2026. No macro, syntax, notation, axiom, sorry.
-/
import Derived.Test.YtjpchjbbfbmjgaaChecked
import GoSem.Claim
import GoSem.ClaimJoined
import GoSem.ClaimMapViews
import Derived.JoinedTies
import Derived.KernelRfl
namespace Go.Proofs.Ytjpchjbbfbmjgaa
/- THE CELL 'sum', in the pinned program and in every row, IS THE sha256 OF THE DUMP (.gsa) THAT YtjpchjbbfbmjgaaProg.lean LOADS. Nothing in Lean hashes anything: it is a label: what it is worth is what the hold of that sum in a sandbox is worth. -/
noncomputable def Try.pinned : Pinned := { name := "ytjpchjbbfbmjgaa", sum := "095a7718bf29aba29da8c8a4d5d54913d8d28978a396cba6a13d026f807fc677", checked := Try.checked }
namespace Rows
def none {H : Type} : Left H := { results := [], args := [] }

/-- 'subwaylaw05.WireTells': WHATEVER THE INPUT: true; the input reads as it did. -/
def wireTellsSpec : ChangeSpec := { name := "wireTells", fn := fun _ => fun
  | [d1, d2] => { results := [.lit (.bool true)], args := [d1, d2] }
  | _ => none }
def wireTellsRow : OpenClaim := { program := "ytjpchjbbfbmjgaa", sum := "095a7718bf29aba29da8c8a4d5d54913d8d28978a396cba6a13d026f807fc677", func := "subway/subwaylaw05.WireTells", spec := "wireTells", unfollowed := true, recurses := true, apart := false }
def WireTellsSaid : Prop := wireTellsRow.holds Try.pinned (OpenSpec.ofChange wireTellsSpec)

/-- ITS FALSE NEIGHBOUR: 'it returns false'. Refute it at one input. -/
def wireTellsWrong : ChangeSpec := { name := "wireTells", fn := fun _ => fun
  | [d1, d2] => { results := [.lit (.bool false)], args := [d1, d2] }
  | _ => none }
def WireTellsWrongFalsely : Prop := wireTellsRow.holds Try.pinned (OpenSpec.ofChange wireTellsWrong)

/-- 'subwaylaw05.WireBack': WHATEVER THE INPUT: true; the input reads as it did. -/
def wireBackSpec : ChangeSpec := { name := "wireBack", fn := fun _ => fun
  | [d1, d2, d3, d4] => { results := [.lit (.bool true)], args := [d1, d2, d3, d4] }
  | _ => none }
def wireBackRow : OpenClaim := { program := "ytjpchjbbfbmjgaa", sum := "095a7718bf29aba29da8c8a4d5d54913d8d28978a396cba6a13d026f807fc677", func := "subway/subwaylaw05.WireBack", spec := "wireBack", unfollowed := true, recurses := true, apart := false }
def WireBackSaid : Prop := wireBackRow.holds Try.pinned (OpenSpec.ofChange wireBackSpec)

/-- ITS FALSE NEIGHBOUR: 'it returns false'. Refute it at one input. -/
def wireBackWrong : ChangeSpec := { name := "wireBack", fn := fun _ => fun
  | [d1, d2, d3, d4] => { results := [.lit (.bool false)], args := [d1, d2, d3, d4] }
  | _ => none }
def WireBackWrongFalsely : Prop := wireBackRow.holds Try.pinned (OpenSpec.ofChange wireBackWrong)

/-- 'subwaylaw05.WireKinds': WHATEVER THE INPUT: true; the input reads as it did. -/
def wireKindsSpec : ChangeSpec := { name := "wireKinds", fn := fun _ => fun
  | [d1, d2, d3, d4] => { results := [.lit (.bool true)], args := [d1, d2, d3, d4] }
  | _ => none }
def wireKindsRow : OpenClaim := { program := "ytjpchjbbfbmjgaa", sum := "095a7718bf29aba29da8c8a4d5d54913d8d28978a396cba6a13d026f807fc677", func := "subway/subwaylaw05.WireKinds", spec := "wireKinds", unfollowed := true, recurses := true, apart := false }
def WireKindsSaid : Prop := wireKindsRow.holds Try.pinned (OpenSpec.ofChange wireKindsSpec)

/-- ITS FALSE NEIGHBOUR: 'it returns false'. Refute it at one input. -/
def wireKindsWrong : ChangeSpec := { name := "wireKinds", fn := fun _ => fun
  | [d1, d2, d3, d4] => { results := [.lit (.bool false)], args := [d1, d2, d3, d4] }
  | _ => none }
def WireKindsWrongFalsely : Prop := wireKindsRow.holds Try.pinned (OpenSpec.ofChange wireKindsWrong)

/-- 'subwaylaw05.WireOther': WHATEVER THE INPUT: true; the input reads as it did. -/
def wireOtherSpec : ChangeSpec := { name := "wireOther", fn := fun _ => fun
  | [d1, d2] => { results := [.lit (.bool true)], args := [d1, d2] }
  | _ => none }
def wireOtherRow : OpenClaim := { program := "ytjpchjbbfbmjgaa", sum := "095a7718bf29aba29da8c8a4d5d54913d8d28978a396cba6a13d026f807fc677", func := "subway/subwaylaw05.WireOther", spec := "wireOther", unfollowed := true, recurses := true, apart := false }
def WireOtherSaid : Prop := wireOtherRow.holds Try.pinned (OpenSpec.ofChange wireOtherSpec)

/-- ITS FALSE NEIGHBOUR: 'it returns false'. Refute it at one input. -/
def wireOtherWrong : ChangeSpec := { name := "wireOther", fn := fun _ => fun
  | [d1, d2] => { results := [.lit (.bool false)], args := [d1, d2] }
  | _ => none }
def WireOtherWrongFalsely : Prop := wireOtherRow.holds Try.pinned (OpenSpec.ofChange wireOtherWrong)

/-- 'subwaylaw05.WireBounds': WHATEVER THE INPUT: true; the input reads as it did. -/
def wireBoundsSpec : ChangeSpec := { name := "wireBounds", fn := fun _ => fun
  | [d1, d2] => { results := [.lit (.bool true)], args := [d1, d2] }
  | _ => none }
def wireBoundsRow : OpenClaim := { program := "ytjpchjbbfbmjgaa", sum := "095a7718bf29aba29da8c8a4d5d54913d8d28978a396cba6a13d026f807fc677", func := "subway/subwaylaw05.WireBounds", spec := "wireBounds", unfollowed := true, recurses := true, apart := false }
def WireBoundsSaid : Prop := wireBoundsRow.holds Try.pinned (OpenSpec.ofChange wireBoundsSpec)

/-- ITS FALSE NEIGHBOUR: 'it returns false'. Refute it at one input. -/
def wireBoundsWrong : ChangeSpec := { name := "wireBounds", fn := fun _ => fun
  | [d1, d2] => { results := [.lit (.bool false)], args := [d1, d2] }
  | _ => none }
def WireBoundsWrongFalsely : Prop := wireBoundsRow.holds Try.pinned (OpenSpec.ofChange wireBoundsWrong)

/-- 'subwaylaw05.WireFirst': WHATEVER THE INPUT: true; the input reads as it did. -/
def wireFirstSpec : ChangeSpec := { name := "wireFirst", fn := fun _ => fun
  | [d1, d2] => { results := [.lit (.bool true)], args := [d1, d2] }
  | _ => none }
def wireFirstRow : OpenClaim := { program := "ytjpchjbbfbmjgaa", sum := "095a7718bf29aba29da8c8a4d5d54913d8d28978a396cba6a13d026f807fc677", func := "subway/subwaylaw05.WireFirst", spec := "wireFirst", unfollowed := true, recurses := true, apart := false }
def WireFirstSaid : Prop := wireFirstRow.holds Try.pinned (OpenSpec.ofChange wireFirstSpec)

/-- ITS FALSE NEIGHBOUR: 'it returns false'. Refute it at one input. -/
def wireFirstWrong : ChangeSpec := { name := "wireFirst", fn := fun _ => fun
  | [d1, d2] => { results := [.lit (.bool false)], args := [d1, d2] }
  | _ => none }
def WireFirstWrongFalsely : Prop := wireFirstRow.holds Try.pinned (OpenSpec.ofChange wireFirstWrong)

/- THE SECOND FORM. 'bulk': how many values and letters a reading holds, each counted each time it is reached (what is shared counts as often as it is met; a slice's spare places count too). A statement '..UptoSaid' is the law's where the arguments, and the package variables that the reading takes, are together of bulk at most 1048576: NARROWER than '..Said'. Prove '..Said' where nothing that the law and all that it calls make is longer than what came in: it says more and counts as full. Else prove '..UptoSaid'. A law counts once. -/
mutual
def uptoBulk {H : Type} : DataW H → Nat
  | .lit (.string bytes) => bytes.length + 1
  | .lit _ => 1
  | .nil => 1
  | .ptr d => uptoBulk d + 1
  | .slice elems spare => uptoBulkAll elems + uptoBulkAll spare + 1
  | .agg parts => uptoBulkAll parts + 1
  | .iface _ d => uptoBulk d + 1
  | .map entries => uptoBulkEntries entries + 1
  | .held _ => 1
def uptoBulkAll {H : Type} : List (DataW H) → Nat
  | [] => 0
  | d :: r => uptoBulk d + uptoBulkAll r
def uptoBulkEntries {H : Type} : List (Lit × DataW H) → Nat
  | [] => 0
  | x :: r => uptoBulkEntry x + uptoBulkEntries r
def uptoBulkEntry {H : Type} : Lit × DataW H → Nat
  | (.string bytes, d) => bytes.length + uptoBulk d + 1
  | (_, d) => uptoBulk d + 1
 end
def uptoSmall : (H : Type) → List (DataW H) → Bool := fun _ ds => decide (uptoBulkAll ds ≤ 1048576)
def OpenSpec.upto (s : _root_.Go.ChangeSpec) : _root_.Go.OpenSpec := { _root_.Go.OpenSpec.ofChange s with cond := some uptoSmall }

/-- 'subwaylaw05.WireTells', WHERE WHAT IT READS IS OF BULK AT MOST 1048576: true; the input reads as it did. -/
def wireTellsUptoRow : OpenClaim := { program := "ytjpchjbbfbmjgaa", sum := "095a7718bf29aba29da8c8a4d5d54913d8d28978a396cba6a13d026f807fc677", func := "subway/subwaylaw05.WireTells", spec := "wireTells", unfollowed := true, recurses := true, apart := false, narrowed := true }
def WireTellsUptoSaid : Prop := wireTellsUptoRow.holds Try.pinned (OpenSpec.upto wireTellsSpec)

/-- 'subwaylaw05.WireBack', WHERE WHAT IT READS IS OF BULK AT MOST 1048576: true; the input reads as it did. -/
def wireBackUptoRow : OpenClaim := { program := "ytjpchjbbfbmjgaa", sum := "095a7718bf29aba29da8c8a4d5d54913d8d28978a396cba6a13d026f807fc677", func := "subway/subwaylaw05.WireBack", spec := "wireBack", unfollowed := true, recurses := true, apart := false, narrowed := true }
def WireBackUptoSaid : Prop := wireBackUptoRow.holds Try.pinned (OpenSpec.upto wireBackSpec)

/-- 'subwaylaw05.WireKinds', WHERE WHAT IT READS IS OF BULK AT MOST 1048576: true; the input reads as it did. -/
def wireKindsUptoRow : OpenClaim := { program := "ytjpchjbbfbmjgaa", sum := "095a7718bf29aba29da8c8a4d5d54913d8d28978a396cba6a13d026f807fc677", func := "subway/subwaylaw05.WireKinds", spec := "wireKinds", unfollowed := true, recurses := true, apart := false, narrowed := true }
def WireKindsUptoSaid : Prop := wireKindsUptoRow.holds Try.pinned (OpenSpec.upto wireKindsSpec)

/-- 'subwaylaw05.WireOther', WHERE WHAT IT READS IS OF BULK AT MOST 1048576: true; the input reads as it did. -/
def wireOtherUptoRow : OpenClaim := { program := "ytjpchjbbfbmjgaa", sum := "095a7718bf29aba29da8c8a4d5d54913d8d28978a396cba6a13d026f807fc677", func := "subway/subwaylaw05.WireOther", spec := "wireOther", unfollowed := true, recurses := true, apart := false, narrowed := true }
def WireOtherUptoSaid : Prop := wireOtherUptoRow.holds Try.pinned (OpenSpec.upto wireOtherSpec)

/-- 'subwaylaw05.WireBounds', WHERE WHAT IT READS IS OF BULK AT MOST 1048576: true; the input reads as it did. -/
def wireBoundsUptoRow : OpenClaim := { program := "ytjpchjbbfbmjgaa", sum := "095a7718bf29aba29da8c8a4d5d54913d8d28978a396cba6a13d026f807fc677", func := "subway/subwaylaw05.WireBounds", spec := "wireBounds", unfollowed := true, recurses := true, apart := false, narrowed := true }
def WireBoundsUptoSaid : Prop := wireBoundsUptoRow.holds Try.pinned (OpenSpec.upto wireBoundsSpec)

/-- 'subwaylaw05.WireFirst', WHERE WHAT IT READS IS OF BULK AT MOST 1048576: true; the input reads as it did. -/
def wireFirstUptoRow : OpenClaim := { program := "ytjpchjbbfbmjgaa", sum := "095a7718bf29aba29da8c8a4d5d54913d8d28978a396cba6a13d026f807fc677", func := "subway/subwaylaw05.WireFirst", spec := "wireFirst", unfollowed := true, recurses := true, apart := false, narrowed := true }
def WireFirstUptoSaid : Prop := wireFirstUptoRow.holds Try.pinned (OpenSpec.upto wireFirstSpec)

end Rows
end Go.Proofs.Ytjpchjbbfbmjgaa
