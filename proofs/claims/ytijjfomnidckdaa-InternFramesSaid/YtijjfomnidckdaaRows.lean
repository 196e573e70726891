/-
  No cell of these rows narrows 'for every input' (looked for: loops, veiled, ifaces, maps, wideKeys, modest, calm, conditions, laid).
  DERIVED. THE GIVEN ROWS OF THIS SEAT. 5 by the template 'for every input the law returns true; each argument reads behind the call as it read before'; 0 by the template 'total and deterministic' (their statements: YtijjfomnidckdaaTotals.lean).
  GIVEN WITH THE SEED: the statements are not yours to turn. If you find one false, say at which input.
  Laid BY PROGRAM, IN A SANDBOX (cutbox-rows.mjs): the forced cells as the released guide's own fill.sh prints them over the translation 62fde2fd87178bc3… (all of the seat's roots in one cut). By AI agents, Wed Nov 11 2026. No macro, syntax, notation, axiom, sorry.
-/
import Derived.Test.YtijjfomnidckdaaChecked
import GoSem.Claim
import GoSem.ClaimJoined
import GoSem.ClaimMapViews
import Derived.JoinedTies
import Derived.KernelRfl
namespace Go.Proofs.Ytijjfomnidckdaa
/- THE CELL 'sum', in the pinned program and in every row, IS THE sha256 OF THE DUMP (.gsa) THAT YtijjfomnidckdaaProg.lean LOADS. Nothing in Lean hashes anything: it is a label: what it is worth is what the hold of that sum in a sandbox is worth. -/
noncomputable def Try.pinned : Pinned := { name := "ytijjfomnidckdaa", sum := "62fde2fd87178bc3b3bd6d63db06e1733c56d1ee28847deb988802452042ac99", checked := Try.checked }
namespace Rows
def none {H : Type} : Left H := { results := [], args := [] }

/-- 'shuttlecocklaw06.InternTells': WHATEVER THE INPUT: true; the input reads as it did. -/
def internTellsSpec : ChangeSpec := { name := "internTells", fn := fun _ => fun
  | [d1, d2] => { results := [.lit (.bool true)], args := [d1, d2] }
  | _ => none }
def internTellsRow : OpenClaim := { program := "ytijjfomnidckdaa", sum := "62fde2fd87178bc3b3bd6d63db06e1733c56d1ee28847deb988802452042ac99", func := "shuttlecock/shuttlecocklaw06.InternTells", spec := "internTells", inPlace := ["internal/abi.NoEscape"], unfollowed := true, recurses := true, apart := false }
def InternTellsSaid : Prop := internTellsRow.holds Try.pinned (OpenSpec.ofChange internTellsSpec)

/-- ITS FALSE NEIGHBOUR: 'it returns false'. Refute it at one input. -/
def internTellsWrong : ChangeSpec := { name := "internTells", fn := fun _ => fun
  | [d1, d2] => { results := [.lit (.bool false)], args := [d1, d2] }
  | _ => none }
def InternTellsWrongFalsely : Prop := internTellsRow.holds Try.pinned (OpenSpec.ofChange internTellsWrong)

/-- 'shuttlecocklaw06.InternBack': WHATEVER THE INPUT: true; the input reads as it did. -/
def internBackSpec : ChangeSpec := { name := "internBack", fn := fun _ => fun
  | [d1, d2] => { results := [.lit (.bool true)], args := [d1, d2] }
  | _ => none }
def internBackRow : OpenClaim := { program := "ytijjfomnidckdaa", sum := "62fde2fd87178bc3b3bd6d63db06e1733c56d1ee28847deb988802452042ac99", func := "shuttlecock/shuttlecocklaw06.InternBack", spec := "internBack", inPlace := ["internal/abi.NoEscape"], unfollowed := true, recurses := true, apart := false }
def InternBackSaid : Prop := internBackRow.holds Try.pinned (OpenSpec.ofChange internBackSpec)

/-- ITS FALSE NEIGHBOUR: 'it returns false'. Refute it at one input. -/
def internBackWrong : ChangeSpec := { name := "internBack", fn := fun _ => fun
  | [d1, d2] => { results := [.lit (.bool false)], args := [d1, d2] }
  | _ => none }
def InternBackWrongFalsely : Prop := internBackRow.holds Try.pinned (OpenSpec.ofChange internBackWrong)

/-- 'shuttlecocklaw06.InternApart': WHATEVER THE INPUT: true; the input reads as it did. -/
def internApartSpec : ChangeSpec := { name := "internApart", fn := fun _ => fun
  | [d1, d2, d3] => { results := [.lit (.bool true)], args := [d1, d2, d3] }
  | _ => none }
def internApartRow : OpenClaim := { program := "ytijjfomnidckdaa", sum := "62fde2fd87178bc3b3bd6d63db06e1733c56d1ee28847deb988802452042ac99", func := "shuttlecock/shuttlecocklaw06.InternApart", spec := "internApart", inPlace := ["internal/abi.NoEscape"], unfollowed := true, recurses := true, apart := false }
def InternApartSaid : Prop := internApartRow.holds Try.pinned (OpenSpec.ofChange internApartSpec)

/-- ITS FALSE NEIGHBOUR: 'it returns false'. Refute it at one input. -/
def internApartWrong : ChangeSpec := { name := "internApart", fn := fun _ => fun
  | [d1, d2, d3] => { results := [.lit (.bool false)], args := [d1, d2, d3] }
  | _ => none }
def InternApartWrongFalsely : Prop := internApartRow.holds Try.pinned (OpenSpec.ofChange internApartWrong)

/-- 'shuttlecocklaw06.InternMany': WHATEVER THE INPUT: true; the input reads as it did. -/
def internManySpec : ChangeSpec := { name := "internMany", fn := fun _ => fun
  | [d] => { results := [.lit (.bool true)], args := [d] }
  | _ => none }
def internManyRow : OpenClaim := { program := "ytijjfomnidckdaa", sum := "62fde2fd87178bc3b3bd6d63db06e1733c56d1ee28847deb988802452042ac99", func := "shuttlecock/shuttlecocklaw06.InternMany", spec := "internMany", inPlace := ["internal/abi.NoEscape"], unfollowed := true, recurses := true, apart := false }
def InternManySaid : Prop := internManyRow.holds Try.pinned (OpenSpec.ofChange internManySpec)

/-- ITS FALSE NEIGHBOUR: 'it returns false'. Refute it at one input. -/
def internManyWrong : ChangeSpec := { name := "internMany", fn := fun _ => fun
  | [d] => { results := [.lit (.bool false)], args := [d] }
  | _ => none }
def InternManyWrongFalsely : Prop := internManyRow.holds Try.pinned (OpenSpec.ofChange internManyWrong)

/-- 'shuttlecocklaw06.InternFrames': WHATEVER THE INPUT: true; the input reads as it did. -/
def internFramesSpec : ChangeSpec := { name := "internFrames", fn := fun _ => fun
  | [d1, d2] => { results := [.lit (.bool true)], args := [d1, d2] }
  | _ => none }
def internFramesRow : OpenClaim := { program := "ytijjfomnidckdaa", sum := "62fde2fd87178bc3b3bd6d63db06e1733c56d1ee28847deb988802452042ac99", func := "shuttlecock/shuttlecocklaw06.InternFrames", spec := "internFrames", inPlace := ["internal/abi.NoEscape"], unfollowed := true, recurses := true, apart := false }
def InternFramesSaid : Prop := internFramesRow.holds Try.pinned (OpenSpec.ofChange internFramesSpec)

/-- ITS FALSE NEIGHBOUR: 'it returns false'. Refute it at one input. -/
def internFramesWrong : ChangeSpec := { name := "internFrames", fn := fun _ => fun
  | [d1, d2] => { results := [.lit (.bool false)], args := [d1, d2] }
  | _ => none }
def InternFramesWrongFalsely : Prop := internFramesRow.holds Try.pinned (OpenSpec.ofChange internFramesWrong)

/- THE SECOND FORM. 'bulk': how many values and letters a reading holds, each counted each time it is reached (what is shared counts as often as it is met; a slice's spare places count too). A statement '..UptoSaid' is the law's where the arguments, and the package variables that the reading takes, are together of bulk at most 1048576: NARROWER than '..Said'. Prove '..Said' where nothing that the law and all that it calls make is longer than what came in: it says more and counts as full. Else prove '..UptoSaid'. A law counts once. -/
mutual
def uptoBulk {H : Type} : DataW H → Nat
  | .lit (.string bytes) => bytes.length + 1
  | .lit _ => 1
  | .nil => 1
  | .ptr d => uptoBulk d + 1
  | .slice elems spare => uptoBulkAll elems + uptoBulkAll spare + 1
  | .agg parts => uptoBulkAll parts + 1
  | .iface _ d => uptoBulk d + 1
  | .map entries => uptoBulkEntries entries + 1
  | .held _ => 1
def uptoBulkAll {H : Type} : List (DataW H) → Nat
  | [] => 0
  | d :: r => uptoBulk d + uptoBulkAll r
def uptoBulkEntries {H : Type} : List (Lit × DataW H) → Nat
  | [] => 0
  | x :: r => uptoBulkEntry x + uptoBulkEntries r
def uptoBulkEntry {H : Type} : Lit × DataW H → Nat
  | (.string bytes, d) => bytes.length + uptoBulk d + 1
  | (_, d) => uptoBulk d + 1
 end
def uptoSmall : (H : Type) → List (DataW H) → Bool := fun _ ds => decide (uptoBulkAll ds ≤ 1048576)
def OpenSpec.upto (s : _root_.Go.ChangeSpec) : _root_.Go.OpenSpec := { _root_.Go.OpenSpec.ofChange s with cond := some uptoSmall }

/-- 'shuttlecocklaw06.InternTells', WHERE WHAT IT READS IS OF BULK AT MOST 1048576: true; the input reads as it did. -/
def internTellsUptoRow : OpenClaim := { program := "ytijjfomnidckdaa", sum := "62fde2fd87178bc3b3bd6d63db06e1733c56d1ee28847deb988802452042ac99", func := "shuttlecock/shuttlecocklaw06.InternTells", spec := "internTells", inPlace := ["internal/abi.NoEscape"], unfollowed := true, recurses := true, apart := false, narrowed := true }
def InternTellsUptoSaid : Prop := internTellsUptoRow.holds Try.pinned (OpenSpec.upto internTellsSpec)

/-- 'shuttlecocklaw06.InternBack', WHERE WHAT IT READS IS OF BULK AT MOST 1048576: true; the input reads as it did. -/
def internBackUptoRow : OpenClaim := { program := "ytijjfomnidckdaa", sum := "62fde2fd87178bc3b3bd6d63db06e1733c56d1ee28847deb988802452042ac99", func := "shuttlecock/shuttlecocklaw06.InternBack", spec := "internBack", inPlace := ["internal/abi.NoEscape"], unfollowed := true, recurses := true, apart := false, narrowed := true }
def InternBackUptoSaid : Prop := internBackUptoRow.holds Try.pinned (OpenSpec.upto internBackSpec)

/-- 'shuttlecocklaw06.InternApart', WHERE WHAT IT READS IS OF BULK AT MOST 1048576: true; the input reads as it did. -/
def internApartUptoRow : OpenClaim := { program := "ytijjfomnidckdaa", sum := "62fde2fd87178bc3b3bd6d63db06e1733c56d1ee28847deb988802452042ac99", func := "shuttlecock/shuttlecocklaw06.InternApart", spec := "internApart", inPlace := ["internal/abi.NoEscape"], unfollowed := true, recurses := true, apart := false, narrowed := true }
def InternApartUptoSaid : Prop := internApartUptoRow.holds Try.pinned (OpenSpec.upto internApartSpec)

/-- 'shuttlecocklaw06.InternMany', WHERE WHAT IT READS IS OF BULK AT MOST 1048576: true; the input reads as it did. -/
def internManyUptoRow : OpenClaim := { program := "ytijjfomnidckdaa", sum := "62fde2fd87178bc3b3bd6d63db06e1733c56d1ee28847deb988802452042ac99", func := "shuttlecock/shuttlecocklaw06.InternMany", spec := "internMany", inPlace := ["internal/abi.NoEscape"], unfollowed := true, recurses := true, apart := false, narrowed := true }
def InternManyUptoSaid : Prop := internManyUptoRow.holds Try.pinned (OpenSpec.upto internManySpec)

/-- 'shuttlecocklaw06.InternFrames', WHERE WHAT IT READS IS OF BULK AT MOST 1048576: true; the input reads as it did. -/
def internFramesUptoRow : OpenClaim := { program := "ytijjfomnidckdaa", sum := "62fde2fd87178bc3b3bd6d63db06e1733c56d1ee28847deb988802452042ac99", func := "shuttlecock/shuttlecocklaw06.InternFrames", spec := "internFrames", inPlace := ["internal/abi.NoEscape"], unfollowed := true, recurses := true, apart := false, narrowed := true }
def InternFramesUptoSaid : Prop := internFramesUptoRow.holds Try.pinned (OpenSpec.upto internFramesSpec)

end Rows
end Go.Proofs.Ytijjfomnidckdaa
