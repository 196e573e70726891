/-
  No cell of these rows narrows 'for every input' (looked for: loops, veiled, ifaces, maps, wideKeys, modest, calm, conditions, laid).
  DERIVED. THE GIVEN ROWS OF THIS SEAT. 5 by the template 'for every input the law returns true; each argument reads behind the call as it read before'; 0 by the template 'total and deterministic' (their statements: YthfdhoegboeaeaaTotals.lean).
  GIVEN WITH THE SEED: the statements are not yours to turn. If you find one false, say at which input.
  Laid BY PROGRAM, IN A SANDBOX (cutbox-rows.mjs): the forced cells as the released guide's own fill.sh prints them over the translation a07381421f5a7989… (all of the seat's roots in one cut). By AI agents, Wed Nov 11 2026. No macro, syntax, notation, axiom, sorry.
-/
import Derived.Test.YthfdhoegboeaeaaChecked
import GoSem.Claim
import GoSem.ClaimJoined
import GoSem.ClaimMapViews
import Derived.JoinedTies
import Derived.KernelRfl
namespace Go.Proofs.Ythfdhoegboeaeaa
/- THE CELL 'sum', in the pinned program and in every row, IS THE sha256 OF THE DUMP (.gsa) THAT YthfdhoegboeaeaaProg.lean LOADS. Nothing in Lean hashes anything: it is a label: what it is worth is what the hold of that sum in a sandbox is worth. -/
noncomputable def Try.pinned : Pinned := { name := "ythfdhoegboeaeaa", sum := "a07381421f5a7989f74229b823fe2a9d2405b6307766e1f5dc969229abd9e213", checked := Try.checked }
namespace Rows
def none {H : Type} : Left H := { results := [], args := [] }

/-- 'shuttlecocklaw08.SnapTells': WHATEVER THE INPUT: true; the input reads as it did. -/
def snapTellsSpec : ChangeSpec := { name := "snapTells", fn := fun _ => fun
  | [d1, d2] => { results := [.lit (.bool true)], args := [d1, d2] }
  | _ => none }
def snapTellsRow : OpenClaim := { program := "ythfdhoegboeaeaa", sum := "a07381421f5a7989f74229b823fe2a9d2405b6307766e1f5dc969229abd9e213", func := "shuttlecock/shuttlecocklaw08.SnapTells", spec := "snapTells", inPlace := ["internal/abi.NoEscape"], unfollowed := true, recurses := true, apart := false }
def SnapTellsSaid : Prop := snapTellsRow.holds Try.pinned (OpenSpec.ofChange snapTellsSpec)

/-- ITS FALSE NEIGHBOUR: 'it returns false'. Refute it at one input. -/
def snapTellsWrong : ChangeSpec := { name := "snapTells", fn := fun _ => fun
  | [d1, d2] => { results := [.lit (.bool false)], args := [d1, d2] }
  | _ => none }
def SnapTellsWrongFalsely : Prop := snapTellsRow.holds Try.pinned (OpenSpec.ofChange snapTellsWrong)

/-- 'shuttlecocklaw08.SnapBack': WHATEVER THE INPUT: true; the input reads as it did. -/
def snapBackSpec : ChangeSpec := { name := "snapBack", fn := fun _ => fun
  | [d1, d2, d3] => { results := [.lit (.bool true)], args := [d1, d2, d3] }
  | _ => none }
def snapBackRow : OpenClaim := { program := "ythfdhoegboeaeaa", sum := "a07381421f5a7989f74229b823fe2a9d2405b6307766e1f5dc969229abd9e213", func := "shuttlecock/shuttlecocklaw08.SnapBack", spec := "snapBack", inPlace := ["internal/abi.NoEscape"], unfollowed := true, recurses := true, apart := false }
def SnapBackSaid : Prop := snapBackRow.holds Try.pinned (OpenSpec.ofChange snapBackSpec)

/-- ITS FALSE NEIGHBOUR: 'it returns false'. Refute it at one input. -/
def snapBackWrong : ChangeSpec := { name := "snapBack", fn := fun _ => fun
  | [d1, d2, d3] => { results := [.lit (.bool false)], args := [d1, d2, d3] }
  | _ => none }
def SnapBackWrongFalsely : Prop := snapBackRow.holds Try.pinned (OpenSpec.ofChange snapBackWrong)

/-- 'shuttlecocklaw08.SnapMs': WHATEVER THE INPUT: true; the input reads as it did. -/
def snapMsSpec : ChangeSpec := { name := "snapMs", fn := fun _ => fun
  | [d1, d2] => { results := [.lit (.bool true)], args := [d1, d2] }
  | _ => none }
def snapMsRow : OpenClaim := { program := "ythfdhoegboeaeaa", sum := "a07381421f5a7989f74229b823fe2a9d2405b6307766e1f5dc969229abd9e213", func := "shuttlecock/shuttlecocklaw08.SnapMs", spec := "snapMs", inPlace := ["internal/abi.NoEscape"], unfollowed := true, recurses := true, apart := false }
def SnapMsSaid : Prop := snapMsRow.holds Try.pinned (OpenSpec.ofChange snapMsSpec)

/-- ITS FALSE NEIGHBOUR: 'it returns false'. Refute it at one input. -/
def snapMsWrong : ChangeSpec := { name := "snapMs", fn := fun _ => fun
  | [d1, d2] => { results := [.lit (.bool false)], args := [d1, d2] }
  | _ => none }
def SnapMsWrongFalsely : Prop := snapMsRow.holds Try.pinned (OpenSpec.ofChange snapMsWrong)

/-- 'shuttlecocklaw08.SnapApart': WHATEVER THE INPUT: true; the input reads as it did. -/
def snapApartSpec : ChangeSpec := { name := "snapApart", fn := fun _ => fun
  | [d1, d2, d3] => { results := [.lit (.bool true)], args := [d1, d2, d3] }
  | _ => none }
def snapApartRow : OpenClaim := { program := "ythfdhoegboeaeaa", sum := "a07381421f5a7989f74229b823fe2a9d2405b6307766e1f5dc969229abd9e213", func := "shuttlecock/shuttlecocklaw08.SnapApart", spec := "snapApart", inPlace := ["internal/abi.NoEscape"], unfollowed := true, recurses := true, apart := false }
def SnapApartSaid : Prop := snapApartRow.holds Try.pinned (OpenSpec.ofChange snapApartSpec)

/-- ITS FALSE NEIGHBOUR: 'it returns false'. Refute it at one input. -/
def snapApartWrong : ChangeSpec := { name := "snapApart", fn := fun _ => fun
  | [d1, d2, d3] => { results := [.lit (.bool false)], args := [d1, d2, d3] }
  | _ => none }
def SnapApartWrongFalsely : Prop := snapApartRow.holds Try.pinned (OpenSpec.ofChange snapApartWrong)

/-- 'shuttlecocklaw08.SnapMany': WHATEVER THE INPUT: true; the input reads as it did. -/
def snapManySpec : ChangeSpec := { name := "snapMany", fn := fun _ => fun
  | [d1, d2] => { results := [.lit (.bool true)], args := [d1, d2] }
  | _ => none }
def snapManyRow : OpenClaim := { program := "ythfdhoegboeaeaa", sum := "a07381421f5a7989f74229b823fe2a9d2405b6307766e1f5dc969229abd9e213", func := "shuttlecock/shuttlecocklaw08.SnapMany", spec := "snapMany", inPlace := ["internal/abi.NoEscape"], unfollowed := true, recurses := true, apart := false }
def SnapManySaid : Prop := snapManyRow.holds Try.pinned (OpenSpec.ofChange snapManySpec)

/-- ITS FALSE NEIGHBOUR: 'it returns false'. Refute it at one input. -/
def snapManyWrong : ChangeSpec := { name := "snapMany", fn := fun _ => fun
  | [d1, d2] => { results := [.lit (.bool false)], args := [d1, d2] }
  | _ => none }
def SnapManyWrongFalsely : Prop := snapManyRow.holds Try.pinned (OpenSpec.ofChange snapManyWrong)

/- THE SECOND FORM. 'bulk': how many values and letters a reading holds, each counted each time it is reached (what is shared counts as often as it is met; a slice's spare places count too). A statement '..UptoSaid' is the law's where the arguments, and the package variables that the reading takes, are together of bulk at most 1048576: NARROWER than '..Said'. Prove '..Said' where nothing that the law and all that it calls make is longer than what came in: it says more and counts as full. Else prove '..UptoSaid'. A law counts once. -/
mutual
def uptoBulk {H : Type} : DataW H → Nat
  | .lit (.string bytes) => bytes.length + 1
  | .lit _ => 1
  | .nil => 1
  | .ptr d => uptoBulk d + 1
  | .slice elems spare => uptoBulkAll elems + uptoBulkAll spare + 1
  | .agg parts => uptoBulkAll parts + 1
  | .iface _ d => uptoBulk d + 1
  | .map entries => uptoBulkEntries entries + 1
  | .held _ => 1
def uptoBulkAll {H : Type} : List (DataW H) → Nat
  | [] => 0
  | d :: r => uptoBulk d + uptoBulkAll r
def uptoBulkEntries {H : Type} : List (Lit × DataW H) → Nat
  | [] => 0
  | x :: r => uptoBulkEntry x + uptoBulkEntries r
def uptoBulkEntry {H : Type} : Lit × DataW H → Nat
  | (.string bytes, d) => bytes.length + uptoBulk d + 1
  | (_, d) => uptoBulk d + 1
 end
def uptoSmall : (H : Type) → List (DataW H) → Bool := fun _ ds => decide (uptoBulkAll ds ≤ 1048576)
def OpenSpec.upto (s : _root_.Go.ChangeSpec) : _root_.Go.OpenSpec := { _root_.Go.OpenSpec.ofChange s with cond := some uptoSmall }

/-- 'shuttlecocklaw08.SnapTells', WHERE WHAT IT READS IS OF BULK AT MOST 1048576: true; the input reads as it did. -/
def snapTellsUptoRow : OpenClaim := { program := "ythfdhoegboeaeaa", sum := "a07381421f5a7989f74229b823fe2a9d2405b6307766e1f5dc969229abd9e213", func := "shuttlecock/shuttlecocklaw08.SnapTells", spec := "snapTells", inPlace := ["internal/abi.NoEscape"], unfollowed := true, recurses := true, apart := false, narrowed := true }
def SnapTellsUptoSaid : Prop := snapTellsUptoRow.holds Try.pinned (OpenSpec.upto snapTellsSpec)

/-- 'shuttlecocklaw08.SnapBack', WHERE WHAT IT READS IS OF BULK AT MOST 1048576: true; the input reads as it did. -/
def snapBackUptoRow : OpenClaim := { program := "ythfdhoegboeaeaa", sum := "a07381421f5a7989f74229b823fe2a9d2405b6307766e1f5dc969229abd9e213", func := "shuttlecock/shuttlecocklaw08.SnapBack", spec := "snapBack", inPlace := ["internal/abi.NoEscape"], unfollowed := true, recurses := true, apart := false, narrowed := true }
def SnapBackUptoSaid : Prop := snapBackUptoRow.holds Try.pinned (OpenSpec.upto snapBackSpec)

/-- 'shuttlecocklaw08.SnapMs', WHERE WHAT IT READS IS OF BULK AT MOST 1048576: true; the input reads as it did. -/
def snapMsUptoRow : OpenClaim := { program := "ythfdhoegboeaeaa", sum := "a07381421f5a7989f74229b823fe2a9d2405b6307766e1f5dc969229abd9e213", func := "shuttlecock/shuttlecocklaw08.SnapMs", spec := "snapMs", inPlace := ["internal/abi.NoEscape"], unfollowed := true, recurses := true, apart := false, narrowed := true }
def SnapMsUptoSaid : Prop := snapMsUptoRow.holds Try.pinned (OpenSpec.upto snapMsSpec)

/-- 'shuttlecocklaw08.SnapApart', WHERE WHAT IT READS IS OF BULK AT MOST 1048576: true; the input reads as it did. -/
def snapApartUptoRow : OpenClaim := { program := "ythfdhoegboeaeaa", sum := "a07381421f5a7989f74229b823fe2a9d2405b6307766e1f5dc969229abd9e213", func := "shuttlecock/shuttlecocklaw08.SnapApart", spec := "snapApart", inPlace := ["internal/abi.NoEscape"], unfollowed := true, recurses := true, apart := false, narrowed := true }
def SnapApartUptoSaid : Prop := snapApartUptoRow.holds Try.pinned (OpenSpec.upto snapApartSpec)

/-- 'shuttlecocklaw08.SnapMany', WHERE WHAT IT READS IS OF BULK AT MOST 1048576: true; the input reads as it did. -/
def snapManyUptoRow : OpenClaim := { program := "ythfdhoegboeaeaa", sum := "a07381421f5a7989f74229b823fe2a9d2405b6307766e1f5dc969229abd9e213", func := "shuttlecock/shuttlecocklaw08.SnapMany", spec := "snapMany", inPlace := ["internal/abi.NoEscape"], unfollowed := true, recurses := true, apart := false, narrowed := true }
def SnapManyUptoSaid : Prop := snapManyUptoRow.holds Try.pinned (OpenSpec.upto snapManySpec)

end Rows
end Go.Proofs.Ythfdhoegboeaeaa
