/-
  No cell of these rows narrows 'for every input' (looked for: loops, veiled, ifaces, maps, wideKeys, modest, calm, conditions, laid).
  DERIVED. THE GIVEN ROWS OF THIS SEAT. 4 by the template 'for every input the law returns true; each argument reads behind the call as it read before'; 0 by the template 'total and deterministic' (their statements: YtlaneipibmjmbaaTotals.lean).
  GIVEN WITH THE SEED: the statements are not yours to turn. If you find one false, say at which input.
  Laid BY PROGRAM, IN A SANDBOX (cutbox-rows.mjs): the forced cells as the released guide's own fill.sh prints them over the translation 97645e6d3daafad0… (all of the seat's roots in one cut). By AI agents, Wed Nov 11 2026. No macro, syntax, notation, axiom, sorry.
-/
import Derived.Test.YtlaneipibmjmbaaChecked
import GoSem.Claim
import GoSem.ClaimJoined
import GoSem.ClaimMapViews
import Derived.JoinedTies
import Derived.KernelRfl
namespace Go.Proofs.Ytlaneipibmjmbaa
/- THE CELL 'sum', in the pinned program and in every row, IS THE sha256 OF THE DUMP (.gsa) THAT YtlaneipibmjmbaaProg.lean LOADS. Nothing in Lean hashes anything: it is a label: what it is worth is what the hold of that sum in a sandbox is worth. -/
noncomputable def Try.pinned : Pinned := { name := "ytlaneipibmjmbaa", sum := "97645e6d3daafad0a0c4ae9c5ca3725791fb3471bbc17f3180a9b308ab5745f9", checked := Try.checked }
namespace Rows
def none {H : Type} : Left H := { results := [], args := [] }

/-- 'shuttlecocklaw11.SleepTells': WHATEVER THE INPUT: true; the input reads as it did. -/
def sleepTellsSpec : ChangeSpec := { name := "sleepTells", fn := fun _ => fun
  | [d1, d2, d3] => { results := [.lit (.bool true)], args := [d1, d2, d3] }
  | _ => none }
def sleepTellsRow : OpenClaim := { program := "ytlaneipibmjmbaa", sum := "97645e6d3daafad0a0c4ae9c5ca3725791fb3471bbc17f3180a9b308ab5745f9", func := "shuttlecock/shuttlecocklaw11.SleepTells", spec := "sleepTells", inPlace := ["slices.overlaps[shuttlecock/api.Timer]"], unfollowed := true, recurses := true, apart := false }
def SleepTellsSaid : Prop := sleepTellsRow.holds Try.pinned (OpenSpec.ofChange sleepTellsSpec)

/-- ITS FALSE NEIGHBOUR: 'it returns false'. Refute it at one input. -/
def sleepTellsWrong : ChangeSpec := { name := "sleepTells", fn := fun _ => fun
  | [d1, d2, d3] => { results := [.lit (.bool false)], args := [d1, d2, d3] }
  | _ => none }
def SleepTellsWrongFalsely : Prop := sleepTellsRow.holds Try.pinned (OpenSpec.ofChange sleepTellsWrong)

/-- 'shuttlecocklaw11.SleepOrder': WHATEVER THE INPUT: true; the input reads as it did. -/
def sleepOrderSpec : ChangeSpec := { name := "sleepOrder", fn := fun _ => fun
  | [d1, d2, d3] => { results := [.lit (.bool true)], args := [d1, d2, d3] }
  | _ => none }
def sleepOrderRow : OpenClaim := { program := "ytlaneipibmjmbaa", sum := "97645e6d3daafad0a0c4ae9c5ca3725791fb3471bbc17f3180a9b308ab5745f9", func := "shuttlecock/shuttlecocklaw11.SleepOrder", spec := "sleepOrder", inPlace := ["slices.overlaps[shuttlecock/api.Timer]"], unfollowed := true, recurses := true, apart := false }
def SleepOrderSaid : Prop := sleepOrderRow.holds Try.pinned (OpenSpec.ofChange sleepOrderSpec)

/-- ITS FALSE NEIGHBOUR: 'it returns false'. Refute it at one input. -/
def sleepOrderWrong : ChangeSpec := { name := "sleepOrder", fn := fun _ => fun
  | [d1, d2, d3] => { results := [.lit (.bool false)], args := [d1, d2, d3] }
  | _ => none }
def SleepOrderWrongFalsely : Prop := sleepOrderRow.holds Try.pinned (OpenSpec.ofChange sleepOrderWrong)

/-- 'shuttlecocklaw11.SleepMany': WHATEVER THE INPUT: true; the input reads as it did. -/
def sleepManySpec : ChangeSpec := { name := "sleepMany", fn := fun _ => fun
  | [d1, d2] => { results := [.lit (.bool true)], args := [d1, d2] }
  | _ => none }
def sleepManyRow : OpenClaim := { program := "ytlaneipibmjmbaa", sum := "97645e6d3daafad0a0c4ae9c5ca3725791fb3471bbc17f3180a9b308ab5745f9", func := "shuttlecock/shuttlecocklaw11.SleepMany", spec := "sleepMany", inPlace := ["slices.overlaps[shuttlecock/api.Timer]"], unfollowed := true, recurses := true, apart := false }
def SleepManySaid : Prop := sleepManyRow.holds Try.pinned (OpenSpec.ofChange sleepManySpec)

/-- ITS FALSE NEIGHBOUR: 'it returns false'. Refute it at one input. -/
def sleepManyWrong : ChangeSpec := { name := "sleepMany", fn := fun _ => fun
  | [d1, d2] => { results := [.lit (.bool false)], args := [d1, d2] }
  | _ => none }
def SleepManyWrongFalsely : Prop := sleepManyRow.holds Try.pinned (OpenSpec.ofChange sleepManyWrong)

/-- 'shuttlecocklaw11.SleepNext': WHATEVER THE INPUT: true; the input reads as it did. -/
def sleepNextSpec : ChangeSpec := { name := "sleepNext", fn := fun _ => fun
  | [d] => { results := [.lit (.bool true)], args := [d] }
  | _ => none }
def sleepNextRow : OpenClaim := { program := "ytlaneipibmjmbaa", sum := "97645e6d3daafad0a0c4ae9c5ca3725791fb3471bbc17f3180a9b308ab5745f9", func := "shuttlecock/shuttlecocklaw11.SleepNext", spec := "sleepNext", inPlace := ["slices.overlaps[shuttlecock/api.Timer]"], unfollowed := true, recurses := true, apart := false }
def SleepNextSaid : Prop := sleepNextRow.holds Try.pinned (OpenSpec.ofChange sleepNextSpec)

/-- ITS FALSE NEIGHBOUR: 'it returns false'. Refute it at one input. -/
def sleepNextWrong : ChangeSpec := { name := "sleepNext", fn := fun _ => fun
  | [d] => { results := [.lit (.bool false)], args := [d] }
  | _ => none }
def SleepNextWrongFalsely : Prop := sleepNextRow.holds Try.pinned (OpenSpec.ofChange sleepNextWrong)

/- THE SECOND FORM. 'bulk': how many values and letters a reading holds, each counted each time it is reached (what is shared counts as often as it is met; a slice's spare places count too). A statement '..UptoSaid' is the law's where the arguments, and the package variables that the reading takes, are together of bulk at most 1048576: NARROWER than '..Said'. Prove '..Said' where nothing that the law and all that it calls make is longer than what came in: it says more and counts as full. Else prove '..UptoSaid'. A law counts once. -/
mutual
def uptoBulk {H : Type} : DataW H → Nat
  | .lit (.string bytes) => bytes.length + 1
  | .lit _ => 1
  | .nil => 1
  | .ptr d => uptoBulk d + 1
  | .slice elems spare => uptoBulkAll elems + uptoBulkAll spare + 1
  | .agg parts => uptoBulkAll parts + 1
  | .iface _ d => uptoBulk d + 1
  | .map entries => uptoBulkEntries entries + 1
  | .held _ => 1
def uptoBulkAll {H : Type} : List (DataW H) → Nat
  | [] => 0
  | d :: r => uptoBulk d + uptoBulkAll r
def uptoBulkEntries {H : Type} : List (Lit × DataW H) → Nat
  | [] => 0
  | x :: r => uptoBulkEntry x + uptoBulkEntries r
def uptoBulkEntry {H : Type} : Lit × DataW H → Nat
  | (.string bytes, d) => bytes.length + uptoBulk d + 1
  | (_, d) => uptoBulk d + 1
 end
def uptoSmall : (H : Type) → List (DataW H) → Bool := fun _ ds => decide (uptoBulkAll ds ≤ 1048576)
def OpenSpec.upto (s : _root_.Go.ChangeSpec) : _root_.Go.OpenSpec := { _root_.Go.OpenSpec.ofChange s with cond := some uptoSmall }

/-- 'shuttlecocklaw11.SleepTells', WHERE WHAT IT READS IS OF BULK AT MOST 1048576: true; the input reads as it did. -/
def sleepTellsUptoRow : OpenClaim := { program := "ytlaneipibmjmbaa", sum := "97645e6d3daafad0a0c4ae9c5ca3725791fb3471bbc17f3180a9b308ab5745f9", func := "shuttlecock/shuttlecocklaw11.SleepTells", spec := "sleepTells", inPlace := ["slices.overlaps[shuttlecock/api.Timer]"], unfollowed := true, recurses := true, apart := false, narrowed := true }
def SleepTellsUptoSaid : Prop := sleepTellsUptoRow.holds Try.pinned (OpenSpec.upto sleepTellsSpec)

/-- 'shuttlecocklaw11.SleepOrder', WHERE WHAT IT READS IS OF BULK AT MOST 1048576: true; the input reads as it did. -/
def sleepOrderUptoRow : OpenClaim := { program := "ytlaneipibmjmbaa", sum := "97645e6d3daafad0a0c4ae9c5ca3725791fb3471bbc17f3180a9b308ab5745f9", func := "shuttlecock/shuttlecocklaw11.SleepOrder", spec := "sleepOrder", inPlace := ["slices.overlaps[shuttlecock/api.Timer]"], unfollowed := true, recurses := true, apart := false, narrowed := true }
def SleepOrderUptoSaid : Prop := sleepOrderUptoRow.holds Try.pinned (OpenSpec.upto sleepOrderSpec)

/-- 'shuttlecocklaw11.SleepMany', WHERE WHAT IT READS IS OF BULK AT MOST 1048576: true; the input reads as it did. -/
def sleepManyUptoRow : OpenClaim := { program := "ytlaneipibmjmbaa", sum := "97645e6d3daafad0a0c4ae9c5ca3725791fb3471bbc17f3180a9b308ab5745f9", func := "shuttlecock/shuttlecocklaw11.SleepMany", spec := "sleepMany", inPlace := ["slices.overlaps[shuttlecock/api.Timer]"], unfollowed := true, recurses := true, apart := false, narrowed := true }
def SleepManyUptoSaid : Prop := sleepManyUptoRow.holds Try.pinned (OpenSpec.upto sleepManySpec)

/-- 'shuttlecocklaw11.SleepNext', WHERE WHAT IT READS IS OF BULK AT MOST 1048576: true; the input reads as it did. -/
def sleepNextUptoRow : OpenClaim := { program := "ytlaneipibmjmbaa", sum := "97645e6d3daafad0a0c4ae9c5ca3725791fb3471bbc17f3180a9b308ab5745f9", func := "shuttlecock/shuttlecocklaw11.SleepNext", spec := "sleepNext", inPlace := ["slices.overlaps[shuttlecock/api.Timer]"], unfollowed := true, recurses := true, apart := false, narrowed := true }
def SleepNextUptoSaid : Prop := sleepNextUptoRow.holds Try.pinned (OpenSpec.upto sleepNextSpec)

end Rows
end Go.Proofs.Ytlaneipibmjmbaa
