/-
  No cell of these rows narrows 'for every input' (looked for: loops, veiled, ifaces, maps, wideKeys, modest, calm, conditions, laid).
  DERIVED. THE GIVEN ROWS OF THIS SEAT. 5 by the template 'for every input the law returns true; each argument reads behind the call as it read before'; 0 by the template 'total and deterministic' (their statements: YtcnbddcofgolmaaTotals.lean).
  GIVEN WITH THE SEED: the statements are not yours to turn. If you find one false, say at which input.
  Laid BY PROGRAM, IN A SANDBOX (cutbox-rows.mjs): the forced cells as the released guide's own fill.sh prints them over the translation 9377031f404bae18… (all of the seat's roots in one cut). By AI agents, Wed Nov 11 2026. No macro, syntax, notation, axiom, sorry.
-/
import Derived.Test.YtcnbddcofgolmaaChecked
import GoSem.Claim
import GoSem.ClaimJoined
import GoSem.ClaimMapViews
import Derived.JoinedTies
import Derived.KernelRfl
namespace Go.Proofs.Ytcnbddcofgolmaa
/- THE CELL 'sum', in the pinned program and in every row, IS THE sha256 OF THE DUMP (.gsa) THAT YtcnbddcofgolmaaProg.lean LOADS. Nothing in Lean hashes anything: it is a label: what it is worth is what the hold of that sum in a sandbox is worth. -/
noncomputable def Try.pinned : Pinned := { name := "ytcnbddcofgolmaa", sum := "9377031f404bae185156bbd5e08f51f2483fc3cb6dbe91572713137b002ba1b0", checked := Try.checked }
namespace Rows
def none {H : Type} : Left H := { results := [], args := [] }

/-- 'shuttlecocklaw01.VarintTells': WHATEVER THE INPUT: true; the input reads as it did. -/
def varintTellsSpec : ChangeSpec := { name := "varintTells", fn := fun _ => fun
  | [d1, d2, d3] => { results := [.lit (.bool true)], args := [d1, d2, d3] }
  | _ => none }
def varintTellsRow : OpenClaim := { program := "ytcnbddcofgolmaa", sum := "9377031f404bae185156bbd5e08f51f2483fc3cb6dbe91572713137b002ba1b0", func := "shuttlecock/shuttlecocklaw01.VarintTells", spec := "varintTells", apart := false }
def VarintTellsSaid : Prop := varintTellsRow.holds Try.pinned (OpenSpec.ofChange varintTellsSpec)

/-- ITS FALSE NEIGHBOUR: 'it returns false'. Refute it at one input. -/
def varintTellsWrong : ChangeSpec := { name := "varintTells", fn := fun _ => fun
  | [d1, d2, d3] => { results := [.lit (.bool false)], args := [d1, d2, d3] }
  | _ => none }
def VarintTellsWrongFalsely : Prop := varintTellsRow.holds Try.pinned (OpenSpec.ofChange varintTellsWrong)

/-- 'shuttlecocklaw01.VarintBack': WHATEVER THE INPUT: true; the input reads as it did. -/
def varintBackSpec : ChangeSpec := { name := "varintBack", fn := fun _ => fun
  | [d1, d2, d3] => { results := [.lit (.bool true)], args := [d1, d2, d3] }
  | _ => none }
def varintBackRow : OpenClaim := { program := "ytcnbddcofgolmaa", sum := "9377031f404bae185156bbd5e08f51f2483fc3cb6dbe91572713137b002ba1b0", func := "shuttlecock/shuttlecocklaw01.VarintBack", spec := "varintBack", apart := false }
def VarintBackSaid : Prop := varintBackRow.holds Try.pinned (OpenSpec.ofChange varintBackSpec)

/-- ITS FALSE NEIGHBOUR: 'it returns false'. Refute it at one input. -/
def varintBackWrong : ChangeSpec := { name := "varintBack", fn := fun _ => fun
  | [d1, d2, d3] => { results := [.lit (.bool false)], args := [d1, d2, d3] }
  | _ => none }
def VarintBackWrongFalsely : Prop := varintBackRow.holds Try.pinned (OpenSpec.ofChange varintBackWrong)

/-- 'shuttlecocklaw01.VarintCut': WHATEVER THE INPUT: true; the input reads as it did. -/
def varintCutSpec : ChangeSpec := { name := "varintCut", fn := fun _ => fun
  | [d1, d2, d3] => { results := [.lit (.bool true)], args := [d1, d2, d3] }
  | _ => none }
def varintCutRow : OpenClaim := { program := "ytcnbddcofgolmaa", sum := "9377031f404bae185156bbd5e08f51f2483fc3cb6dbe91572713137b002ba1b0", func := "shuttlecock/shuttlecocklaw01.VarintCut", spec := "varintCut", apart := false }
def VarintCutSaid : Prop := varintCutRow.holds Try.pinned (OpenSpec.ofChange varintCutSpec)

/-- ITS FALSE NEIGHBOUR: 'it returns false'. Refute it at one input. -/
def varintCutWrong : ChangeSpec := { name := "varintCut", fn := fun _ => fun
  | [d1, d2, d3] => { results := [.lit (.bool false)], args := [d1, d2, d3] }
  | _ => none }
def VarintCutWrongFalsely : Prop := varintCutRow.holds Try.pinned (OpenSpec.ofChange varintCutWrong)

/-- 'shuttlecocklaw01.VarintLen': WHATEVER THE INPUT: true; the input reads as it did. -/
def varintLenSpec : ChangeSpec := { name := "varintLen", fn := fun _ => fun
  | [d] => { results := [.lit (.bool true)], args := [d] }
  | _ => none }
def varintLenRow : OpenClaim := { program := "ytcnbddcofgolmaa", sum := "9377031f404bae185156bbd5e08f51f2483fc3cb6dbe91572713137b002ba1b0", func := "shuttlecock/shuttlecocklaw01.VarintLen", spec := "varintLen", apart := false }
def VarintLenSaid : Prop := varintLenRow.holds Try.pinned (OpenSpec.ofChange varintLenSpec)

/-- ITS FALSE NEIGHBOUR: 'it returns false'. Refute it at one input. -/
def varintLenWrong : ChangeSpec := { name := "varintLen", fn := fun _ => fun
  | [d] => { results := [.lit (.bool false)], args := [d] }
  | _ => none }
def VarintLenWrongFalsely : Prop := varintLenRow.holds Try.pinned (OpenSpec.ofChange varintLenWrong)

/-- 'shuttlecocklaw01.VarintLong': WHATEVER THE INPUT: true; the input reads as it did. -/
def varintLongSpec : ChangeSpec := { name := "varintLong", fn := fun _ => fun
  | [d1, d2, d3] => { results := [.lit (.bool true)], args := [d1, d2, d3] }
  | _ => none }
def varintLongRow : OpenClaim := { program := "ytcnbddcofgolmaa", sum := "9377031f404bae185156bbd5e08f51f2483fc3cb6dbe91572713137b002ba1b0", func := "shuttlecock/shuttlecocklaw01.VarintLong", spec := "varintLong", apart := false }
def VarintLongSaid : Prop := varintLongRow.holds Try.pinned (OpenSpec.ofChange varintLongSpec)

/-- ITS FALSE NEIGHBOUR: 'it returns false'. Refute it at one input. -/
def varintLongWrong : ChangeSpec := { name := "varintLong", fn := fun _ => fun
  | [d1, d2, d3] => { results := [.lit (.bool false)], args := [d1, d2, d3] }
  | _ => none }
def VarintLongWrongFalsely : Prop := varintLongRow.holds Try.pinned (OpenSpec.ofChange varintLongWrong)

/- THE SECOND FORM. 'bulk': how many values and letters a reading holds, each counted each time it is reached (what is shared counts as often as it is met; a slice's spare places count too). A statement '..UptoSaid' is the law's where the arguments, and the package variables that the reading takes, are together of bulk at most 1048576: NARROWER than '..Said'. Prove '..Said' where nothing that the law and all that it calls make is longer than what came in: it says more and counts as full. Else prove '..UptoSaid'. A law counts once. -/
mutual
def uptoBulk {H : Type} : DataW H → Nat
  | .lit (.string bytes) => bytes.length + 1
  | .lit _ => 1
  | .nil => 1
  | .ptr d => uptoBulk d + 1
  | .slice elems spare => uptoBulkAll elems + uptoBulkAll spare + 1
  | .agg parts => uptoBulkAll parts + 1
  | .iface _ d => uptoBulk d + 1
  | .map entries => uptoBulkEntries entries + 1
  | .held _ => 1
def uptoBulkAll {H : Type} : List (DataW H) → Nat
  | [] => 0
  | d :: r => uptoBulk d + uptoBulkAll r
def uptoBulkEntries {H : Type} : List (Lit × DataW H) → Nat
  | [] => 0
  | x :: r => uptoBulkEntry x + uptoBulkEntries r
def uptoBulkEntry {H : Type} : Lit × DataW H → Nat
  | (.string bytes, d) => bytes.length + uptoBulk d + 1
  | (_, d) => uptoBulk d + 1
 end
def uptoSmall : (H : Type) → List (DataW H) → Bool := fun _ ds => decide (uptoBulkAll ds ≤ 1048576)
def OpenSpec.upto (s : _root_.Go.ChangeSpec) : _root_.Go.OpenSpec := { _root_.Go.OpenSpec.ofChange s with cond := some uptoSmall }

/-- 'shuttlecocklaw01.VarintTells', WHERE WHAT IT READS IS OF BULK AT MOST 1048576: true; the input reads as it did. -/
def varintTellsUptoRow : OpenClaim := { program := "ytcnbddcofgolmaa", sum := "9377031f404bae185156bbd5e08f51f2483fc3cb6dbe91572713137b002ba1b0", func := "shuttlecock/shuttlecocklaw01.VarintTells", spec := "varintTells", apart := false, narrowed := true }
def VarintTellsUptoSaid : Prop := varintTellsUptoRow.holds Try.pinned (OpenSpec.upto varintTellsSpec)

/-- 'shuttlecocklaw01.VarintBack', WHERE WHAT IT READS IS OF BULK AT MOST 1048576: true; the input reads as it did. -/
def varintBackUptoRow : OpenClaim := { program := "ytcnbddcofgolmaa", sum := "9377031f404bae185156bbd5e08f51f2483fc3cb6dbe91572713137b002ba1b0", func := "shuttlecock/shuttlecocklaw01.VarintBack", spec := "varintBack", apart := false, narrowed := true }
def VarintBackUptoSaid : Prop := varintBackUptoRow.holds Try.pinned (OpenSpec.upto varintBackSpec)

/-- 'shuttlecocklaw01.VarintCut', WHERE WHAT IT READS IS OF BULK AT MOST 1048576: true; the input reads as it did. -/
def varintCutUptoRow : OpenClaim := { program := "ytcnbddcofgolmaa", sum := "9377031f404bae185156bbd5e08f51f2483fc3cb6dbe91572713137b002ba1b0", func := "shuttlecock/shuttlecocklaw01.VarintCut", spec := "varintCut", apart := false, narrowed := true }
def VarintCutUptoSaid : Prop := varintCutUptoRow.holds Try.pinned (OpenSpec.upto varintCutSpec)

/-- 'shuttlecocklaw01.VarintLen', WHERE WHAT IT READS IS OF BULK AT MOST 1048576: true; the input reads as it did. -/
def varintLenUptoRow : OpenClaim := { program := "ytcnbddcofgolmaa", sum := "9377031f404bae185156bbd5e08f51f2483fc3cb6dbe91572713137b002ba1b0", func := "shuttlecock/shuttlecocklaw01.VarintLen", spec := "varintLen", apart := false, narrowed := true }
def VarintLenUptoSaid : Prop := varintLenUptoRow.holds Try.pinned (OpenSpec.upto varintLenSpec)

/-- 'shuttlecocklaw01.VarintLong', WHERE WHAT IT READS IS OF BULK AT MOST 1048576: true; the input reads as it did. -/
def varintLongUptoRow : OpenClaim := { program := "ytcnbddcofgolmaa", sum := "9377031f404bae185156bbd5e08f51f2483fc3cb6dbe91572713137b002ba1b0", func := "shuttlecock/shuttlecocklaw01.VarintLong", spec := "varintLong", apart := false, narrowed := true }
def VarintLongUptoSaid : Prop := varintLongUptoRow.holds Try.pinned (OpenSpec.upto varintLongSpec)

end Rows
end Go.Proofs.Ytcnbddcofgolmaa
