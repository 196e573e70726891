/-
  No cell of these rows narrows 'for every input' (looked for: loops, veiled, ifaces, maps, wideKeys, modest, calm, conditions, laid).
  DERIVED. THE GIVEN ROWS OF THIS SEAT. 5 by the template 'for every input the law returns true; each argument reads behind the call as it read before'; 0 by the template 'total and deterministic' (their statements: YtfcombimnmkoeaaTotals.lean).
  GIVEN WITH THE SEED: the statements are not yours to turn. If you find one false, say at which input.
  Laid BY PROGRAM, IN A SANDBOX (cutbox-rows.mjs): the forced cells as the released guide's own fill.sh prints them over the translation 44d9c6ced8de5d38… (all of the seat's roots in one cut). By AI agents, Wed Nov 11 2026. No macro, syntax, notation, axiom, sorry.
-/
import Derived.Test.YtfcombimnmkoeaaChecked
import GoSem.Claim
import GoSem.ClaimJoined
import GoSem.ClaimMapViews
import Derived.JoinedTies
import Derived.KernelRfl
namespace Go.Proofs.Ytfcombimnmkoeaa
/- THE CELL 'sum', in the pinned program and in every row, IS THE sha256 OF THE DUMP (.gsa) THAT YtfcombimnmkoeaaProg.lean LOADS. Nothing in Lean hashes anything: it is a label: what it is worth is what the hold of that sum in a sandbox is worth. -/
noncomputable def Try.pinned : Pinned := { name := "ytfcombimnmkoeaa", sum := "44d9c6ced8de5d38fd633e038fee90e553efd4d12405a76c6d45749adb51a683", checked := Try.checked }
namespace Rows
def none {H : Type} : Left H := { results := [], args := [] }

/-- 'shuttlecocklaw05.BatchTells': WHATEVER THE INPUT: true; the input reads as it did. -/
def batchTellsSpec : ChangeSpec := { name := "batchTells", fn := fun _ => fun
  | [d1, d2, d3] => { results := [.lit (.bool true)], args := [d1, d2, d3] }
  | _ => none }
def batchTellsRow : OpenClaim := { program := "ytfcombimnmkoeaa", sum := "44d9c6ced8de5d38fd633e038fee90e553efd4d12405a76c6d45749adb51a683", func := "shuttlecock/shuttlecocklaw05.BatchTells", spec := "batchTells", inPlace := ["internal/abi.NoEscape", "sync/atomic.AddInt64", "sync/atomic.LoadUint32", "(*internal/sync.Mutex).Lock", "internal/race.Disable", "sync/atomic.CompareAndSwapInt32", "internal/race.Enable", "internal/race.Acquire", "(*internal/sync.Mutex).lockSlow", "internal/sync.runtime_canSpin", "internal/sync.runtime_doSpin", "internal/sync.throw", "internal/sync.runtime_nanotime", "internal/sync.runtime_SemacquireMutex", "sync/atomic.AddInt32", "(*internal/sync.Mutex).Unlock", "internal/race.ReleaseMerge", "(*internal/sync.Mutex).unlockSlow", "internal/sync.fatal", "internal/sync.runtime_Semrelease", "sync/atomic.StoreUint32"], unfollowed := true, recurses := true, apart := false }
def BatchTellsSaid : Prop := batchTellsRow.holds Try.pinned (OpenSpec.ofChange batchTellsSpec)

/-- ITS FALSE NEIGHBOUR: 'it returns false'. Refute it at one input. -/
def batchTellsWrong : ChangeSpec := { name := "batchTells", fn := fun _ => fun
  | [d1, d2, d3] => { results := [.lit (.bool false)], args := [d1, d2, d3] }
  | _ => none }
def BatchTellsWrongFalsely : Prop := batchTellsRow.holds Try.pinned (OpenSpec.ofChange batchTellsWrong)

/-- 'shuttlecocklaw05.BatchBack': WHATEVER THE INPUT: true; the input reads as it did. -/
def batchBackSpec : ChangeSpec := { name := "batchBack", fn := fun _ => fun
  | [d1, d2, d3] => { results := [.lit (.bool true)], args := [d1, d2, d3] }
  | _ => none }
def batchBackRow : OpenClaim := { program := "ytfcombimnmkoeaa", sum := "44d9c6ced8de5d38fd633e038fee90e553efd4d12405a76c6d45749adb51a683", func := "shuttlecock/shuttlecocklaw05.BatchBack", spec := "batchBack", inPlace := ["internal/abi.NoEscape", "sync/atomic.AddInt64", "sync/atomic.LoadUint32", "(*internal/sync.Mutex).Lock", "internal/race.Disable", "sync/atomic.CompareAndSwapInt32", "internal/race.Enable", "internal/race.Acquire", "(*internal/sync.Mutex).lockSlow", "internal/sync.runtime_canSpin", "internal/sync.runtime_doSpin", "internal/sync.throw", "internal/sync.runtime_nanotime", "internal/sync.runtime_SemacquireMutex", "sync/atomic.AddInt32", "(*internal/sync.Mutex).Unlock", "internal/race.ReleaseMerge", "(*internal/sync.Mutex).unlockSlow", "internal/sync.fatal", "internal/sync.runtime_Semrelease", "sync/atomic.StoreUint32"], unfollowed := true, recurses := true, apart := false }
def BatchBackSaid : Prop := batchBackRow.holds Try.pinned (OpenSpec.ofChange batchBackSpec)

/-- ITS FALSE NEIGHBOUR: 'it returns false'. Refute it at one input. -/
def batchBackWrong : ChangeSpec := { name := "batchBack", fn := fun _ => fun
  | [d1, d2, d3] => { results := [.lit (.bool false)], args := [d1, d2, d3] }
  | _ => none }
def BatchBackWrongFalsely : Prop := batchBackRow.holds Try.pinned (OpenSpec.ofChange batchBackWrong)

/-- 'shuttlecocklaw05.BatchTimes': WHATEVER THE INPUT: true; the input reads as it did. -/
def batchTimesSpec : ChangeSpec := { name := "batchTimes", fn := fun _ => fun
  | [d1, d2] => { results := [.lit (.bool true)], args := [d1, d2] }
  | _ => none }
def batchTimesRow : OpenClaim := { program := "ytfcombimnmkoeaa", sum := "44d9c6ced8de5d38fd633e038fee90e553efd4d12405a76c6d45749adb51a683", func := "shuttlecock/shuttlecocklaw05.BatchTimes", spec := "batchTimes", inPlace := ["internal/abi.NoEscape", "sync/atomic.AddInt64", "sync/atomic.LoadUint32", "(*internal/sync.Mutex).Lock", "internal/race.Disable", "sync/atomic.CompareAndSwapInt32", "internal/race.Enable", "internal/race.Acquire", "(*internal/sync.Mutex).lockSlow", "internal/sync.runtime_canSpin", "internal/sync.runtime_doSpin", "internal/sync.throw", "internal/sync.runtime_nanotime", "internal/sync.runtime_SemacquireMutex", "sync/atomic.AddInt32", "(*internal/sync.Mutex).Unlock", "internal/race.ReleaseMerge", "(*internal/sync.Mutex).unlockSlow", "internal/sync.fatal", "internal/sync.runtime_Semrelease", "sync/atomic.StoreUint32"], unfollowed := true, recurses := true, apart := false }
def BatchTimesSaid : Prop := batchTimesRow.holds Try.pinned (OpenSpec.ofChange batchTimesSpec)

/-- ITS FALSE NEIGHBOUR: 'it returns false'. Refute it at one input. -/
def batchTimesWrong : ChangeSpec := { name := "batchTimes", fn := fun _ => fun
  | [d1, d2] => { results := [.lit (.bool false)], args := [d1, d2] }
  | _ => none }
def BatchTimesWrongFalsely : Prop := batchTimesRow.holds Try.pinned (OpenSpec.ofChange batchTimesWrong)

/-- 'shuttlecocklaw05.BatchBase': WHATEVER THE INPUT: true; the input reads as it did. -/
def batchBaseSpec : ChangeSpec := { name := "batchBase", fn := fun _ => fun
  | [d1, d2] => { results := [.lit (.bool true)], args := [d1, d2] }
  | _ => none }
def batchBaseRow : OpenClaim := { program := "ytfcombimnmkoeaa", sum := "44d9c6ced8de5d38fd633e038fee90e553efd4d12405a76c6d45749adb51a683", func := "shuttlecock/shuttlecocklaw05.BatchBase", spec := "batchBase", inPlace := ["sync/atomic.AddInt64", "sync/atomic.LoadUint32", "(*internal/sync.Mutex).Lock", "internal/race.Disable", "sync/atomic.CompareAndSwapInt32", "internal/race.Enable", "internal/race.Acquire", "(*internal/sync.Mutex).lockSlow", "internal/sync.runtime_canSpin", "internal/sync.runtime_doSpin", "internal/sync.throw", "internal/sync.runtime_nanotime", "internal/sync.runtime_SemacquireMutex", "sync/atomic.AddInt32", "(*internal/sync.Mutex).Unlock", "internal/race.ReleaseMerge", "(*internal/sync.Mutex).unlockSlow", "internal/sync.fatal", "internal/sync.runtime_Semrelease", "sync/atomic.StoreUint32", "internal/abi.NoEscape"], unfollowed := true, recurses := true, apart := false }
def BatchBaseSaid : Prop := batchBaseRow.holds Try.pinned (OpenSpec.ofChange batchBaseSpec)

/-- ITS FALSE NEIGHBOUR: 'it returns false'. Refute it at one input. -/
def batchBaseWrong : ChangeSpec := { name := "batchBase", fn := fun _ => fun
  | [d1, d2] => { results := [.lit (.bool false)], args := [d1, d2] }
  | _ => none }
def BatchBaseWrongFalsely : Prop := batchBaseRow.holds Try.pinned (OpenSpec.ofChange batchBaseWrong)

/-- 'shuttlecocklaw05.BatchPlace': WHATEVER THE INPUT: true; the input reads as it did. -/
def batchPlaceSpec : ChangeSpec := { name := "batchPlace", fn := fun _ => fun
  | [d1, d2] => { results := [.lit (.bool true)], args := [d1, d2] }
  | _ => none }
def batchPlaceRow : OpenClaim := { program := "ytfcombimnmkoeaa", sum := "44d9c6ced8de5d38fd633e038fee90e553efd4d12405a76c6d45749adb51a683", func := "shuttlecock/shuttlecocklaw05.BatchPlace", spec := "batchPlace", inPlace := ["internal/abi.NoEscape", "sync/atomic.AddInt64", "sync/atomic.LoadUint32", "(*internal/sync.Mutex).Lock", "internal/race.Disable", "sync/atomic.CompareAndSwapInt32", "internal/race.Enable", "internal/race.Acquire", "(*internal/sync.Mutex).lockSlow", "internal/sync.runtime_canSpin", "internal/sync.runtime_doSpin", "internal/sync.throw", "internal/sync.runtime_nanotime", "internal/sync.runtime_SemacquireMutex", "sync/atomic.AddInt32", "(*internal/sync.Mutex).Unlock", "internal/race.ReleaseMerge", "(*internal/sync.Mutex).unlockSlow", "internal/sync.fatal", "internal/sync.runtime_Semrelease", "sync/atomic.StoreUint32"], unfollowed := true, recurses := true, apart := false }
def BatchPlaceSaid : Prop := batchPlaceRow.holds Try.pinned (OpenSpec.ofChange batchPlaceSpec)

/-- ITS FALSE NEIGHBOUR: 'it returns false'. Refute it at one input. -/
def batchPlaceWrong : ChangeSpec := { name := "batchPlace", fn := fun _ => fun
  | [d1, d2] => { results := [.lit (.bool false)], args := [d1, d2] }
  | _ => none }
def BatchPlaceWrongFalsely : Prop := batchPlaceRow.holds Try.pinned (OpenSpec.ofChange batchPlaceWrong)

/- THE SECOND FORM. 'bulk': how many values and letters a reading holds, each counted each time it is reached (what is shared counts as often as it is met; a slice's spare places count too). A statement '..UptoSaid' is the law's where the arguments, and the package variables that the reading takes, are together of bulk at most 1048576: NARROWER than '..Said'. Prove '..Said' where nothing that the law and all that it calls make is longer than what came in: it says more and counts as full. Else prove '..UptoSaid'. A law counts once. -/
mutual
def uptoBulk {H : Type} : DataW H → Nat
  | .lit (.string bytes) => bytes.length + 1
  | .lit _ => 1
  | .nil => 1
  | .ptr d => uptoBulk d + 1
  | .slice elems spare => uptoBulkAll elems + uptoBulkAll spare + 1
  | .agg parts => uptoBulkAll parts + 1
  | .iface _ d => uptoBulk d + 1
  | .map entries => uptoBulkEntries entries + 1
  | .held _ => 1
def uptoBulkAll {H : Type} : List (DataW H) → Nat
  | [] => 0
  | d :: r => uptoBulk d + uptoBulkAll r
def uptoBulkEntries {H : Type} : List (Lit × DataW H) → Nat
  | [] => 0
  | x :: r => uptoBulkEntry x + uptoBulkEntries r
def uptoBulkEntry {H : Type} : Lit × DataW H → Nat
  | (.string bytes, d) => bytes.length + uptoBulk d + 1
  | (_, d) => uptoBulk d + 1
 end
def uptoSmall : (H : Type) → List (DataW H) → Bool := fun _ ds => decide (uptoBulkAll ds ≤ 1048576)
def OpenSpec.upto (s : _root_.Go.ChangeSpec) : _root_.Go.OpenSpec := { _root_.Go.OpenSpec.ofChange s with cond := some uptoSmall }

/-- 'shuttlecocklaw05.BatchTells', WHERE WHAT IT READS IS OF BULK AT MOST 1048576: true; the input reads as it did. -/
def batchTellsUptoRow : OpenClaim := { program := "ytfcombimnmkoeaa", sum := "44d9c6ced8de5d38fd633e038fee90e553efd4d12405a76c6d45749adb51a683", func := "shuttlecock/shuttlecocklaw05.BatchTells", spec := "batchTells", inPlace := ["internal/abi.NoEscape", "sync/atomic.AddInt64", "sync/atomic.LoadUint32", "(*internal/sync.Mutex).Lock", "internal/race.Disable", "sync/atomic.CompareAndSwapInt32", "internal/race.Enable", "internal/race.Acquire", "(*internal/sync.Mutex).lockSlow", "internal/sync.runtime_canSpin", "internal/sync.runtime_doSpin", "internal/sync.throw", "internal/sync.runtime_nanotime", "internal/sync.runtime_SemacquireMutex", "sync/atomic.AddInt32", "(*internal/sync.Mutex).Unlock", "internal/race.ReleaseMerge", "(*internal/sync.Mutex).unlockSlow", "internal/sync.fatal", "internal/sync.runtime_Semrelease", "sync/atomic.StoreUint32"], unfollowed := true, recurses := true, apart := false, narrowed := true }
def BatchTellsUptoSaid : Prop := batchTellsUptoRow.holds Try.pinned (OpenSpec.upto batchTellsSpec)

/-- 'shuttlecocklaw05.BatchBack', WHERE WHAT IT READS IS OF BULK AT MOST 1048576: true; the input reads as it did. -/
def batchBackUptoRow : OpenClaim := { program := "ytfcombimnmkoeaa", sum := "44d9c6ced8de5d38fd633e038fee90e553efd4d12405a76c6d45749adb51a683", func := "shuttlecock/shuttlecocklaw05.BatchBack", spec := "batchBack", inPlace := ["internal/abi.NoEscape", "sync/atomic.AddInt64", "sync/atomic.LoadUint32", "(*internal/sync.Mutex).Lock", "internal/race.Disable", "sync/atomic.CompareAndSwapInt32", "internal/race.Enable", "internal/race.Acquire", "(*internal/sync.Mutex).lockSlow", "internal/sync.runtime_canSpin", "internal/sync.runtime_doSpin", "internal/sync.throw", "internal/sync.runtime_nanotime", "internal/sync.runtime_SemacquireMutex", "sync/atomic.AddInt32", "(*internal/sync.Mutex).Unlock", "internal/race.ReleaseMerge", "(*internal/sync.Mutex).unlockSlow", "internal/sync.fatal", "internal/sync.runtime_Semrelease", "sync/atomic.StoreUint32"], unfollowed := true, recurses := true, apart := false, narrowed := true }
def BatchBackUptoSaid : Prop := batchBackUptoRow.holds Try.pinned (OpenSpec.upto batchBackSpec)

/-- 'shuttlecocklaw05.BatchTimes', WHERE WHAT IT READS IS OF BULK AT MOST 1048576: true; the input reads as it did. -/
def batchTimesUptoRow : OpenClaim := { program := "ytfcombimnmkoeaa", sum := "44d9c6ced8de5d38fd633e038fee90e553efd4d12405a76c6d45749adb51a683", func := "shuttlecock/shuttlecocklaw05.BatchTimes", spec := "batchTimes", inPlace := ["internal/abi.NoEscape", "sync/atomic.AddInt64", "sync/atomic.LoadUint32", "(*internal/sync.Mutex).Lock", "internal/race.Disable", "sync/atomic.CompareAndSwapInt32", "internal/race.Enable", "internal/race.Acquire", "(*internal/sync.Mutex).lockSlow", "internal/sync.runtime_canSpin", "internal/sync.runtime_doSpin", "internal/sync.throw", "internal/sync.runtime_nanotime", "internal/sync.runtime_SemacquireMutex", "sync/atomic.AddInt32", "(*internal/sync.Mutex).Unlock", "internal/race.ReleaseMerge", "(*internal/sync.Mutex).unlockSlow", "internal/sync.fatal", "internal/sync.runtime_Semrelease", "sync/atomic.StoreUint32"], unfollowed := true, recurses := true, apart := false, narrowed := true }
def BatchTimesUptoSaid : Prop := batchTimesUptoRow.holds Try.pinned (OpenSpec.upto batchTimesSpec)

/-- 'shuttlecocklaw05.BatchBase', WHERE WHAT IT READS IS OF BULK AT MOST 1048576: true; the input reads as it did. -/
def batchBaseUptoRow : OpenClaim := { program := "ytfcombimnmkoeaa", sum := "44d9c6ced8de5d38fd633e038fee90e553efd4d12405a76c6d45749adb51a683", func := "shuttlecock/shuttlecocklaw05.BatchBase", spec := "batchBase", inPlace := ["sync/atomic.AddInt64", "sync/atomic.LoadUint32", "(*internal/sync.Mutex).Lock", "internal/race.Disable", "sync/atomic.CompareAndSwapInt32", "internal/race.Enable", "internal/race.Acquire", "(*internal/sync.Mutex).lockSlow", "internal/sync.runtime_canSpin", "internal/sync.runtime_doSpin", "internal/sync.throw", "internal/sync.runtime_nanotime", "internal/sync.runtime_SemacquireMutex", "sync/atomic.AddInt32", "(*internal/sync.Mutex).Unlock", "internal/race.ReleaseMerge", "(*internal/sync.Mutex).unlockSlow", "internal/sync.fatal", "internal/sync.runtime_Semrelease", "sync/atomic.StoreUint32", "internal/abi.NoEscape"], unfollowed := true, recurses := true, apart := false, narrowed := true }
def BatchBaseUptoSaid : Prop := batchBaseUptoRow.holds Try.pinned (OpenSpec.upto batchBaseSpec)

/-- 'shuttlecocklaw05.BatchPlace', WHERE WHAT IT READS IS OF BULK AT MOST 1048576: true; the input reads as it did. -/
def batchPlaceUptoRow : OpenClaim := { program := "ytfcombimnmkoeaa", sum := "44d9c6ced8de5d38fd633e038fee90e553efd4d12405a76c6d45749adb51a683", func := "shuttlecock/shuttlecocklaw05.BatchPlace", spec := "batchPlace", inPlace := ["internal/abi.NoEscape", "sync/atomic.AddInt64", "sync/atomic.LoadUint32", "(*internal/sync.Mutex).Lock", "internal/race.Disable", "sync/atomic.CompareAndSwapInt32", "internal/race.Enable", "internal/race.Acquire", "(*internal/sync.Mutex).lockSlow", "internal/sync.runtime_canSpin", "internal/sync.runtime_doSpin", "internal/sync.throw", "internal/sync.runtime_nanotime", "internal/sync.runtime_SemacquireMutex", "sync/atomic.AddInt32", "(*internal/sync.Mutex).Unlock", "internal/race.ReleaseMerge", "(*internal/sync.Mutex).unlockSlow", "internal/sync.fatal", "internal/sync.runtime_Semrelease", "sync/atomic.StoreUint32"], unfollowed := true, recurses := true, apart := false, narrowed := true }
def BatchPlaceUptoSaid : Prop := batchPlaceUptoRow.holds Try.pinned (OpenSpec.upto batchPlaceSpec)

end Rows
end Go.Proofs.Ytfcombimnmkoeaa
