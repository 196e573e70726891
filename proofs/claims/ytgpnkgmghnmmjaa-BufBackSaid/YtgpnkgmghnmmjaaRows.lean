/-
  No cell of these rows narrows 'for every input' (looked for: loops, veiled, ifaces, maps, wideKeys, modest, calm, conditions, laid).
  DERIVED. THE GIVEN ROWS OF THIS SEAT. 5 by the template 'for every input the law returns true; each argument reads behind the call as it read before'; 0 by the template 'total and deterministic' (their statements: YtgpnkgmghnmmjaaTotals.lean).
  GIVEN WITH THE SEED: the statements are not yours to turn. If you find one false, say at which input.
  Laid BY PROGRAM, IN A SANDBOX (cutbox-rows.mjs): the forced cells as the released guide's own fill.sh prints them over the translation ff3149d11855b35a… (all of the seat's roots in one cut). By AI agents, Wed Nov 11 2026. No macro, syntax, notation, axiom, sorry.
-/
import Derived.Test.YtgpnkgmghnmmjaaChecked
import GoSem.Claim
import GoSem.ClaimJoined
import GoSem.ClaimMapViews
import Derived.JoinedTies
import Derived.KernelRfl
namespace Go.Proofs.Ytgpnkgmghnmmjaa
/- THE CELL 'sum', in the pinned program and in every row, IS THE sha256 OF THE DUMP (.gsa) THAT YtgpnkgmghnmmjaaProg.lean LOADS. Nothing in Lean hashes anything: it is a label: what it is worth is what the hold of that sum in a sandbox is worth. -/
noncomputable def Try.pinned : Pinned := { name := "ytgpnkgmghnmmjaa", sum := "ff3149d11855b35a2f3baf6663b4f2f570b81ef508791c3920fd591269c65076", checked := Try.checked }
namespace Rows
def none {H : Type} : Left H := { results := [], args := [] }

/-- 'shuttlecocklaw19.BufTells': WHATEVER THE INPUT: true; the input reads as it did. -/
def bufTellsSpec : ChangeSpec := { name := "bufTells", fn := fun _ => fun
  | [d1, d2, d3] => { results := [.lit (.bool true)], args := [d1, d2, d3] }
  | _ => none }
def bufTellsRow : OpenClaim := { program := "ytgpnkgmghnmmjaa", sum := "ff3149d11855b35a2f3baf6663b4f2f570b81ef508791c3920fd591269c65076", func := "shuttlecock/shuttlecocklaw19.BufTells", spec := "bufTells", inPlace := ["sync/atomic.AddInt64", "sync/atomic.LoadUint32", "(*internal/sync.Mutex).Lock", "internal/race.Disable", "sync/atomic.CompareAndSwapInt32", "internal/race.Enable", "internal/race.Acquire", "(*internal/sync.Mutex).lockSlow", "internal/sync.runtime_canSpin", "internal/sync.runtime_doSpin", "internal/sync.throw", "internal/sync.runtime_nanotime", "internal/sync.runtime_SemacquireMutex", "sync/atomic.AddInt32", "(*internal/sync.Mutex).Unlock", "internal/race.ReleaseMerge", "(*internal/sync.Mutex).unlockSlow", "internal/sync.fatal", "internal/sync.runtime_Semrelease", "sync/atomic.StoreUint32", "internal/abi.NoEscape"], unfollowed := true, recurses := true, apart := false }
def BufTellsSaid : Prop := bufTellsRow.holds Try.pinned (OpenSpec.ofChange bufTellsSpec)

/-- ITS FALSE NEIGHBOUR: 'it returns false'. Refute it at one input. -/
def bufTellsWrong : ChangeSpec := { name := "bufTells", fn := fun _ => fun
  | [d1, d2, d3] => { results := [.lit (.bool false)], args := [d1, d2, d3] }
  | _ => none }
def BufTellsWrongFalsely : Prop := bufTellsRow.holds Try.pinned (OpenSpec.ofChange bufTellsWrong)

/-- 'shuttlecocklaw19.BufBack': WHATEVER THE INPUT: true; the input reads as it did. -/
def bufBackSpec : ChangeSpec := { name := "bufBack", fn := fun _ => fun
  | [d1, d2, d3] => { results := [.lit (.bool true)], args := [d1, d2, d3] }
  | _ => none }
def bufBackRow : OpenClaim := { program := "ytgpnkgmghnmmjaa", sum := "ff3149d11855b35a2f3baf6663b4f2f570b81ef508791c3920fd591269c65076", func := "shuttlecock/shuttlecocklaw19.BufBack", spec := "bufBack", inPlace := ["sync/atomic.AddInt64", "sync/atomic.LoadUint32", "(*internal/sync.Mutex).Lock", "internal/race.Disable", "sync/atomic.CompareAndSwapInt32", "internal/race.Enable", "internal/race.Acquire", "(*internal/sync.Mutex).lockSlow", "internal/sync.runtime_canSpin", "internal/sync.runtime_doSpin", "internal/sync.throw", "internal/sync.runtime_nanotime", "internal/sync.runtime_SemacquireMutex", "sync/atomic.AddInt32", "(*internal/sync.Mutex).Unlock", "internal/race.ReleaseMerge", "(*internal/sync.Mutex).unlockSlow", "internal/sync.fatal", "internal/sync.runtime_Semrelease", "sync/atomic.StoreUint32", "internal/abi.NoEscape"], unfollowed := true, recurses := true, apart := false }
def BufBackSaid : Prop := bufBackRow.holds Try.pinned (OpenSpec.ofChange bufBackSpec)

/-- ITS FALSE NEIGHBOUR: 'it returns false'. Refute it at one input. -/
def bufBackWrong : ChangeSpec := { name := "bufBack", fn := fun _ => fun
  | [d1, d2, d3] => { results := [.lit (.bool false)], args := [d1, d2, d3] }
  | _ => none }
def BufBackWrongFalsely : Prop := bufBackRow.holds Try.pinned (OpenSpec.ofChange bufBackWrong)

/-- 'shuttlecocklaw19.BufLater': WHATEVER THE INPUT: true; the input reads as it did. -/
def bufLaterSpec : ChangeSpec := { name := "bufLater", fn := fun _ => fun
  | [d1, d2] => { results := [.lit (.bool true)], args := [d1, d2] }
  | _ => none }
def bufLaterRow : OpenClaim := { program := "ytgpnkgmghnmmjaa", sum := "ff3149d11855b35a2f3baf6663b4f2f570b81ef508791c3920fd591269c65076", func := "shuttlecock/shuttlecocklaw19.BufLater", spec := "bufLater", inPlace := ["sync/atomic.AddInt64", "sync/atomic.LoadUint32", "(*internal/sync.Mutex).Lock", "internal/race.Disable", "sync/atomic.CompareAndSwapInt32", "internal/race.Enable", "internal/race.Acquire", "(*internal/sync.Mutex).lockSlow", "internal/sync.runtime_canSpin", "internal/sync.runtime_doSpin", "internal/sync.throw", "internal/sync.runtime_nanotime", "internal/sync.runtime_SemacquireMutex", "sync/atomic.AddInt32", "(*internal/sync.Mutex).Unlock", "internal/race.ReleaseMerge", "(*internal/sync.Mutex).unlockSlow", "internal/sync.fatal", "internal/sync.runtime_Semrelease", "sync/atomic.StoreUint32", "internal/abi.NoEscape"], unfollowed := true, recurses := true, apart := false }
def BufLaterSaid : Prop := bufLaterRow.holds Try.pinned (OpenSpec.ofChange bufLaterSpec)

/-- ITS FALSE NEIGHBOUR: 'it returns false'. Refute it at one input. -/
def bufLaterWrong : ChangeSpec := { name := "bufLater", fn := fun _ => fun
  | [d1, d2] => { results := [.lit (.bool false)], args := [d1, d2] }
  | _ => none }
def BufLaterWrongFalsely : Prop := bufLaterRow.holds Try.pinned (OpenSpec.ofChange bufLaterWrong)

/-- 'shuttlecocklaw19.BufFull': WHATEVER THE INPUT: true; the input reads as it did. -/
def bufFullSpec : ChangeSpec := { name := "bufFull", fn := fun _ => fun
  | [d1, d2] => { results := [.lit (.bool true)], args := [d1, d2] }
  | _ => none }
def bufFullRow : OpenClaim := { program := "ytgpnkgmghnmmjaa", sum := "ff3149d11855b35a2f3baf6663b4f2f570b81ef508791c3920fd591269c65076", func := "shuttlecock/shuttlecocklaw19.BufFull", spec := "bufFull", inPlace := ["sync/atomic.AddInt64", "sync/atomic.LoadUint32", "(*internal/sync.Mutex).Lock", "internal/race.Disable", "sync/atomic.CompareAndSwapInt32", "internal/race.Enable", "internal/race.Acquire", "(*internal/sync.Mutex).lockSlow", "internal/sync.runtime_canSpin", "internal/sync.runtime_doSpin", "internal/sync.throw", "internal/sync.runtime_nanotime", "internal/sync.runtime_SemacquireMutex", "sync/atomic.AddInt32", "(*internal/sync.Mutex).Unlock", "internal/race.ReleaseMerge", "(*internal/sync.Mutex).unlockSlow", "internal/sync.fatal", "internal/sync.runtime_Semrelease", "sync/atomic.StoreUint32", "internal/abi.NoEscape"], unfollowed := true, recurses := true, apart := false }
def BufFullSaid : Prop := bufFullRow.holds Try.pinned (OpenSpec.ofChange bufFullSpec)

/-- ITS FALSE NEIGHBOUR: 'it returns false'. Refute it at one input. -/
def bufFullWrong : ChangeSpec := { name := "bufFull", fn := fun _ => fun
  | [d1, d2] => { results := [.lit (.bool false)], args := [d1, d2] }
  | _ => none }
def BufFullWrongFalsely : Prop := bufFullRow.holds Try.pinned (OpenSpec.ofChange bufFullWrong)

/-- 'shuttlecocklaw19.BufApart': WHATEVER THE INPUT: true; the input reads as it did. -/
def bufApartSpec : ChangeSpec := { name := "bufApart", fn := fun _ => fun
  | [d1, d2, d3] => { results := [.lit (.bool true)], args := [d1, d2, d3] }
  | _ => none }
def bufApartRow : OpenClaim := { program := "ytgpnkgmghnmmjaa", sum := "ff3149d11855b35a2f3baf6663b4f2f570b81ef508791c3920fd591269c65076", func := "shuttlecock/shuttlecocklaw19.BufApart", spec := "bufApart", inPlace := ["sync/atomic.AddInt64", "sync/atomic.LoadUint32", "(*internal/sync.Mutex).Lock", "internal/race.Disable", "sync/atomic.CompareAndSwapInt32", "internal/race.Enable", "internal/race.Acquire", "(*internal/sync.Mutex).lockSlow", "internal/sync.runtime_canSpin", "internal/sync.runtime_doSpin", "internal/sync.throw", "internal/sync.runtime_nanotime", "internal/sync.runtime_SemacquireMutex", "sync/atomic.AddInt32", "(*internal/sync.Mutex).Unlock", "internal/race.ReleaseMerge", "(*internal/sync.Mutex).unlockSlow", "internal/sync.fatal", "internal/sync.runtime_Semrelease", "sync/atomic.StoreUint32", "internal/abi.NoEscape"], unfollowed := true, recurses := true, apart := false }
def BufApartSaid : Prop := bufApartRow.holds Try.pinned (OpenSpec.ofChange bufApartSpec)

/-- ITS FALSE NEIGHBOUR: 'it returns false'. Refute it at one input. -/
def bufApartWrong : ChangeSpec := { name := "bufApart", fn := fun _ => fun
  | [d1, d2, d3] => { results := [.lit (.bool false)], args := [d1, d2, d3] }
  | _ => none }
def BufApartWrongFalsely : Prop := bufApartRow.holds Try.pinned (OpenSpec.ofChange bufApartWrong)

/- THE SECOND FORM. 'bulk': how many values and letters a reading holds, each counted each time it is reached (what is shared counts as often as it is met; a slice's spare places count too). A statement '..UptoSaid' is the law's where the arguments, and the package variables that the reading takes, are together of bulk at most 1048576: NARROWER than '..Said'. Prove '..Said' where nothing that the law and all that it calls make is longer than what came in: it says more and counts as full. Else prove '..UptoSaid'. A law counts once. -/
mutual
def uptoBulk {H : Type} : DataW H → Nat
  | .lit (.string bytes) => bytes.length + 1
  | .lit _ => 1
  | .nil => 1
  | .ptr d => uptoBulk d + 1
  | .slice elems spare => uptoBulkAll elems + uptoBulkAll spare + 1
  | .agg parts => uptoBulkAll parts + 1
  | .iface _ d => uptoBulk d + 1
  | .map entries => uptoBulkEntries entries + 1
  | .held _ => 1
def uptoBulkAll {H : Type} : List (DataW H) → Nat
  | [] => 0
  | d :: r => uptoBulk d + uptoBulkAll r
def uptoBulkEntries {H : Type} : List (Lit × DataW H) → Nat
  | [] => 0
  | x :: r => uptoBulkEntry x + uptoBulkEntries r
def uptoBulkEntry {H : Type} : Lit × DataW H → Nat
  | (.string bytes, d) => bytes.length + uptoBulk d + 1
  | (_, d) => uptoBulk d + 1
 end
def uptoSmall : (H : Type) → List (DataW H) → Bool := fun _ ds => decide (uptoBulkAll ds ≤ 1048576)
def OpenSpec.upto (s : _root_.Go.ChangeSpec) : _root_.Go.OpenSpec := { _root_.Go.OpenSpec.ofChange s with cond := some uptoSmall }

/-- 'shuttlecocklaw19.BufTells', WHERE WHAT IT READS IS OF BULK AT MOST 1048576: true; the input reads as it did. -/
def bufTellsUptoRow : OpenClaim := { program := "ytgpnkgmghnmmjaa", sum := "ff3149d11855b35a2f3baf6663b4f2f570b81ef508791c3920fd591269c65076", func := "shuttlecock/shuttlecocklaw19.BufTells", spec := "bufTells", inPlace := ["sync/atomic.AddInt64", "sync/atomic.LoadUint32", "(*internal/sync.Mutex).Lock", "internal/race.Disable", "sync/atomic.CompareAndSwapInt32", "internal/race.Enable", "internal/race.Acquire", "(*internal/sync.Mutex).lockSlow", "internal/sync.runtime_canSpin", "internal/sync.runtime_doSpin", "internal/sync.throw", "internal/sync.runtime_nanotime", "internal/sync.runtime_SemacquireMutex", "sync/atomic.AddInt32", "(*internal/sync.Mutex).Unlock", "internal/race.ReleaseMerge", "(*internal/sync.Mutex).unlockSlow", "internal/sync.fatal", "internal/sync.runtime_Semrelease", "sync/atomic.StoreUint32", "internal/abi.NoEscape"], unfollowed := true, recurses := true, apart := false, narrowed := true }
def BufTellsUptoSaid : Prop := bufTellsUptoRow.holds Try.pinned (OpenSpec.upto bufTellsSpec)

/-- 'shuttlecocklaw19.BufBack', WHERE WHAT IT READS IS OF BULK AT MOST 1048576: true; the input reads as it did. -/
def bufBackUptoRow : OpenClaim := { program := "ytgpnkgmghnmmjaa", sum := "ff3149d11855b35a2f3baf6663b4f2f570b81ef508791c3920fd591269c65076", func := "shuttlecock/shuttlecocklaw19.BufBack", spec := "bufBack", inPlace := ["sync/atomic.AddInt64", "sync/atomic.LoadUint32", "(*internal/sync.Mutex).Lock", "internal/race.Disable", "sync/atomic.CompareAndSwapInt32", "internal/race.Enable", "internal/race.Acquire", "(*internal/sync.Mutex).lockSlow", "internal/sync.runtime_canSpin", "internal/sync.runtime_doSpin", "internal/sync.throw", "internal/sync.runtime_nanotime", "internal/sync.runtime_SemacquireMutex", "sync/atomic.AddInt32", "(*internal/sync.Mutex).Unlock", "internal/race.ReleaseMerge", "(*internal/sync.Mutex).unlockSlow", "internal/sync.fatal", "internal/sync.runtime_Semrelease", "sync/atomic.StoreUint32", "internal/abi.NoEscape"], unfollowed := true, recurses := true, apart := false, narrowed := true }
def BufBackUptoSaid : Prop := bufBackUptoRow.holds Try.pinned (OpenSpec.upto bufBackSpec)

/-- 'shuttlecocklaw19.BufLater', WHERE WHAT IT READS IS OF BULK AT MOST 1048576: true; the input reads as it did. -/
def bufLaterUptoRow : OpenClaim := { program := "ytgpnkgmghnmmjaa", sum := "ff3149d11855b35a2f3baf6663b4f2f570b81ef508791c3920fd591269c65076", func := "shuttlecock/shuttlecocklaw19.BufLater", spec := "bufLater", inPlace := ["sync/atomic.AddInt64", "sync/atomic.LoadUint32", "(*internal/sync.Mutex).Lock", "internal/race.Disable", "sync/atomic.CompareAndSwapInt32", "internal/race.Enable", "internal/race.Acquire", "(*internal/sync.Mutex).lockSlow", "internal/sync.runtime_canSpin", "internal/sync.runtime_doSpin", "internal/sync.throw", "internal/sync.runtime_nanotime", "internal/sync.runtime_SemacquireMutex", "sync/atomic.AddInt32", "(*internal/sync.Mutex).Unlock", "internal/race.ReleaseMerge", "(*internal/sync.Mutex).unlockSlow", "internal/sync.fatal", "internal/sync.runtime_Semrelease", "sync/atomic.StoreUint32", "internal/abi.NoEscape"], unfollowed := true, recurses := true, apart := false, narrowed := true }
def BufLaterUptoSaid : Prop := bufLaterUptoRow.holds Try.pinned (OpenSpec.upto bufLaterSpec)

/-- 'shuttlecocklaw19.BufFull', WHERE WHAT IT READS IS OF BULK AT MOST 1048576: true; the input reads as it did. -/
def bufFullUptoRow : OpenClaim := { program := "ytgpnkgmghnmmjaa", sum := "ff3149d11855b35a2f3baf6663b4f2f570b81ef508791c3920fd591269c65076", func := "shuttlecock/shuttlecocklaw19.BufFull", spec := "bufFull", inPlace := ["sync/atomic.AddInt64", "sync/atomic.LoadUint32", "(*internal/sync.Mutex).Lock", "internal/race.Disable", "sync/atomic.CompareAndSwapInt32", "internal/race.Enable", "internal/race.Acquire", "(*internal/sync.Mutex).lockSlow", "internal/sync.runtime_canSpin", "internal/sync.runtime_doSpin", "internal/sync.throw", "internal/sync.runtime_nanotime", "internal/sync.runtime_SemacquireMutex", "sync/atomic.AddInt32", "(*internal/sync.Mutex).Unlock", "internal/race.ReleaseMerge", "(*internal/sync.Mutex).unlockSlow", "internal/sync.fatal", "internal/sync.runtime_Semrelease", "sync/atomic.StoreUint32", "internal/abi.NoEscape"], unfollowed := true, recurses := true, apart := false, narrowed := true }
def BufFullUptoSaid : Prop := bufFullUptoRow.holds Try.pinned (OpenSpec.upto bufFullSpec)

/-- 'shuttlecocklaw19.BufApart', WHERE WHAT IT READS IS OF BULK AT MOST 1048576: true; the input reads as it did. -/
def bufApartUptoRow : OpenClaim := { program := "ytgpnkgmghnmmjaa", sum := "ff3149d11855b35a2f3baf6663b4f2f570b81ef508791c3920fd591269c65076", func := "shuttlecock/shuttlecocklaw19.BufApart", spec := "bufApart", inPlace := ["sync/atomic.AddInt64", "sync/atomic.LoadUint32", "(*internal/sync.Mutex).Lock", "internal/race.Disable", "sync/atomic.CompareAndSwapInt32", "internal/race.Enable", "internal/race.Acquire", "(*internal/sync.Mutex).lockSlow", "internal/sync.runtime_canSpin", "internal/sync.runtime_doSpin", "internal/sync.throw", "internal/sync.runtime_nanotime", "internal/sync.runtime_SemacquireMutex", "sync/atomic.AddInt32", "(*internal/sync.Mutex).Unlock", "internal/race.ReleaseMerge", "(*internal/sync.Mutex).unlockSlow", "internal/sync.fatal", "internal/sync.runtime_Semrelease", "sync/atomic.StoreUint32", "internal/abi.NoEscape"], unfollowed := true, recurses := true, apart := false, narrowed := true }
def BufApartUptoSaid : Prop := bufApartUptoRow.holds Try.pinned (OpenSpec.upto bufApartSpec)

end Rows
end Go.Proofs.Ytgpnkgmghnmmjaa
