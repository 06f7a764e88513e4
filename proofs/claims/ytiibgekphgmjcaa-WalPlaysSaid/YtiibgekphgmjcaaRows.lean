/-
  No cell of these rows narrows 'for every input' (looked for: loops, veiled, ifaces, maps, wideKeys, modest, calm, conditions, laid).
  DERIVED. THE GIVEN ROWS OF THIS SEAT. 7 by the template 'for every input the law returns true; each argument reads behind the call as it read before'; 0 by the template 'total and deterministic' (their statements: YtiibgekphgmjcaaTotals.lean).
  GIVEN WITH THE SEED: the statements are not yours to turn. If you find one false, say at which input.
  Laid BY PROGRAM, IN A SANDBOX (cutbox-rows.mjs): the forced cells as the released guide's own fill.sh prints them over the translation 259657f071b9798a… (all of the seat's roots in one cut). By AI agents, Wed Nov 11 2026. No macro, syntax, notation, axiom, sorry.
-/
import Derived.Test.YtiibgekphgmjcaaChecked
import GoSem.Claim
import GoSem.ClaimJoined
import GoSem.ClaimMapViews
import Derived.JoinedTies
import Derived.KernelRfl
namespace Go.Proofs.Ytiibgekphgmjcaa
/- THE CELL 'sum', in the pinned program and in every row, IS THE sha256 OF THE DUMP (.gsa) THAT YtiibgekphgmjcaaProg.lean LOADS. Nothing in Lean hashes anything: it is a label: what it is worth is what the hold of that sum in a sandbox is worth. -/
noncomputable def Try.pinned : Pinned := { name := "ytiibgekphgmjcaa", sum := "259657f071b9798a4287b995c7d38ce1daebaf8cb09de9c838c026fe48e7ffb3", checked := Try.checked }
namespace Rows
def none {H : Type} : Left H := { results := [], args := [] }

/-- 'tattlerlaw8.WalTwice': WHATEVER THE INPUT: true; the input reads as it did. -/
def walTwiceSpec : ChangeSpec := { name := "walTwice", fn := fun _ => fun
  | [d1, d2] => { results := [.lit (.bool true)], args := [d1, d2] }
  | _ => none }
def walTwiceRow : OpenClaim := { program := "ytiibgekphgmjcaa", sum := "259657f071b9798a4287b995c7d38ce1daebaf8cb09de9c838c026fe48e7ffb3", func := "tattler/tattlerlaw8.WalTwice", spec := "walTwice", inPlace := ["sync/atomic.AddInt64", "sync/atomic.LoadUint32", "(*internal/sync.Mutex).Lock", "internal/race.Disable", "sync/atomic.CompareAndSwapInt32", "internal/race.Enable", "internal/race.Acquire", "(*internal/sync.Mutex).lockSlow", "internal/sync.runtime_canSpin", "internal/sync.runtime_doSpin", "internal/sync.throw", "internal/sync.runtime_nanotime", "internal/sync.runtime_SemacquireMutex", "sync/atomic.AddInt32", "(*internal/sync.Mutex).Unlock", "internal/race.ReleaseMerge", "(*internal/sync.Mutex).unlockSlow", "internal/sync.fatal", "internal/sync.runtime_Semrelease", "sync/atomic.StoreUint32"], unfollowed := true, recurses := true, apart := false }
def WalTwiceSaid : Prop := walTwiceRow.holds Try.pinned (OpenSpec.ofChange walTwiceSpec)

/-- ITS FALSE NEIGHBOUR: 'it returns false'. Refute it at one input. -/
def walTwiceWrong : ChangeSpec := { name := "walTwice", fn := fun _ => fun
  | [d1, d2] => { results := [.lit (.bool false)], args := [d1, d2] }
  | _ => none }
def WalTwiceWrongFalsely : Prop := walTwiceRow.holds Try.pinned (OpenSpec.ofChange walTwiceWrong)

/-- 'tattlerlaw8.WalLasts': WHATEVER THE INPUT: true; the input reads as it did. -/
def walLastsSpec : ChangeSpec := { name := "walLasts", fn := fun _ => fun
  | [d1, d2, d3] => { results := [.lit (.bool true)], args := [d1, d2, d3] }
  | _ => none }
def walLastsRow : OpenClaim := { program := "ytiibgekphgmjcaa", sum := "259657f071b9798a4287b995c7d38ce1daebaf8cb09de9c838c026fe48e7ffb3", func := "tattler/tattlerlaw8.WalLasts", spec := "walLasts", inPlace := ["sync/atomic.AddInt64", "sync/atomic.LoadUint32", "(*internal/sync.Mutex).Lock", "internal/race.Disable", "sync/atomic.CompareAndSwapInt32", "internal/race.Enable", "internal/race.Acquire", "(*internal/sync.Mutex).lockSlow", "internal/sync.runtime_canSpin", "internal/sync.runtime_doSpin", "internal/sync.throw", "internal/sync.runtime_nanotime", "internal/sync.runtime_SemacquireMutex", "sync/atomic.AddInt32", "(*internal/sync.Mutex).Unlock", "internal/race.ReleaseMerge", "(*internal/sync.Mutex).unlockSlow", "internal/sync.fatal", "internal/sync.runtime_Semrelease", "sync/atomic.StoreUint32"], unfollowed := true, recurses := true, apart := false }
def WalLastsSaid : Prop := walLastsRow.holds Try.pinned (OpenSpec.ofChange walLastsSpec)

/-- ITS FALSE NEIGHBOUR: 'it returns false'. Refute it at one input. -/
def walLastsWrong : ChangeSpec := { name := "walLasts", fn := fun _ => fun
  | [d1, d2, d3] => { results := [.lit (.bool false)], args := [d1, d2, d3] }
  | _ => none }
def WalLastsWrongFalsely : Prop := walLastsRow.holds Try.pinned (OpenSpec.ofChange walLastsWrong)

/-- 'tattlerlaw8.WalOpens': WHATEVER THE INPUT: true; the input reads as it did. -/
def walOpensSpec : ChangeSpec := { name := "walOpens", fn := fun _ => fun
  | [d1, d2, d3, d4] => { results := [.lit (.bool true)], args := [d1, d2, d3, d4] }
  | _ => none }
def walOpensRow : OpenClaim := { program := "ytiibgekphgmjcaa", sum := "259657f071b9798a4287b995c7d38ce1daebaf8cb09de9c838c026fe48e7ffb3", func := "tattler/tattlerlaw8.WalOpens", spec := "walOpens", inPlace := ["sync/atomic.AddInt64", "sync/atomic.LoadUint32", "(*internal/sync.Mutex).Lock", "internal/race.Disable", "sync/atomic.CompareAndSwapInt32", "internal/race.Enable", "internal/race.Acquire", "(*internal/sync.Mutex).lockSlow", "internal/sync.runtime_canSpin", "internal/sync.runtime_doSpin", "internal/sync.throw", "internal/sync.runtime_nanotime", "internal/sync.runtime_SemacquireMutex", "sync/atomic.AddInt32", "(*internal/sync.Mutex).Unlock", "internal/race.ReleaseMerge", "(*internal/sync.Mutex).unlockSlow", "internal/sync.fatal", "internal/sync.runtime_Semrelease", "sync/atomic.StoreUint32"], unfollowed := true, recurses := true, apart := false }
def WalOpensSaid : Prop := walOpensRow.holds Try.pinned (OpenSpec.ofChange walOpensSpec)

/-- ITS FALSE NEIGHBOUR: 'it returns false'. Refute it at one input. -/
def walOpensWrong : ChangeSpec := { name := "walOpens", fn := fun _ => fun
  | [d1, d2, d3, d4] => { results := [.lit (.bool false)], args := [d1, d2, d3, d4] }
  | _ => none }
def WalOpensWrongFalsely : Prop := walOpensRow.holds Try.pinned (OpenSpec.ofChange walOpensWrong)

/-- 'tattlerlaw8.WalRoom': WHATEVER THE INPUT: true; the input reads as it did. -/
def walRoomSpec : ChangeSpec := { name := "walRoom", fn := fun _ => fun
  | [d1, d2] => { results := [.lit (.bool true)], args := [d1, d2] }
  | _ => none }
def walRoomRow : OpenClaim := { program := "ytiibgekphgmjcaa", sum := "259657f071b9798a4287b995c7d38ce1daebaf8cb09de9c838c026fe48e7ffb3", func := "tattler/tattlerlaw8.WalRoom", spec := "walRoom", inPlace := ["sync/atomic.AddInt64", "sync/atomic.LoadUint32", "(*internal/sync.Mutex).Lock", "internal/race.Disable", "sync/atomic.CompareAndSwapInt32", "internal/race.Enable", "internal/race.Acquire", "(*internal/sync.Mutex).lockSlow", "internal/sync.runtime_canSpin", "internal/sync.runtime_doSpin", "internal/sync.throw", "internal/sync.runtime_nanotime", "internal/sync.runtime_SemacquireMutex", "sync/atomic.AddInt32", "(*internal/sync.Mutex).Unlock", "internal/race.ReleaseMerge", "(*internal/sync.Mutex).unlockSlow", "internal/sync.fatal", "internal/sync.runtime_Semrelease", "sync/atomic.StoreUint32"], unfollowed := true, recurses := true, apart := false }
def WalRoomSaid : Prop := walRoomRow.holds Try.pinned (OpenSpec.ofChange walRoomSpec)

/-- ITS FALSE NEIGHBOUR: 'it returns false'. Refute it at one input. -/
def walRoomWrong : ChangeSpec := { name := "walRoom", fn := fun _ => fun
  | [d1, d2] => { results := [.lit (.bool false)], args := [d1, d2] }
  | _ => none }
def WalRoomWrongFalsely : Prop := walRoomRow.holds Try.pinned (OpenSpec.ofChange walRoomWrong)

/-- 'tattlerlaw8.WalShort': WHATEVER THE INPUT: true; the input reads as it did. -/
def walShortSpec : ChangeSpec := { name := "walShort", fn := fun _ => fun
  | [d1, d2, d3] => { results := [.lit (.bool true)], args := [d1, d2, d3] }
  | _ => none }
def walShortRow : OpenClaim := { program := "ytiibgekphgmjcaa", sum := "259657f071b9798a4287b995c7d38ce1daebaf8cb09de9c838c026fe48e7ffb3", func := "tattler/tattlerlaw8.WalShort", spec := "walShort", inPlace := ["sync/atomic.AddInt64", "sync/atomic.LoadUint32", "(*internal/sync.Mutex).Lock", "internal/race.Disable", "sync/atomic.CompareAndSwapInt32", "internal/race.Enable", "internal/race.Acquire", "(*internal/sync.Mutex).lockSlow", "internal/sync.runtime_canSpin", "internal/sync.runtime_doSpin", "internal/sync.throw", "internal/sync.runtime_nanotime", "internal/sync.runtime_SemacquireMutex", "sync/atomic.AddInt32", "(*internal/sync.Mutex).Unlock", "internal/race.ReleaseMerge", "(*internal/sync.Mutex).unlockSlow", "internal/sync.fatal", "internal/sync.runtime_Semrelease", "sync/atomic.StoreUint32"], unfollowed := true, recurses := true, apart := false }
def WalShortSaid : Prop := walShortRow.holds Try.pinned (OpenSpec.ofChange walShortSpec)

/-- ITS FALSE NEIGHBOUR: 'it returns false'. Refute it at one input. -/
def walShortWrong : ChangeSpec := { name := "walShort", fn := fun _ => fun
  | [d1, d2, d3] => { results := [.lit (.bool false)], args := [d1, d2, d3] }
  | _ => none }
def WalShortWrongFalsely : Prop := walShortRow.holds Try.pinned (OpenSpec.ofChange walShortWrong)

/-- 'tattlerlaw8.WalNil': WHATEVER THE INPUT: true; the input reads as it did. -/
def walNilSpec : ChangeSpec := { name := "walNil", fn := fun _ => fun
  | [d] => { results := [.lit (.bool true)], args := [d] }
  | _ => none }
def walNilRow : OpenClaim := { program := "ytiibgekphgmjcaa", sum := "259657f071b9798a4287b995c7d38ce1daebaf8cb09de9c838c026fe48e7ffb3", func := "tattler/tattlerlaw8.WalNil", spec := "walNil", inPlace := ["sync/atomic.AddInt64", "sync/atomic.LoadUint32", "(*internal/sync.Mutex).Lock", "internal/race.Disable", "sync/atomic.CompareAndSwapInt32", "internal/race.Enable", "internal/race.Acquire", "(*internal/sync.Mutex).lockSlow", "internal/sync.runtime_canSpin", "internal/sync.runtime_doSpin", "internal/sync.throw", "internal/sync.runtime_nanotime", "internal/sync.runtime_SemacquireMutex", "sync/atomic.AddInt32", "(*internal/sync.Mutex).Unlock", "internal/race.ReleaseMerge", "(*internal/sync.Mutex).unlockSlow", "internal/sync.fatal", "internal/sync.runtime_Semrelease", "sync/atomic.StoreUint32"], unfollowed := true, recurses := true, apart := false }
def WalNilSaid : Prop := walNilRow.holds Try.pinned (OpenSpec.ofChange walNilSpec)

/-- ITS FALSE NEIGHBOUR: 'it returns false'. Refute it at one input. -/
def walNilWrong : ChangeSpec := { name := "walNil", fn := fun _ => fun
  | [d] => { results := [.lit (.bool false)], args := [d] }
  | _ => none }
def WalNilWrongFalsely : Prop := walNilRow.holds Try.pinned (OpenSpec.ofChange walNilWrong)

/-- 'tattlerlaw8.WalPlays': WHATEVER THE INPUT: true; the input reads as it did. -/
def walPlaysSpec : ChangeSpec := { name := "walPlays", fn := fun _ => fun
  | [d1, d2] => { results := [.lit (.bool true)], args := [d1, d2] }
  | _ => none }
def walPlaysRow : OpenClaim := { program := "ytiibgekphgmjcaa", sum := "259657f071b9798a4287b995c7d38ce1daebaf8cb09de9c838c026fe48e7ffb3", func := "tattler/tattlerlaw8.WalPlays", spec := "walPlays", inPlace := ["sync/atomic.AddInt64", "sync/atomic.LoadUint32", "(*internal/sync.Mutex).Lock", "internal/race.Disable", "sync/atomic.CompareAndSwapInt32", "internal/race.Enable", "internal/race.Acquire", "(*internal/sync.Mutex).lockSlow", "internal/sync.runtime_canSpin", "internal/sync.runtime_doSpin", "internal/sync.throw", "internal/sync.runtime_nanotime", "internal/sync.runtime_SemacquireMutex", "sync/atomic.AddInt32", "(*internal/sync.Mutex).Unlock", "internal/race.ReleaseMerge", "(*internal/sync.Mutex).unlockSlow", "internal/sync.fatal", "internal/sync.runtime_Semrelease", "sync/atomic.StoreUint32"], unfollowed := true, recurses := true, apart := false }
def WalPlaysSaid : Prop := walPlaysRow.holds Try.pinned (OpenSpec.ofChange walPlaysSpec)

/-- ITS FALSE NEIGHBOUR: 'it returns false'. Refute it at one input. -/
def walPlaysWrong : ChangeSpec := { name := "walPlays", fn := fun _ => fun
  | [d1, d2] => { results := [.lit (.bool false)], args := [d1, d2] }
  | _ => none }
def WalPlaysWrongFalsely : Prop := walPlaysRow.holds Try.pinned (OpenSpec.ofChange walPlaysWrong)

/- THE SECOND FORM. 'bulk': how many values and letters a reading holds, each counted each time it is reached (what is shared counts as often as it is met; a slice's spare places count too). A statement '..UptoSaid' is the law's where the arguments, and the package variables that the reading takes, are together of bulk at most 1048576: NARROWER than '..Said'. Prove '..Said' where nothing that the law and all that it calls make is longer than what came in: it says more and counts as full. Else prove '..UptoSaid'. A law counts once. -/
mutual
def uptoBulk {H : Type} : DataW H → Nat
  | .lit (.string bytes) => bytes.length + 1
  | .lit _ => 1
  | .nil => 1
  | .ptr d => uptoBulk d + 1
  | .slice elems spare => uptoBulkAll elems + uptoBulkAll spare + 1
  | .agg parts => uptoBulkAll parts + 1
  | .iface _ d => uptoBulk d + 1
  | .map entries => uptoBulkEntries entries + 1
  | .held _ => 1
def uptoBulkAll {H : Type} : List (DataW H) → Nat
  | [] => 0
  | d :: r => uptoBulk d + uptoBulkAll r
def uptoBulkEntries {H : Type} : List (Lit × DataW H) → Nat
  | [] => 0
  | x :: r => uptoBulkEntry x + uptoBulkEntries r
def uptoBulkEntry {H : Type} : Lit × DataW H → Nat
  | (.string bytes, d) => bytes.length + uptoBulk d + 1
  | (_, d) => uptoBulk d + 1
 end
def uptoSmall : (H : Type) → List (DataW H) → Bool := fun _ ds => decide (uptoBulkAll ds ≤ 1048576)
def OpenSpec.upto (s : _root_.Go.ChangeSpec) : _root_.Go.OpenSpec := { _root_.Go.OpenSpec.ofChange s with cond := some uptoSmall }

/-- 'tattlerlaw8.WalTwice', WHERE WHAT IT READS IS OF BULK AT MOST 1048576: true; the input reads as it did. -/
def walTwiceUptoRow : OpenClaim := { program := "ytiibgekphgmjcaa", sum := "259657f071b9798a4287b995c7d38ce1daebaf8cb09de9c838c026fe48e7ffb3", func := "tattler/tattlerlaw8.WalTwice", spec := "walTwice", inPlace := ["sync/atomic.AddInt64", "sync/atomic.LoadUint32", "(*internal/sync.Mutex).Lock", "internal/race.Disable", "sync/atomic.CompareAndSwapInt32", "internal/race.Enable", "internal/race.Acquire", "(*internal/sync.Mutex).lockSlow", "internal/sync.runtime_canSpin", "internal/sync.runtime_doSpin", "internal/sync.throw", "internal/sync.runtime_nanotime", "internal/sync.runtime_SemacquireMutex", "sync/atomic.AddInt32", "(*internal/sync.Mutex).Unlock", "internal/race.ReleaseMerge", "(*internal/sync.Mutex).unlockSlow", "internal/sync.fatal", "internal/sync.runtime_Semrelease", "sync/atomic.StoreUint32"], unfollowed := true, recurses := true, apart := false, narrowed := true }
def WalTwiceUptoSaid : Prop := walTwiceUptoRow.holds Try.pinned (OpenSpec.upto walTwiceSpec)

/-- 'tattlerlaw8.WalLasts', WHERE WHAT IT READS IS OF BULK AT MOST 1048576: true; the input reads as it did. -/
def walLastsUptoRow : OpenClaim := { program := "ytiibgekphgmjcaa", sum := "259657f071b9798a4287b995c7d38ce1daebaf8cb09de9c838c026fe48e7ffb3", func := "tattler/tattlerlaw8.WalLasts", spec := "walLasts", inPlace := ["sync/atomic.AddInt64", "sync/atomic.LoadUint32", "(*internal/sync.Mutex).Lock", "internal/race.Disable", "sync/atomic.CompareAndSwapInt32", "internal/race.Enable", "internal/race.Acquire", "(*internal/sync.Mutex).lockSlow", "internal/sync.runtime_canSpin", "internal/sync.runtime_doSpin", "internal/sync.throw", "internal/sync.runtime_nanotime", "internal/sync.runtime_SemacquireMutex", "sync/atomic.AddInt32", "(*internal/sync.Mutex).Unlock", "internal/race.ReleaseMerge", "(*internal/sync.Mutex).unlockSlow", "internal/sync.fatal", "internal/sync.runtime_Semrelease", "sync/atomic.StoreUint32"], unfollowed := true, recurses := true, apart := false, narrowed := true }
def WalLastsUptoSaid : Prop := walLastsUptoRow.holds Try.pinned (OpenSpec.upto walLastsSpec)

/-- 'tattlerlaw8.WalOpens', WHERE WHAT IT READS IS OF BULK AT MOST 1048576: true; the input reads as it did. -/
def walOpensUptoRow : OpenClaim := { program := "ytiibgekphgmjcaa", sum := "259657f071b9798a4287b995c7d38ce1daebaf8cb09de9c838c026fe48e7ffb3", func := "tattler/tattlerlaw8.WalOpens", spec := "walOpens", inPlace := ["sync/atomic.AddInt64", "sync/atomic.LoadUint32", "(*internal/sync.Mutex).Lock", "internal/race.Disable", "sync/atomic.CompareAndSwapInt32", "internal/race.Enable", "internal/race.Acquire", "(*internal/sync.Mutex).lockSlow", "internal/sync.runtime_canSpin", "internal/sync.runtime_doSpin", "internal/sync.throw", "internal/sync.runtime_nanotime", "internal/sync.runtime_SemacquireMutex", "sync/atomic.AddInt32", "(*internal/sync.Mutex).Unlock", "internal/race.ReleaseMerge", "(*internal/sync.Mutex).unlockSlow", "internal/sync.fatal", "internal/sync.runtime_Semrelease", "sync/atomic.StoreUint32"], unfollowed := true, recurses := true, apart := false, narrowed := true }
def WalOpensUptoSaid : Prop := walOpensUptoRow.holds Try.pinned (OpenSpec.upto walOpensSpec)

/-- 'tattlerlaw8.WalRoom', WHERE WHAT IT READS IS OF BULK AT MOST 1048576: true; the input reads as it did. -/
def walRoomUptoRow : OpenClaim := { program := "ytiibgekphgmjcaa", sum := "259657f071b9798a4287b995c7d38ce1daebaf8cb09de9c838c026fe48e7ffb3", func := "tattler/tattlerlaw8.WalRoom", spec := "walRoom", inPlace := ["sync/atomic.AddInt64", "sync/atomic.LoadUint32", "(*internal/sync.Mutex).Lock", "internal/race.Disable", "sync/atomic.CompareAndSwapInt32", "internal/race.Enable", "internal/race.Acquire", "(*internal/sync.Mutex).lockSlow", "internal/sync.runtime_canSpin", "internal/sync.runtime_doSpin", "internal/sync.throw", "internal/sync.runtime_nanotime", "internal/sync.runtime_SemacquireMutex", "sync/atomic.AddInt32", "(*internal/sync.Mutex).Unlock", "internal/race.ReleaseMerge", "(*internal/sync.Mutex).unlockSlow", "internal/sync.fatal", "internal/sync.runtime_Semrelease", "sync/atomic.StoreUint32"], unfollowed := true, recurses := true, apart := false, narrowed := true }
def WalRoomUptoSaid : Prop := walRoomUptoRow.holds Try.pinned (OpenSpec.upto walRoomSpec)

/-- 'tattlerlaw8.WalShort', WHERE WHAT IT READS IS OF BULK AT MOST 1048576: true; the input reads as it did. -/
def walShortUptoRow : OpenClaim := { program := "ytiibgekphgmjcaa", sum := "259657f071b9798a4287b995c7d38ce1daebaf8cb09de9c838c026fe48e7ffb3", func := "tattler/tattlerlaw8.WalShort", spec := "walShort", inPlace := ["sync/atomic.AddInt64", "sync/atomic.LoadUint32", "(*internal/sync.Mutex).Lock", "internal/race.Disable", "sync/atomic.CompareAndSwapInt32", "internal/race.Enable", "internal/race.Acquire", "(*internal/sync.Mutex).lockSlow", "internal/sync.runtime_canSpin", "internal/sync.runtime_doSpin", "internal/sync.throw", "internal/sync.runtime_nanotime", "internal/sync.runtime_SemacquireMutex", "sync/atomic.AddInt32", "(*internal/sync.Mutex).Unlock", "internal/race.ReleaseMerge", "(*internal/sync.Mutex).unlockSlow", "internal/sync.fatal", "internal/sync.runtime_Semrelease", "sync/atomic.StoreUint32"], unfollowed := true, recurses := true, apart := false, narrowed := true }
def WalShortUptoSaid : Prop := walShortUptoRow.holds Try.pinned (OpenSpec.upto walShortSpec)

/-- 'tattlerlaw8.WalNil', WHERE WHAT IT READS IS OF BULK AT MOST 1048576: true; the input reads as it did. -/
def walNilUptoRow : OpenClaim := { program := "ytiibgekphgmjcaa", sum := "259657f071b9798a4287b995c7d38ce1daebaf8cb09de9c838c026fe48e7ffb3", func := "tattler/tattlerlaw8.WalNil", spec := "walNil", inPlace := ["sync/atomic.AddInt64", "sync/atomic.LoadUint32", "(*internal/sync.Mutex).Lock", "internal/race.Disable", "sync/atomic.CompareAndSwapInt32", "internal/race.Enable", "internal/race.Acquire", "(*internal/sync.Mutex).lockSlow", "internal/sync.runtime_canSpin", "internal/sync.runtime_doSpin", "internal/sync.throw", "internal/sync.runtime_nanotime", "internal/sync.runtime_SemacquireMutex", "sync/atomic.AddInt32", "(*internal/sync.Mutex).Unlock", "internal/race.ReleaseMerge", "(*internal/sync.Mutex).unlockSlow", "internal/sync.fatal", "internal/sync.runtime_Semrelease", "sync/atomic.StoreUint32"], unfollowed := true, recurses := true, apart := false, narrowed := true }
def WalNilUptoSaid : Prop := walNilUptoRow.holds Try.pinned (OpenSpec.upto walNilSpec)

/-- 'tattlerlaw8.WalPlays', WHERE WHAT IT READS IS OF BULK AT MOST 1048576: true; the input reads as it did. -/
def walPlaysUptoRow : OpenClaim := { program := "ytiibgekphgmjcaa", sum := "259657f071b9798a4287b995c7d38ce1daebaf8cb09de9c838c026fe48e7ffb3", func := "tattler/tattlerlaw8.WalPlays", spec := "walPlays", inPlace := ["sync/atomic.AddInt64", "sync/atomic.LoadUint32", "(*internal/sync.Mutex).Lock", "internal/race.Disable", "sync/atomic.CompareAndSwapInt32", "internal/race.Enable", "internal/race.Acquire", "(*internal/sync.Mutex).lockSlow", "internal/sync.runtime_canSpin", "internal/sync.runtime_doSpin", "internal/sync.throw", "internal/sync.runtime_nanotime", "internal/sync.runtime_SemacquireMutex", "sync/atomic.AddInt32", "(*internal/sync.Mutex).Unlock", "internal/race.ReleaseMerge", "(*internal/sync.Mutex).unlockSlow", "internal/sync.fatal", "internal/sync.runtime_Semrelease", "sync/atomic.StoreUint32"], unfollowed := true, recurses := true, apart := false, narrowed := true }
def WalPlaysUptoSaid : Prop := walPlaysUptoRow.holds Try.pinned (OpenSpec.upto walPlaysSpec)

end Rows
end Go.Proofs.Ytiibgekphgmjcaa
