/-
  No cell of these rows narrows 'for every input' (looked for: loops, veiled, ifaces, maps, wideKeys, modest, calm, conditions, laid).
  DERIVED. THE GIVEN ROWS OF THIS SEAT. 8 by the template 'for every input the law returns true; each argument reads behind the call as it read before'; 0 by the template 'total and deterministic' (their statements: YtmjfmcgpmlfnbaaTotals.lean).
  GIVEN WITH THE SEED: the statements are not yours to turn. If you find one false, say at which input.
  Laid BY PROGRAM, IN A SANDBOX (cutbox-rows.mjs): the forced cells as the released guide's own fill.sh prints them over the translation 98a999b7643417dd… (all of the seat's roots in one cut). By AI agents, Wed Nov 11 2026. No macro, syntax, notation, axiom, sorry.
-/
import Derived.Test.YtmjfmcgpmlfnbaaChecked
import GoSem.Claim
import GoSem.ClaimJoined
import GoSem.ClaimMapViews
import Derived.JoinedTies
import Derived.KernelRfl
namespace Go.Proofs.Ytmjfmcgpmlfnbaa
/- THE CELL 'sum', in the pinned program and in every row, IS THE sha256 OF THE DUMP (.gsa) THAT YtmjfmcgpmlfnbaaProg.lean LOADS. Nothing in Lean hashes anything: it is a label: what it is worth is what the hold of that sum in a sandbox is worth. -/
noncomputable def Try.pinned : Pinned := { name := "ytmjfmcgpmlfnbaa", sum := "98a999b7643417dd8a54864d88a268be09537865eab05655a00cd53c63088abf", checked := Try.checked }
namespace Rows
def none {H : Type} : Left H := { results := [], args := [] }

/-- 'tattlerlaw2.LazyPoly': WHATEVER THE INPUT: true; the input reads as it did. -/
def lazyPolySpec : ChangeSpec := { name := "lazyPoly", fn := fun _ => fun
  | [d] => { results := [.lit (.bool true)], args := [d] }
  | _ => none }
def lazyPolyRow : OpenClaim := { program := "ytmjfmcgpmlfnbaa", sum := "98a999b7643417dd8a54864d88a268be09537865eab05655a00cd53c63088abf", func := "tattler/tattlerlaw2.LazyPoly", spec := "lazyPoly", inPlace := ["sync/atomic.AddInt64", "sync/atomic.LoadUint32", "(*internal/sync.Mutex).Lock", "internal/race.Disable", "sync/atomic.CompareAndSwapInt32", "internal/race.Enable", "internal/race.Acquire", "(*internal/sync.Mutex).lockSlow", "internal/sync.runtime_canSpin", "internal/sync.runtime_doSpin", "internal/sync.throw", "internal/sync.runtime_nanotime", "internal/sync.runtime_SemacquireMutex", "sync/atomic.AddInt32", "(*internal/sync.Mutex).Unlock", "internal/race.ReleaseMerge", "(*internal/sync.Mutex).unlockSlow", "internal/sync.fatal", "internal/sync.runtime_Semrelease", "sync/atomic.StoreUint32"], unfollowed := true, recurses := true, apart := false }
def LazyPolySaid : Prop := lazyPolyRow.holds Try.pinned (OpenSpec.ofChange lazyPolySpec)

/-- ITS FALSE NEIGHBOUR: 'it returns false'. Refute it at one input. -/
def lazyPolyWrong : ChangeSpec := { name := "lazyPoly", fn := fun _ => fun
  | [d] => { results := [.lit (.bool false)], args := [d] }
  | _ => none }
def LazyPolyWrongFalsely : Prop := lazyPolyRow.holds Try.pinned (OpenSpec.ofChange lazyPolyWrong)

/-- 'tattlerlaw2.LazyMakes': WHATEVER THE INPUT: true; the input reads as it did. -/
def lazyMakesSpec : ChangeSpec := { name := "lazyMakes", fn := fun _ => fun
  | [d1, d2, d3] => { results := [.lit (.bool true)], args := [d1, d2, d3] }
  | _ => none }
def lazyMakesRow : OpenClaim := { program := "ytmjfmcgpmlfnbaa", sum := "98a999b7643417dd8a54864d88a268be09537865eab05655a00cd53c63088abf", func := "tattler/tattlerlaw2.LazyMakes", spec := "lazyMakes", inPlace := ["sync/atomic.LoadInt64", "sync/atomic.AddInt64", "sync/atomic.LoadUint32", "(*internal/sync.Mutex).Lock", "internal/race.Disable", "sync/atomic.CompareAndSwapInt32", "internal/race.Enable", "internal/race.Acquire", "(*internal/sync.Mutex).lockSlow", "internal/sync.runtime_canSpin", "internal/sync.runtime_doSpin", "internal/sync.throw", "internal/sync.runtime_nanotime", "internal/sync.runtime_SemacquireMutex", "sync/atomic.AddInt32", "(*internal/sync.Mutex).Unlock", "internal/race.ReleaseMerge", "(*internal/sync.Mutex).unlockSlow", "internal/sync.fatal", "internal/sync.runtime_Semrelease", "sync/atomic.StoreUint32"], unfollowed := true, recurses := true, apart := false }
def LazyMakesSaid : Prop := lazyMakesRow.holds Try.pinned (OpenSpec.ofChange lazyMakesSpec)

/-- ITS FALSE NEIGHBOUR: 'it returns false'. Refute it at one input. -/
def lazyMakesWrong : ChangeSpec := { name := "lazyMakes", fn := fun _ => fun
  | [d1, d2, d3] => { results := [.lit (.bool false)], args := [d1, d2, d3] }
  | _ => none }
def LazyMakesWrongFalsely : Prop := lazyMakesRow.holds Try.pinned (OpenSpec.ofChange lazyMakesWrong)

/-- 'tattlerlaw2.LazyNil': WHATEVER THE INPUT: true; the input reads as it did. -/
def lazyNilSpec : ChangeSpec := { name := "lazyNil", fn := fun _ => fun
  | [d1, d2] => { results := [.lit (.bool true)], args := [d1, d2] }
  | _ => none }
def lazyNilRow : OpenClaim := { program := "ytmjfmcgpmlfnbaa", sum := "98a999b7643417dd8a54864d88a268be09537865eab05655a00cd53c63088abf", func := "tattler/tattlerlaw2.LazyNil", spec := "lazyNil", inPlace := ["sync/atomic.AddInt64", "sync/atomic.LoadUint32", "(*internal/sync.Mutex).Lock", "internal/race.Disable", "sync/atomic.CompareAndSwapInt32", "internal/race.Enable", "internal/race.Acquire", "(*internal/sync.Mutex).lockSlow", "internal/sync.runtime_canSpin", "internal/sync.runtime_doSpin", "internal/sync.throw", "internal/sync.runtime_nanotime", "internal/sync.runtime_SemacquireMutex", "sync/atomic.AddInt32", "(*internal/sync.Mutex).Unlock", "internal/race.ReleaseMerge", "(*internal/sync.Mutex).unlockSlow", "internal/sync.fatal", "internal/sync.runtime_Semrelease", "sync/atomic.StoreUint32", "sync/atomic.LoadInt64"], unfollowed := true, recurses := true, apart := false }
def LazyNilSaid : Prop := lazyNilRow.holds Try.pinned (OpenSpec.ofChange lazyNilSpec)

/-- ITS FALSE NEIGHBOUR: 'it returns false'. Refute it at one input. -/
def lazyNilWrong : ChangeSpec := { name := "lazyNil", fn := fun _ => fun
  | [d1, d2] => { results := [.lit (.bool false)], args := [d1, d2] }
  | _ => none }
def LazyNilWrongFalsely : Prop := lazyNilRow.holds Try.pinned (OpenSpec.ofChange lazyNilWrong)

/-- 'tattlerlaw2.LazyOnce': WHATEVER THE INPUT: true; the input reads as it did. -/
def lazyOnceSpec : ChangeSpec := { name := "lazyOnce", fn := fun _ => fun
  | [d1, d2] => { results := [.lit (.bool true)], args := [d1, d2] }
  | _ => none }
def lazyOnceRow : OpenClaim := { program := "ytmjfmcgpmlfnbaa", sum := "98a999b7643417dd8a54864d88a268be09537865eab05655a00cd53c63088abf", func := "tattler/tattlerlaw2.LazyOnce", spec := "lazyOnce", inPlace := ["sync/atomic.AddInt64", "sync/atomic.LoadUint32", "(*internal/sync.Mutex).Lock", "internal/race.Disable", "sync/atomic.CompareAndSwapInt32", "internal/race.Enable", "internal/race.Acquire", "(*internal/sync.Mutex).lockSlow", "internal/sync.runtime_canSpin", "internal/sync.runtime_doSpin", "internal/sync.throw", "internal/sync.runtime_nanotime", "internal/sync.runtime_SemacquireMutex", "sync/atomic.AddInt32", "(*internal/sync.Mutex).Unlock", "internal/race.ReleaseMerge", "(*internal/sync.Mutex).unlockSlow", "internal/sync.fatal", "internal/sync.runtime_Semrelease", "sync/atomic.StoreUint32", "sync/atomic.LoadInt64"], unfollowed := true, recurses := true, apart := false }
def LazyOnceSaid : Prop := lazyOnceRow.holds Try.pinned (OpenSpec.ofChange lazyOnceSpec)

/-- ITS FALSE NEIGHBOUR: 'it returns false'. Refute it at one input. -/
def lazyOnceWrong : ChangeSpec := { name := "lazyOnce", fn := fun _ => fun
  | [d1, d2] => { results := [.lit (.bool false)], args := [d1, d2] }
  | _ => none }
def LazyOnceWrongFalsely : Prop := lazyOnceRow.holds Try.pinned (OpenSpec.ofChange lazyOnceWrong)

/-- 'tattlerlaw2.LazySame': WHATEVER THE INPUT: true; the input reads as it did. -/
def lazySameSpec : ChangeSpec := { name := "lazySame", fn := fun _ => fun
  | [d1, d2, d3, d4] => { results := [.lit (.bool true)], args := [d1, d2, d3, d4] }
  | _ => none }
def lazySameRow : OpenClaim := { program := "ytmjfmcgpmlfnbaa", sum := "98a999b7643417dd8a54864d88a268be09537865eab05655a00cd53c63088abf", func := "tattler/tattlerlaw2.LazySame", spec := "lazySame", inPlace := ["sync/atomic.AddInt64", "sync/atomic.LoadUint32", "(*internal/sync.Mutex).Lock", "internal/race.Disable", "sync/atomic.CompareAndSwapInt32", "internal/race.Enable", "internal/race.Acquire", "(*internal/sync.Mutex).lockSlow", "internal/sync.runtime_canSpin", "internal/sync.runtime_doSpin", "internal/sync.throw", "internal/sync.runtime_nanotime", "internal/sync.runtime_SemacquireMutex", "sync/atomic.AddInt32", "(*internal/sync.Mutex).Unlock", "internal/race.ReleaseMerge", "(*internal/sync.Mutex).unlockSlow", "internal/sync.fatal", "internal/sync.runtime_Semrelease", "sync/atomic.StoreUint32", "sync/atomic.LoadInt64"], unfollowed := true, recurses := true, apart := false }
def LazySameSaid : Prop := lazySameRow.holds Try.pinned (OpenSpec.ofChange lazySameSpec)

/-- ITS FALSE NEIGHBOUR: 'it returns false'. Refute it at one input. -/
def lazySameWrong : ChangeSpec := { name := "lazySame", fn := fun _ => fun
  | [d1, d2, d3, d4] => { results := [.lit (.bool false)], args := [d1, d2, d3, d4] }
  | _ => none }
def LazySameWrongFalsely : Prop := lazySameRow.holds Try.pinned (OpenSpec.ofChange lazySameWrong)

/-- 'tattlerlaw2.LazySums': WHATEVER THE INPUT: true; the input reads as it did. -/
def lazySumsSpec : ChangeSpec := { name := "lazySums", fn := fun _ => fun
  | [d1, d2, d3] => { results := [.lit (.bool true)], args := [d1, d2, d3] }
  | _ => none }
def lazySumsRow : OpenClaim := { program := "ytmjfmcgpmlfnbaa", sum := "98a999b7643417dd8a54864d88a268be09537865eab05655a00cd53c63088abf", func := "tattler/tattlerlaw2.LazySums", spec := "lazySums", inPlace := ["sync/atomic.AddInt64", "sync/atomic.LoadUint32", "(*internal/sync.Mutex).Lock", "internal/race.Disable", "sync/atomic.CompareAndSwapInt32", "internal/race.Enable", "internal/race.Acquire", "(*internal/sync.Mutex).lockSlow", "internal/sync.runtime_canSpin", "internal/sync.runtime_doSpin", "internal/sync.throw", "internal/sync.runtime_nanotime", "internal/sync.runtime_SemacquireMutex", "sync/atomic.AddInt32", "(*internal/sync.Mutex).Unlock", "internal/race.ReleaseMerge", "(*internal/sync.Mutex).unlockSlow", "internal/sync.fatal", "internal/sync.runtime_Semrelease", "sync/atomic.StoreUint32"], unfollowed := true, recurses := true, apart := false }
def LazySumsSaid : Prop := lazySumsRow.holds Try.pinned (OpenSpec.ofChange lazySumsSpec)

/-- ITS FALSE NEIGHBOUR: 'it returns false'. Refute it at one input. -/
def lazySumsWrong : ChangeSpec := { name := "lazySums", fn := fun _ => fun
  | [d1, d2, d3] => { results := [.lit (.bool false)], args := [d1, d2, d3] }
  | _ => none }
def LazySumsWrongFalsely : Prop := lazySumsRow.holds Try.pinned (OpenSpec.ofChange lazySumsWrong)

/-- 'tattlerlaw2.LazyTells': WHATEVER THE INPUT: true; the input reads as it did. -/
def lazyTellsSpec : ChangeSpec := { name := "lazyTells", fn := fun _ => fun
  | [d1, d2, d3, d4, d5] => { results := [.lit (.bool true)], args := [d1, d2, d3, d4, d5] }
  | _ => none }
def lazyTellsRow : OpenClaim := { program := "ytmjfmcgpmlfnbaa", sum := "98a999b7643417dd8a54864d88a268be09537865eab05655a00cd53c63088abf", func := "tattler/tattlerlaw2.LazyTells", spec := "lazyTells", inPlace := ["sync/atomic.AddInt64", "sync/atomic.LoadUint32", "(*internal/sync.Mutex).Lock", "internal/race.Disable", "sync/atomic.CompareAndSwapInt32", "internal/race.Enable", "internal/race.Acquire", "(*internal/sync.Mutex).lockSlow", "internal/sync.runtime_canSpin", "internal/sync.runtime_doSpin", "internal/sync.throw", "internal/sync.runtime_nanotime", "internal/sync.runtime_SemacquireMutex", "sync/atomic.AddInt32", "(*internal/sync.Mutex).Unlock", "internal/race.ReleaseMerge", "(*internal/sync.Mutex).unlockSlow", "internal/sync.fatal", "internal/sync.runtime_Semrelease", "sync/atomic.StoreUint32"], unfollowed := true, recurses := true, apart := false }
def LazyTellsSaid : Prop := lazyTellsRow.holds Try.pinned (OpenSpec.ofChange lazyTellsSpec)

/-- ITS FALSE NEIGHBOUR: 'it returns false'. Refute it at one input. -/
def lazyTellsWrong : ChangeSpec := { name := "lazyTells", fn := fun _ => fun
  | [d1, d2, d3, d4, d5] => { results := [.lit (.bool false)], args := [d1, d2, d3, d4, d5] }
  | _ => none }
def LazyTellsWrongFalsely : Prop := lazyTellsRow.holds Try.pinned (OpenSpec.ofChange lazyTellsWrong)

/-- 'tattlerlaw2.LazyMixes': WHATEVER THE INPUT: true; the input reads as it did. -/
def lazyMixesSpec : ChangeSpec := { name := "lazyMixes", fn := fun _ => fun
  | [d1, d2, d3] => { results := [.lit (.bool true)], args := [d1, d2, d3] }
  | _ => none }
def lazyMixesRow : OpenClaim := { program := "ytmjfmcgpmlfnbaa", sum := "98a999b7643417dd8a54864d88a268be09537865eab05655a00cd53c63088abf", func := "tattler/tattlerlaw2.LazyMixes", spec := "lazyMixes", inPlace := ["sync/atomic.AddInt64", "sync/atomic.LoadUint32", "(*internal/sync.Mutex).Lock", "internal/race.Disable", "sync/atomic.CompareAndSwapInt32", "internal/race.Enable", "internal/race.Acquire", "(*internal/sync.Mutex).lockSlow", "internal/sync.runtime_canSpin", "internal/sync.runtime_doSpin", "internal/sync.throw", "internal/sync.runtime_nanotime", "internal/sync.runtime_SemacquireMutex", "sync/atomic.AddInt32", "(*internal/sync.Mutex).Unlock", "internal/race.ReleaseMerge", "(*internal/sync.Mutex).unlockSlow", "internal/sync.fatal", "internal/sync.runtime_Semrelease", "sync/atomic.StoreUint32"], unfollowed := true, recurses := true, apart := false }
def LazyMixesSaid : Prop := lazyMixesRow.holds Try.pinned (OpenSpec.ofChange lazyMixesSpec)

/-- ITS FALSE NEIGHBOUR: 'it returns false'. Refute it at one input. -/
def lazyMixesWrong : ChangeSpec := { name := "lazyMixes", fn := fun _ => fun
  | [d1, d2, d3] => { results := [.lit (.bool false)], args := [d1, d2, d3] }
  | _ => none }
def LazyMixesWrongFalsely : Prop := lazyMixesRow.holds Try.pinned (OpenSpec.ofChange lazyMixesWrong)

/- THE SECOND FORM. 'bulk': how many values and letters a reading holds, each counted each time it is reached (what is shared counts as often as it is met; a slice's spare places count too). A statement '..UptoSaid' is the law's where the arguments, and the package variables that the reading takes, are together of bulk at most 1048576: NARROWER than '..Said'. Prove '..Said' where nothing that the law and all that it calls make is longer than what came in: it says more and counts as full. Else prove '..UptoSaid'. A law counts once. -/
mutual
def uptoBulk {H : Type} : DataW H → Nat
  | .lit (.string bytes) => bytes.length + 1
  | .lit _ => 1
  | .nil => 1
  | .ptr d => uptoBulk d + 1
  | .slice elems spare => uptoBulkAll elems + uptoBulkAll spare + 1
  | .agg parts => uptoBulkAll parts + 1
  | .iface _ d => uptoBulk d + 1
  | .map entries => uptoBulkEntries entries + 1
  | .held _ => 1
def uptoBulkAll {H : Type} : List (DataW H) → Nat
  | [] => 0
  | d :: r => uptoBulk d + uptoBulkAll r
def uptoBulkEntries {H : Type} : List (Lit × DataW H) → Nat
  | [] => 0
  | x :: r => uptoBulkEntry x + uptoBulkEntries r
def uptoBulkEntry {H : Type} : Lit × DataW H → Nat
  | (.string bytes, d) => bytes.length + uptoBulk d + 1
  | (_, d) => uptoBulk d + 1
 end
def uptoSmall : (H : Type) → List (DataW H) → Bool := fun _ ds => decide (uptoBulkAll ds ≤ 1048576)
def OpenSpec.upto (s : _root_.Go.ChangeSpec) : _root_.Go.OpenSpec := { _root_.Go.OpenSpec.ofChange s with cond := some uptoSmall }

/-- 'tattlerlaw2.LazyPoly', WHERE WHAT IT READS IS OF BULK AT MOST 1048576: true; the input reads as it did. -/
def lazyPolyUptoRow : OpenClaim := { program := "ytmjfmcgpmlfnbaa", sum := "98a999b7643417dd8a54864d88a268be09537865eab05655a00cd53c63088abf", func := "tattler/tattlerlaw2.LazyPoly", spec := "lazyPoly", inPlace := ["sync/atomic.AddInt64", "sync/atomic.LoadUint32", "(*internal/sync.Mutex).Lock", "internal/race.Disable", "sync/atomic.CompareAndSwapInt32", "internal/race.Enable", "internal/race.Acquire", "(*internal/sync.Mutex).lockSlow", "internal/sync.runtime_canSpin", "internal/sync.runtime_doSpin", "internal/sync.throw", "internal/sync.runtime_nanotime", "internal/sync.runtime_SemacquireMutex", "sync/atomic.AddInt32", "(*internal/sync.Mutex).Unlock", "internal/race.ReleaseMerge", "(*internal/sync.Mutex).unlockSlow", "internal/sync.fatal", "internal/sync.runtime_Semrelease", "sync/atomic.StoreUint32"], unfollowed := true, recurses := true, apart := false, narrowed := true }
def LazyPolyUptoSaid : Prop := lazyPolyUptoRow.holds Try.pinned (OpenSpec.upto lazyPolySpec)

/-- 'tattlerlaw2.LazyMakes', WHERE WHAT IT READS IS OF BULK AT MOST 1048576: true; the input reads as it did. -/
def lazyMakesUptoRow : OpenClaim := { program := "ytmjfmcgpmlfnbaa", sum := "98a999b7643417dd8a54864d88a268be09537865eab05655a00cd53c63088abf", func := "tattler/tattlerlaw2.LazyMakes", spec := "lazyMakes", inPlace := ["sync/atomic.LoadInt64", "sync/atomic.AddInt64", "sync/atomic.LoadUint32", "(*internal/sync.Mutex).Lock", "internal/race.Disable", "sync/atomic.CompareAndSwapInt32", "internal/race.Enable", "internal/race.Acquire", "(*internal/sync.Mutex).lockSlow", "internal/sync.runtime_canSpin", "internal/sync.runtime_doSpin", "internal/sync.throw", "internal/sync.runtime_nanotime", "internal/sync.runtime_SemacquireMutex", "sync/atomic.AddInt32", "(*internal/sync.Mutex).Unlock", "internal/race.ReleaseMerge", "(*internal/sync.Mutex).unlockSlow", "internal/sync.fatal", "internal/sync.runtime_Semrelease", "sync/atomic.StoreUint32"], unfollowed := true, recurses := true, apart := false, narrowed := true }
def LazyMakesUptoSaid : Prop := lazyMakesUptoRow.holds Try.pinned (OpenSpec.upto lazyMakesSpec)

/-- 'tattlerlaw2.LazyNil', WHERE WHAT IT READS IS OF BULK AT MOST 1048576: true; the input reads as it did. -/
def lazyNilUptoRow : OpenClaim := { program := "ytmjfmcgpmlfnbaa", sum := "98a999b7643417dd8a54864d88a268be09537865eab05655a00cd53c63088abf", func := "tattler/tattlerlaw2.LazyNil", spec := "lazyNil", inPlace := ["sync/atomic.AddInt64", "sync/atomic.LoadUint32", "(*internal/sync.Mutex).Lock", "internal/race.Disable", "sync/atomic.CompareAndSwapInt32", "internal/race.Enable", "internal/race.Acquire", "(*internal/sync.Mutex).lockSlow", "internal/sync.runtime_canSpin", "internal/sync.runtime_doSpin", "internal/sync.throw", "internal/sync.runtime_nanotime", "internal/sync.runtime_SemacquireMutex", "sync/atomic.AddInt32", "(*internal/sync.Mutex).Unlock", "internal/race.ReleaseMerge", "(*internal/sync.Mutex).unlockSlow", "internal/sync.fatal", "internal/sync.runtime_Semrelease", "sync/atomic.StoreUint32", "sync/atomic.LoadInt64"], unfollowed := true, recurses := true, apart := false, narrowed := true }
def LazyNilUptoSaid : Prop := lazyNilUptoRow.holds Try.pinned (OpenSpec.upto lazyNilSpec)

/-- 'tattlerlaw2.LazyOnce', WHERE WHAT IT READS IS OF BULK AT MOST 1048576: true; the input reads as it did. -/
def lazyOnceUptoRow : OpenClaim := { program := "ytmjfmcgpmlfnbaa", sum := "98a999b7643417dd8a54864d88a268be09537865eab05655a00cd53c63088abf", func := "tattler/tattlerlaw2.LazyOnce", spec := "lazyOnce", inPlace := ["sync/atomic.AddInt64", "sync/atomic.LoadUint32", "(*internal/sync.Mutex).Lock", "internal/race.Disable", "sync/atomic.CompareAndSwapInt32", "internal/race.Enable", "internal/race.Acquire", "(*internal/sync.Mutex).lockSlow", "internal/sync.runtime_canSpin", "internal/sync.runtime_doSpin", "internal/sync.throw", "internal/sync.runtime_nanotime", "internal/sync.runtime_SemacquireMutex", "sync/atomic.AddInt32", "(*internal/sync.Mutex).Unlock", "internal/race.ReleaseMerge", "(*internal/sync.Mutex).unlockSlow", "internal/sync.fatal", "internal/sync.runtime_Semrelease", "sync/atomic.StoreUint32", "sync/atomic.LoadInt64"], unfollowed := true, recurses := true, apart := false, narrowed := true }
def LazyOnceUptoSaid : Prop := lazyOnceUptoRow.holds Try.pinned (OpenSpec.upto lazyOnceSpec)

/-- 'tattlerlaw2.LazySame', WHERE WHAT IT READS IS OF BULK AT MOST 1048576: true; the input reads as it did. -/
def lazySameUptoRow : OpenClaim := { program := "ytmjfmcgpmlfnbaa", sum := "98a999b7643417dd8a54864d88a268be09537865eab05655a00cd53c63088abf", func := "tattler/tattlerlaw2.LazySame", spec := "lazySame", inPlace := ["sync/atomic.AddInt64", "sync/atomic.LoadUint32", "(*internal/sync.Mutex).Lock", "internal/race.Disable", "sync/atomic.CompareAndSwapInt32", "internal/race.Enable", "internal/race.Acquire", "(*internal/sync.Mutex).lockSlow", "internal/sync.runtime_canSpin", "internal/sync.runtime_doSpin", "internal/sync.throw", "internal/sync.runtime_nanotime", "internal/sync.runtime_SemacquireMutex", "sync/atomic.AddInt32", "(*internal/sync.Mutex).Unlock", "internal/race.ReleaseMerge", "(*internal/sync.Mutex).unlockSlow", "internal/sync.fatal", "internal/sync.runtime_Semrelease", "sync/atomic.StoreUint32", "sync/atomic.LoadInt64"], unfollowed := true, recurses := true, apart := false, narrowed := true }
def LazySameUptoSaid : Prop := lazySameUptoRow.holds Try.pinned (OpenSpec.upto lazySameSpec)

/-- 'tattlerlaw2.LazySums', WHERE WHAT IT READS IS OF BULK AT MOST 1048576: true; the input reads as it did. -/
def lazySumsUptoRow : OpenClaim := { program := "ytmjfmcgpmlfnbaa", sum := "98a999b7643417dd8a54864d88a268be09537865eab05655a00cd53c63088abf", func := "tattler/tattlerlaw2.LazySums", spec := "lazySums", inPlace := ["sync/atomic.AddInt64", "sync/atomic.LoadUint32", "(*internal/sync.Mutex).Lock", "internal/race.Disable", "sync/atomic.CompareAndSwapInt32", "internal/race.Enable", "internal/race.Acquire", "(*internal/sync.Mutex).lockSlow", "internal/sync.runtime_canSpin", "internal/sync.runtime_doSpin", "internal/sync.throw", "internal/sync.runtime_nanotime", "internal/sync.runtime_SemacquireMutex", "sync/atomic.AddInt32", "(*internal/sync.Mutex).Unlock", "internal/race.ReleaseMerge", "(*internal/sync.Mutex).unlockSlow", "internal/sync.fatal", "internal/sync.runtime_Semrelease", "sync/atomic.StoreUint32"], unfollowed := true, recurses := true, apart := false, narrowed := true }
def LazySumsUptoSaid : Prop := lazySumsUptoRow.holds Try.pinned (OpenSpec.upto lazySumsSpec)

/-- 'tattlerlaw2.LazyTells', WHERE WHAT IT READS IS OF BULK AT MOST 1048576: true; the input reads as it did. -/
def lazyTellsUptoRow : OpenClaim := { program := "ytmjfmcgpmlfnbaa", sum := "98a999b7643417dd8a54864d88a268be09537865eab05655a00cd53c63088abf", func := "tattler/tattlerlaw2.LazyTells", spec := "lazyTells", inPlace := ["sync/atomic.AddInt64", "sync/atomic.LoadUint32", "(*internal/sync.Mutex).Lock", "internal/race.Disable", "sync/atomic.CompareAndSwapInt32", "internal/race.Enable", "internal/race.Acquire", "(*internal/sync.Mutex).lockSlow", "internal/sync.runtime_canSpin", "internal/sync.runtime_doSpin", "internal/sync.throw", "internal/sync.runtime_nanotime", "internal/sync.runtime_SemacquireMutex", "sync/atomic.AddInt32", "(*internal/sync.Mutex).Unlock", "internal/race.ReleaseMerge", "(*internal/sync.Mutex).unlockSlow", "internal/sync.fatal", "internal/sync.runtime_Semrelease", "sync/atomic.StoreUint32"], unfollowed := true, recurses := true, apart := false, narrowed := true }
def LazyTellsUptoSaid : Prop := lazyTellsUptoRow.holds Try.pinned (OpenSpec.upto lazyTellsSpec)

/-- 'tattlerlaw2.LazyMixes', WHERE WHAT IT READS IS OF BULK AT MOST 1048576: true; the input reads as it did. -/
def lazyMixesUptoRow : OpenClaim := { program := "ytmjfmcgpmlfnbaa", sum := "98a999b7643417dd8a54864d88a268be09537865eab05655a00cd53c63088abf", func := "tattler/tattlerlaw2.LazyMixes", spec := "lazyMixes", inPlace := ["sync/atomic.AddInt64", "sync/atomic.LoadUint32", "(*internal/sync.Mutex).Lock", "internal/race.Disable", "sync/atomic.CompareAndSwapInt32", "internal/race.Enable", "internal/race.Acquire", "(*internal/sync.Mutex).lockSlow", "internal/sync.runtime_canSpin", "internal/sync.runtime_doSpin", "internal/sync.throw", "internal/sync.runtime_nanotime", "internal/sync.runtime_SemacquireMutex", "sync/atomic.AddInt32", "(*internal/sync.Mutex).Unlock", "internal/race.ReleaseMerge", "(*internal/sync.Mutex).unlockSlow", "internal/sync.fatal", "internal/sync.runtime_Semrelease", "sync/atomic.StoreUint32"], unfollowed := true, recurses := true, apart := false, narrowed := true }
def LazyMixesUptoSaid : Prop := lazyMixesUptoRow.holds Try.pinned (OpenSpec.upto lazyMixesSpec)

end Rows
end Go.Proofs.Ytmjfmcgpmlfnbaa
