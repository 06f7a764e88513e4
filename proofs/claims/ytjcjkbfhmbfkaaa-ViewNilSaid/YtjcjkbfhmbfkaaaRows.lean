/-
  No cell of these rows narrows 'for every input' (looked for: loops, veiled, ifaces, maps, wideKeys, modest, calm, conditions, laid).
  DERIVED. THE GIVEN ROWS OF THIS SEAT. 7 by the template 'for every input the law returns true; each argument reads behind the call as it read before'; 0 by the template 'total and deterministic' (their statements: YtjcjkbfhmbfkaaaTotals.lean).
  GIVEN WITH THE SEED: the statements are not yours to turn. If you find one false, say at which input.
  Laid BY PROGRAM, IN A SANDBOX (cutbox-rows.mjs): the forced cells as the released guide's own fill.sh prints them over the translation 0883b50621a1cf0c… (all of the seat's roots in one cut). By AI agents, Wed Nov 11 2026. No macro, syntax, notation, axiom, sorry.
-/
import Derived.Test.YtjcjkbfhmbfkaaaChecked
import GoSem.Claim
import GoSem.ClaimJoined
import GoSem.ClaimMapViews
import Derived.JoinedTies
import Derived.KernelRfl
namespace Go.Proofs.Ytjcjkbfhmbfkaaa
/- THE CELL 'sum', in the pinned program and in every row, IS THE sha256 OF THE DUMP (.gsa) THAT YtjcjkbfhmbfkaaaProg.lean LOADS. Nothing in Lean hashes anything: it is a label: what it is worth is what the hold of that sum in a sandbox is worth. -/
noncomputable def Try.pinned : Pinned := { name := "ytjcjkbfhmbfkaaa", sum := "0883b50621a1cf0ca2a407e851e55973aa9483bd33aabd2056fd7c39ad52d127", checked := Try.checked }
namespace Rows
def none {H : Type} : Left H := { results := [], args := [] }

/-- 'tattlerlaw16.ViewCounts': WHATEVER THE INPUT: true; the input reads as it did. -/
def viewCountsSpec : ChangeSpec := { name := "viewCounts", fn := fun _ => fun
  | [d1, d2] => { results := [.lit (.bool true)], args := [d1, d2] }
  | _ => none }
def viewCountsRow : OpenClaim := { program := "ytjcjkbfhmbfkaaa", sum := "0883b50621a1cf0ca2a407e851e55973aa9483bd33aabd2056fd7c39ad52d127", func := "tattler/tattlerlaw16.ViewCounts", spec := "viewCounts", apart := false }
def ViewCountsSaid : Prop := viewCountsRow.holds Try.pinned (OpenSpec.ofChange viewCountsSpec)

/-- ITS FALSE NEIGHBOUR: 'it returns false'. Refute it at one input. -/
def viewCountsWrong : ChangeSpec := { name := "viewCounts", fn := fun _ => fun
  | [d1, d2] => { results := [.lit (.bool false)], args := [d1, d2] }
  | _ => none }
def ViewCountsWrongFalsely : Prop := viewCountsRow.holds Try.pinned (OpenSpec.ofChange viewCountsWrong)

/-- 'tattlerlaw16.ViewAges': WHATEVER THE INPUT: true; the input reads as it did. -/
def viewAgesSpec : ChangeSpec := { name := "viewAges", fn := fun _ => fun
  | [d1, d2, d3, d4] => { results := [.lit (.bool true)], args := [d1, d2, d3, d4] }
  | _ => none }
def viewAgesRow : OpenClaim := { program := "ytjcjkbfhmbfkaaa", sum := "0883b50621a1cf0ca2a407e851e55973aa9483bd33aabd2056fd7c39ad52d127", func := "tattler/tattlerlaw16.ViewAges", spec := "viewAges", apart := false }
def ViewAgesSaid : Prop := viewAgesRow.holds Try.pinned (OpenSpec.ofChange viewAgesSpec)

/-- ITS FALSE NEIGHBOUR: 'it returns false'. Refute it at one input. -/
def viewAgesWrong : ChangeSpec := { name := "viewAges", fn := fun _ => fun
  | [d1, d2, d3, d4] => { results := [.lit (.bool false)], args := [d1, d2, d3, d4] }
  | _ => none }
def ViewAgesWrongFalsely : Prop := viewAgesRow.holds Try.pinned (OpenSpec.ofChange viewAgesWrong)

/-- 'tattlerlaw16.ViewPlays': WHATEVER THE INPUT: true; the input reads as it did. -/
def viewPlaysSpec : ChangeSpec := { name := "viewPlays", fn := fun _ => fun
  | [d1, d2, d3] => { results := [.lit (.bool true)], args := [d1, d2, d3] }
  | _ => none }
def viewPlaysRow : OpenClaim := { program := "ytjcjkbfhmbfkaaa", sum := "0883b50621a1cf0ca2a407e851e55973aa9483bd33aabd2056fd7c39ad52d127", func := "tattler/tattlerlaw16.ViewPlays", spec := "viewPlays", apart := false }
def ViewPlaysSaid : Prop := viewPlaysRow.holds Try.pinned (OpenSpec.ofChange viewPlaysSpec)

/-- ITS FALSE NEIGHBOUR: 'it returns false'. Refute it at one input. -/
def viewPlaysWrong : ChangeSpec := { name := "viewPlays", fn := fun _ => fun
  | [d1, d2, d3] => { results := [.lit (.bool false)], args := [d1, d2, d3] }
  | _ => none }
def ViewPlaysWrongFalsely : Prop := viewPlaysRow.holds Try.pinned (OpenSpec.ofChange viewPlaysWrong)

/-- 'tattlerlaw16.ViewNil': WHATEVER THE INPUT: true; the input reads as it did. -/
def viewNilSpec : ChangeSpec := { name := "viewNil", fn := fun _ => fun
  | [d1, d2] => { results := [.lit (.bool true)], args := [d1, d2] }
  | _ => none }
def viewNilRow : OpenClaim := { program := "ytjcjkbfhmbfkaaa", sum := "0883b50621a1cf0ca2a407e851e55973aa9483bd33aabd2056fd7c39ad52d127", func := "tattler/tattlerlaw16.ViewNil", spec := "viewNil", apart := false }
def ViewNilSaid : Prop := viewNilRow.holds Try.pinned (OpenSpec.ofChange viewNilSpec)

/-- ITS FALSE NEIGHBOUR: 'it returns false'. Refute it at one input. -/
def viewNilWrong : ChangeSpec := { name := "viewNil", fn := fun _ => fun
  | [d1, d2] => { results := [.lit (.bool false)], args := [d1, d2] }
  | _ => none }
def ViewNilWrongFalsely : Prop := viewNilRow.holds Try.pinned (OpenSpec.ofChange viewNilWrong)

/-- 'tattlerlaw16.ViewAlike': WHATEVER THE INPUT: true; the input reads as it did. -/
def viewAlikeSpec : ChangeSpec := { name := "viewAlike", fn := fun _ => fun
  | [d1, d2, d3] => { results := [.lit (.bool true)], args := [d1, d2, d3] }
  | _ => none }
def viewAlikeRow : OpenClaim := { program := "ytjcjkbfhmbfkaaa", sum := "0883b50621a1cf0ca2a407e851e55973aa9483bd33aabd2056fd7c39ad52d127", func := "tattler/tattlerlaw16.ViewAlike", spec := "viewAlike", apart := false }
def ViewAlikeSaid : Prop := viewAlikeRow.holds Try.pinned (OpenSpec.ofChange viewAlikeSpec)

/-- ITS FALSE NEIGHBOUR: 'it returns false'. Refute it at one input. -/
def viewAlikeWrong : ChangeSpec := { name := "viewAlike", fn := fun _ => fun
  | [d1, d2, d3] => { results := [.lit (.bool false)], args := [d1, d2, d3] }
  | _ => none }
def ViewAlikeWrongFalsely : Prop := viewAlikeRow.holds Try.pinned (OpenSpec.ofChange viewAlikeWrong)

/-- 'tattlerlaw16.ViewAgain': WHATEVER THE INPUT: true; the input reads as it did. -/
def viewAgainSpec : ChangeSpec := { name := "viewAgain", fn := fun _ => fun
  | [d1, d2, d3] => { results := [.lit (.bool true)], args := [d1, d2, d3] }
  | _ => none }
def viewAgainRow : OpenClaim := { program := "ytjcjkbfhmbfkaaa", sum := "0883b50621a1cf0ca2a407e851e55973aa9483bd33aabd2056fd7c39ad52d127", func := "tattler/tattlerlaw16.ViewAgain", spec := "viewAgain", apart := false }
def ViewAgainSaid : Prop := viewAgainRow.holds Try.pinned (OpenSpec.ofChange viewAgainSpec)

/-- ITS FALSE NEIGHBOUR: 'it returns false'. Refute it at one input. -/
def viewAgainWrong : ChangeSpec := { name := "viewAgain", fn := fun _ => fun
  | [d1, d2, d3] => { results := [.lit (.bool false)], args := [d1, d2, d3] }
  | _ => none }
def ViewAgainWrongFalsely : Prop := viewAgainRow.holds Try.pinned (OpenSpec.ofChange viewAgainWrong)

/-- 'tattlerlaw16.ViewGrows': WHATEVER THE INPUT: true; the input reads as it did. -/
def viewGrowsSpec : ChangeSpec := { name := "viewGrows", fn := fun _ => fun
  | [d1, d2, d3] => { results := [.lit (.bool true)], args := [d1, d2, d3] }
  | _ => none }
def viewGrowsRow : OpenClaim := { program := "ytjcjkbfhmbfkaaa", sum := "0883b50621a1cf0ca2a407e851e55973aa9483bd33aabd2056fd7c39ad52d127", func := "tattler/tattlerlaw16.ViewGrows", spec := "viewGrows", apart := false }
def ViewGrowsSaid : Prop := viewGrowsRow.holds Try.pinned (OpenSpec.ofChange viewGrowsSpec)

/-- ITS FALSE NEIGHBOUR: 'it returns false'. Refute it at one input. -/
def viewGrowsWrong : ChangeSpec := { name := "viewGrows", fn := fun _ => fun
  | [d1, d2, d3] => { results := [.lit (.bool false)], args := [d1, d2, d3] }
  | _ => none }
def ViewGrowsWrongFalsely : Prop := viewGrowsRow.holds Try.pinned (OpenSpec.ofChange viewGrowsWrong)

/- THE SECOND FORM. 'bulk': how many values and letters a reading holds, each counted each time it is reached (what is shared counts as often as it is met; a slice's spare places count too). A statement '..UptoSaid' is the law's where the arguments, and the package variables that the reading takes, are together of bulk at most 1048576: NARROWER than '..Said'. Prove '..Said' where nothing that the law and all that it calls make is longer than what came in: it says more and counts as full. Else prove '..UptoSaid'. A law counts once. -/
mutual
def uptoBulk {H : Type} : DataW H → Nat
  | .lit (.string bytes) => bytes.length + 1
  | .lit _ => 1
  | .nil => 1
  | .ptr d => uptoBulk d + 1
  | .slice elems spare => uptoBulkAll elems + uptoBulkAll spare + 1
  | .agg parts => uptoBulkAll parts + 1
  | .iface _ d => uptoBulk d + 1
  | .map entries => uptoBulkEntries entries + 1
  | .held _ => 1
def uptoBulkAll {H : Type} : List (DataW H) → Nat
  | [] => 0
  | d :: r => uptoBulk d + uptoBulkAll r
def uptoBulkEntries {H : Type} : List (Lit × DataW H) → Nat
  | [] => 0
  | x :: r => uptoBulkEntry x + uptoBulkEntries r
def uptoBulkEntry {H : Type} : Lit × DataW H → Nat
  | (.string bytes, d) => bytes.length + uptoBulk d + 1
  | (_, d) => uptoBulk d + 1
 end
def uptoSmall : (H : Type) → List (DataW H) → Bool := fun _ ds => decide (uptoBulkAll ds ≤ 1048576)
def OpenSpec.upto (s : _root_.Go.ChangeSpec) : _root_.Go.OpenSpec := { _root_.Go.OpenSpec.ofChange s with cond := some uptoSmall }

/-- 'tattlerlaw16.ViewCounts', WHERE WHAT IT READS IS OF BULK AT MOST 1048576: true; the input reads as it did. -/
def viewCountsUptoRow : OpenClaim := { program := "ytjcjkbfhmbfkaaa", sum := "0883b50621a1cf0ca2a407e851e55973aa9483bd33aabd2056fd7c39ad52d127", func := "tattler/tattlerlaw16.ViewCounts", spec := "viewCounts", apart := false, narrowed := true }
def ViewCountsUptoSaid : Prop := viewCountsUptoRow.holds Try.pinned (OpenSpec.upto viewCountsSpec)

/-- 'tattlerlaw16.ViewAges', WHERE WHAT IT READS IS OF BULK AT MOST 1048576: true; the input reads as it did. -/
def viewAgesUptoRow : OpenClaim := { program := "ytjcjkbfhmbfkaaa", sum := "0883b50621a1cf0ca2a407e851e55973aa9483bd33aabd2056fd7c39ad52d127", func := "tattler/tattlerlaw16.ViewAges", spec := "viewAges", apart := false, narrowed := true }
def ViewAgesUptoSaid : Prop := viewAgesUptoRow.holds Try.pinned (OpenSpec.upto viewAgesSpec)

/-- 'tattlerlaw16.ViewPlays', WHERE WHAT IT READS IS OF BULK AT MOST 1048576: true; the input reads as it did. -/
def viewPlaysUptoRow : OpenClaim := { program := "ytjcjkbfhmbfkaaa", sum := "0883b50621a1cf0ca2a407e851e55973aa9483bd33aabd2056fd7c39ad52d127", func := "tattler/tattlerlaw16.ViewPlays", spec := "viewPlays", apart := false, narrowed := true }
def ViewPlaysUptoSaid : Prop := viewPlaysUptoRow.holds Try.pinned (OpenSpec.upto viewPlaysSpec)

/-- 'tattlerlaw16.ViewNil', WHERE WHAT IT READS IS OF BULK AT MOST 1048576: true; the input reads as it did. -/
def viewNilUptoRow : OpenClaim := { program := "ytjcjkbfhmbfkaaa", sum := "0883b50621a1cf0ca2a407e851e55973aa9483bd33aabd2056fd7c39ad52d127", func := "tattler/tattlerlaw16.ViewNil", spec := "viewNil", apart := false, narrowed := true }
def ViewNilUptoSaid : Prop := viewNilUptoRow.holds Try.pinned (OpenSpec.upto viewNilSpec)

/-- 'tattlerlaw16.ViewAlike', WHERE WHAT IT READS IS OF BULK AT MOST 1048576: true; the input reads as it did. -/
def viewAlikeUptoRow : OpenClaim := { program := "ytjcjkbfhmbfkaaa", sum := "0883b50621a1cf0ca2a407e851e55973aa9483bd33aabd2056fd7c39ad52d127", func := "tattler/tattlerlaw16.ViewAlike", spec := "viewAlike", apart := false, narrowed := true }
def ViewAlikeUptoSaid : Prop := viewAlikeUptoRow.holds Try.pinned (OpenSpec.upto viewAlikeSpec)

/-- 'tattlerlaw16.ViewAgain', WHERE WHAT IT READS IS OF BULK AT MOST 1048576: true; the input reads as it did. -/
def viewAgainUptoRow : OpenClaim := { program := "ytjcjkbfhmbfkaaa", sum := "0883b50621a1cf0ca2a407e851e55973aa9483bd33aabd2056fd7c39ad52d127", func := "tattler/tattlerlaw16.ViewAgain", spec := "viewAgain", apart := false, narrowed := true }
def ViewAgainUptoSaid : Prop := viewAgainUptoRow.holds Try.pinned (OpenSpec.upto viewAgainSpec)

/-- 'tattlerlaw16.ViewGrows', WHERE WHAT IT READS IS OF BULK AT MOST 1048576: true; the input reads as it did. -/
def viewGrowsUptoRow : OpenClaim := { program := "ytjcjkbfhmbfkaaa", sum := "0883b50621a1cf0ca2a407e851e55973aa9483bd33aabd2056fd7c39ad52d127", func := "tattler/tattlerlaw16.ViewGrows", spec := "viewGrows", apart := false, narrowed := true }
def ViewGrowsUptoSaid : Prop := viewGrowsUptoRow.holds Try.pinned (OpenSpec.upto viewGrowsSpec)

end Rows
end Go.Proofs.Ytjcjkbfhmbfkaaa
