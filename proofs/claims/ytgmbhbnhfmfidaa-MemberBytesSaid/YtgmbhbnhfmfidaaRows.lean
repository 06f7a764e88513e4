/-
  No cell of these rows narrows 'for every input' (looked for: loops, veiled, ifaces, maps, wideKeys, modest, calm, conditions, laid).
  DERIVED. THE GIVEN ROWS OF THIS SEAT. 11 by the template 'for every input the law returns true; each argument reads behind the call as it read before'; 0 by the template 'total and deterministic' (their statements: YtgmbhbnhfmfidaaTotals.lean).
  GIVEN WITH THE SEED: the statements are not yours to turn. If you find one false, say at which input.
  Laid BY PROGRAM, IN A SANDBOX (cutbox-rows.mjs): the forced cells as the released guide's own fill.sh prints them over the translation 714eb29329a0a000… (all of the seat's roots in one cut). By AI agents, Wed Nov 11 2026. No macro, syntax, notation, axiom, sorry.
-/
import Derived.Test.YtgmbhbnhfmfidaaChecked
import GoSem.Claim
import GoSem.ClaimJoined
import GoSem.ClaimMapViews
import Derived.JoinedTies
import Derived.KernelRfl
namespace Go.Proofs.Ytgmbhbnhfmfidaa
/- THE CELL 'sum', in the pinned program and in every row, IS THE sha256 OF THE DUMP (.gsa) THAT YtgmbhbnhfmfidaaProg.lean LOADS. Nothing in Lean hashes anything: it is a label: what it is worth is what the hold of that sum in a sandbox is worth. -/
noncomputable def Try.pinned : Pinned := { name := "ytgmbhbnhfmfidaa", sum := "714eb29329a0a0007272c92809c045f70417373de6fd25681c880c566af2c3a5", checked := Try.checked }
namespace Rows
def none {H : Type} : Left H := { results := [], args := [] }

/-- 'tattlerlaw15.MemberOrder': WHATEVER THE INPUT: true; the input reads as it did. -/
def memberOrderSpec : ChangeSpec := { name := "memberOrder", fn := fun _ => fun
  | [d1, d2, d3] => { results := [.lit (.bool true)], args := [d1, d2, d3] }
  | _ => none }
def memberOrderRow : OpenClaim := { program := "ytgmbhbnhfmfidaa", sum := "714eb29329a0a0007272c92809c045f70417373de6fd25681c880c566af2c3a5", func := "tattler/tattlerlaw15.MemberOrder", spec := "memberOrder", apart := false }
def MemberOrderSaid : Prop := memberOrderRow.holds Try.pinned (OpenSpec.ofChange memberOrderSpec)

/-- ITS FALSE NEIGHBOUR: 'it returns false'. Refute it at one input. -/
def memberOrderWrong : ChangeSpec := { name := "memberOrder", fn := fun _ => fun
  | [d1, d2, d3] => { results := [.lit (.bool false)], args := [d1, d2, d3] }
  | _ => none }
def MemberOrderWrongFalsely : Prop := memberOrderRow.holds Try.pinned (OpenSpec.ofChange memberOrderWrong)

/-- 'tattlerlaw15.MemberChain': WHATEVER THE INPUT: true; the input reads as it did. -/
def memberChainSpec : ChangeSpec := { name := "memberChain", fn := fun _ => fun
  | [d1, d2] => { results := [.lit (.bool true)], args := [d1, d2] }
  | _ => none }
def memberChainRow : OpenClaim := { program := "ytgmbhbnhfmfidaa", sum := "714eb29329a0a0007272c92809c045f70417373de6fd25681c880c566af2c3a5", func := "tattler/tattlerlaw15.MemberChain", spec := "memberChain", apart := false }
def MemberChainSaid : Prop := memberChainRow.holds Try.pinned (OpenSpec.ofChange memberChainSpec)

/-- ITS FALSE NEIGHBOUR: 'it returns false'. Refute it at one input. -/
def memberChainWrong : ChangeSpec := { name := "memberChain", fn := fun _ => fun
  | [d1, d2] => { results := [.lit (.bool false)], args := [d1, d2] }
  | _ => none }
def MemberChainWrongFalsely : Prop := memberChainRow.holds Try.pinned (OpenSpec.ofChange memberChainWrong)

/-- 'tattlerlaw15.MemberRefutes': WHATEVER THE INPUT: true; the input reads as it did. -/
def memberRefutesSpec : ChangeSpec := { name := "memberRefutes", fn := fun _ => fun
  | [d1, d2] => { results := [.lit (.bool true)], args := [d1, d2] }
  | _ => none }
def memberRefutesRow : OpenClaim := { program := "ytgmbhbnhfmfidaa", sum := "714eb29329a0a0007272c92809c045f70417373de6fd25681c880c566af2c3a5", func := "tattler/tattlerlaw15.MemberRefutes", spec := "memberRefutes", apart := false }
def MemberRefutesSaid : Prop := memberRefutesRow.holds Try.pinned (OpenSpec.ofChange memberRefutesSpec)

/-- ITS FALSE NEIGHBOUR: 'it returns false'. Refute it at one input. -/
def memberRefutesWrong : ChangeSpec := { name := "memberRefutes", fn := fun _ => fun
  | [d1, d2] => { results := [.lit (.bool false)], args := [d1, d2] }
  | _ => none }
def MemberRefutesWrongFalsely : Prop := memberRefutesRow.holds Try.pinned (OpenSpec.ofChange memberRefutesWrong)

/-- 'tattlerlaw9.KeysBuckets': WHATEVER THE INPUT: true; the input reads as it did. -/
def keysBucketsSpec : ChangeSpec := { name := "keysBuckets", fn := fun _ => fun
  | [d1, d2] => { results := [.lit (.bool true)], args := [d1, d2] }
  | _ => none }
def keysBucketsRow : OpenClaim := { program := "ytgmbhbnhfmfidaa", sum := "714eb29329a0a0007272c92809c045f70417373de6fd25681c880c566af2c3a5", func := "tattler/tattlerlaw9.KeysBuckets", spec := "keysBuckets", apart := false }
def KeysBucketsSaid : Prop := keysBucketsRow.holds Try.pinned (OpenSpec.ofChange keysBucketsSpec)

/-- ITS FALSE NEIGHBOUR: 'it returns false'. Refute it at one input. -/
def keysBucketsWrong : ChangeSpec := { name := "keysBuckets", fn := fun _ => fun
  | [d1, d2] => { results := [.lit (.bool false)], args := [d1, d2] }
  | _ => none }
def KeysBucketsWrongFalsely : Prop := keysBucketsRow.holds Try.pinned (OpenSpec.ofChange keysBucketsWrong)

/-- 'tattlerlaw9.KeysMay': WHATEVER THE INPUT: true; the input reads as it did. -/
def keysMaySpec : ChangeSpec := { name := "keysMay", fn := fun _ => fun
  | [d1, d2] => { results := [.lit (.bool true)], args := [d1, d2] }
  | _ => none }
def keysMayRow : OpenClaim := { program := "ytgmbhbnhfmfidaa", sum := "714eb29329a0a0007272c92809c045f70417373de6fd25681c880c566af2c3a5", func := "tattler/tattlerlaw9.KeysMay", spec := "keysMay", apart := false }
def KeysMaySaid : Prop := keysMayRow.holds Try.pinned (OpenSpec.ofChange keysMaySpec)

/-- ITS FALSE NEIGHBOUR: 'it returns false'. Refute it at one input. -/
def keysMayWrong : ChangeSpec := { name := "keysMay", fn := fun _ => fun
  | [d1, d2] => { results := [.lit (.bool false)], args := [d1, d2] }
  | _ => none }
def KeysMayWrongFalsely : Prop := keysMayRow.holds Try.pinned (OpenSpec.ofChange keysMayWrong)

/-- 'tattlerlaw15.MemberJoins': WHATEVER THE INPUT: true; the input reads as it did. -/
def memberJoinsSpec : ChangeSpec := { name := "memberJoins", fn := fun _ => fun
  | [d1, d2] => { results := [.lit (.bool true)], args := [d1, d2] }
  | _ => none }
def memberJoinsRow : OpenClaim := { program := "ytgmbhbnhfmfidaa", sum := "714eb29329a0a0007272c92809c045f70417373de6fd25681c880c566af2c3a5", func := "tattler/tattlerlaw15.MemberJoins", spec := "memberJoins", apart := false }
def MemberJoinsSaid : Prop := memberJoinsRow.holds Try.pinned (OpenSpec.ofChange memberJoinsSpec)

/-- ITS FALSE NEIGHBOUR: 'it returns false'. Refute it at one input. -/
def memberJoinsWrong : ChangeSpec := { name := "memberJoins", fn := fun _ => fun
  | [d1, d2] => { results := [.lit (.bool false)], args := [d1, d2] }
  | _ => none }
def MemberJoinsWrongFalsely : Prop := memberJoinsRow.holds Try.pinned (OpenSpec.ofChange memberJoinsWrong)

/-- 'tattlerlaw9.KeysPlaces': WHATEVER THE INPUT: true; the input reads as it did. -/
def keysPlacesSpec : ChangeSpec := { name := "keysPlaces", fn := fun _ => fun
  | [d1, d2, d3] => { results := [.lit (.bool true)], args := [d1, d2, d3] }
  | _ => none }
def keysPlacesRow : OpenClaim := { program := "ytgmbhbnhfmfidaa", sum := "714eb29329a0a0007272c92809c045f70417373de6fd25681c880c566af2c3a5", func := "tattler/tattlerlaw9.KeysPlaces", spec := "keysPlaces", apart := false }
def KeysPlacesSaid : Prop := keysPlacesRow.holds Try.pinned (OpenSpec.ofChange keysPlacesSpec)

/-- ITS FALSE NEIGHBOUR: 'it returns false'. Refute it at one input. -/
def keysPlacesWrong : ChangeSpec := { name := "keysPlaces", fn := fun _ => fun
  | [d1, d2, d3] => { results := [.lit (.bool false)], args := [d1, d2, d3] }
  | _ => none }
def KeysPlacesWrongFalsely : Prop := keysPlacesRow.holds Try.pinned (OpenSpec.ofChange keysPlacesWrong)

/-- 'tattlerlaw9.KeysTexts': WHATEVER THE INPUT: true; the input reads as it did. -/
def keysTextsSpec : ChangeSpec := { name := "keysTexts", fn := fun _ => fun
  | [d1, d2] => { results := [.lit (.bool true)], args := [d1, d2] }
  | _ => none }
def keysTextsRow : OpenClaim := { program := "ytgmbhbnhfmfidaa", sum := "714eb29329a0a0007272c92809c045f70417373de6fd25681c880c566af2c3a5", func := "tattler/tattlerlaw9.KeysTexts", spec := "keysTexts", apart := false }
def KeysTextsSaid : Prop := keysTextsRow.holds Try.pinned (OpenSpec.ofChange keysTextsSpec)

/-- ITS FALSE NEIGHBOUR: 'it returns false'. Refute it at one input. -/
def keysTextsWrong : ChangeSpec := { name := "keysTexts", fn := fun _ => fun
  | [d1, d2] => { results := [.lit (.bool false)], args := [d1, d2] }
  | _ => none }
def KeysTextsWrongFalsely : Prop := keysTextsRow.holds Try.pinned (OpenSpec.ofChange keysTextsWrong)

/-- 'tattlerlaw9.KeysBack': WHATEVER THE INPUT: true; the input reads as it did. -/
def keysBackSpec : ChangeSpec := { name := "keysBack", fn := fun _ => fun
  | [d1, d2] => { results := [.lit (.bool true)], args := [d1, d2] }
  | _ => none }
def keysBackRow : OpenClaim := { program := "ytgmbhbnhfmfidaa", sum := "714eb29329a0a0007272c92809c045f70417373de6fd25681c880c566af2c3a5", func := "tattler/tattlerlaw9.KeysBack", spec := "keysBack", apart := false }
def KeysBackSaid : Prop := keysBackRow.holds Try.pinned (OpenSpec.ofChange keysBackSpec)

/-- ITS FALSE NEIGHBOUR: 'it returns false'. Refute it at one input. -/
def keysBackWrong : ChangeSpec := { name := "keysBack", fn := fun _ => fun
  | [d1, d2] => { results := [.lit (.bool false)], args := [d1, d2] }
  | _ => none }
def KeysBackWrongFalsely : Prop := keysBackRow.holds Try.pinned (OpenSpec.ofChange keysBackWrong)

/-- 'tattlerlaw9.KeysOnce': WHATEVER THE INPUT: true; the input reads as it did. -/
def keysOnceSpec : ChangeSpec := { name := "keysOnce", fn := fun _ => fun
  | [d] => { results := [.lit (.bool true)], args := [d] }
  | _ => none }
def keysOnceRow : OpenClaim := { program := "ytgmbhbnhfmfidaa", sum := "714eb29329a0a0007272c92809c045f70417373de6fd25681c880c566af2c3a5", func := "tattler/tattlerlaw9.KeysOnce", spec := "keysOnce", apart := false }
def KeysOnceSaid : Prop := keysOnceRow.holds Try.pinned (OpenSpec.ofChange keysOnceSpec)

/-- ITS FALSE NEIGHBOUR: 'it returns false'. Refute it at one input. -/
def keysOnceWrong : ChangeSpec := { name := "keysOnce", fn := fun _ => fun
  | [d] => { results := [.lit (.bool false)], args := [d] }
  | _ => none }
def KeysOnceWrongFalsely : Prop := keysOnceRow.holds Try.pinned (OpenSpec.ofChange keysOnceWrong)

/-- 'tattlerlaw15.MemberBytes': WHATEVER THE INPUT: true; the input reads as it did. -/
def memberBytesSpec : ChangeSpec := { name := "memberBytes", fn := fun _ => fun
  | [d1, d2] => { results := [.lit (.bool true)], args := [d1, d2] }
  | _ => none }
def memberBytesRow : OpenClaim := { program := "ytgmbhbnhfmfidaa", sum := "714eb29329a0a0007272c92809c045f70417373de6fd25681c880c566af2c3a5", func := "tattler/tattlerlaw15.MemberBytes", spec := "memberBytes", apart := false }
def MemberBytesSaid : Prop := memberBytesRow.holds Try.pinned (OpenSpec.ofChange memberBytesSpec)

/-- ITS FALSE NEIGHBOUR: 'it returns false'. Refute it at one input. -/
def memberBytesWrong : ChangeSpec := { name := "memberBytes", fn := fun _ => fun
  | [d1, d2] => { results := [.lit (.bool false)], args := [d1, d2] }
  | _ => none }
def MemberBytesWrongFalsely : Prop := memberBytesRow.holds Try.pinned (OpenSpec.ofChange memberBytesWrong)

/- THE SECOND FORM. 'bulk': how many values and letters a reading holds, each counted each time it is reached (what is shared counts as often as it is met; a slice's spare places count too). A statement '..UptoSaid' is the law's where the arguments, and the package variables that the reading takes, are together of bulk at most 1048576: NARROWER than '..Said'. Prove '..Said' where nothing that the law and all that it calls make is longer than what came in: it says more and counts as full. Else prove '..UptoSaid'. A law counts once. -/
mutual
def uptoBulk {H : Type} : DataW H → Nat
  | .lit (.string bytes) => bytes.length + 1
  | .lit _ => 1
  | .nil => 1
  | .ptr d => uptoBulk d + 1
  | .slice elems spare => uptoBulkAll elems + uptoBulkAll spare + 1
  | .agg parts => uptoBulkAll parts + 1
  | .iface _ d => uptoBulk d + 1
  | .map entries => uptoBulkEntries entries + 1
  | .held _ => 1
def uptoBulkAll {H : Type} : List (DataW H) → Nat
  | [] => 0
  | d :: r => uptoBulk d + uptoBulkAll r
def uptoBulkEntries {H : Type} : List (Lit × DataW H) → Nat
  | [] => 0
  | x :: r => uptoBulkEntry x + uptoBulkEntries r
def uptoBulkEntry {H : Type} : Lit × DataW H → Nat
  | (.string bytes, d) => bytes.length + uptoBulk d + 1
  | (_, d) => uptoBulk d + 1
 end
def uptoSmall : (H : Type) → List (DataW H) → Bool := fun _ ds => decide (uptoBulkAll ds ≤ 1048576)
def OpenSpec.upto (s : _root_.Go.ChangeSpec) : _root_.Go.OpenSpec := { _root_.Go.OpenSpec.ofChange s with cond := some uptoSmall }

/-- 'tattlerlaw15.MemberOrder', WHERE WHAT IT READS IS OF BULK AT MOST 1048576: true; the input reads as it did. -/
def memberOrderUptoRow : OpenClaim := { program := "ytgmbhbnhfmfidaa", sum := "714eb29329a0a0007272c92809c045f70417373de6fd25681c880c566af2c3a5", func := "tattler/tattlerlaw15.MemberOrder", spec := "memberOrder", apart := false, narrowed := true }
def MemberOrderUptoSaid : Prop := memberOrderUptoRow.holds Try.pinned (OpenSpec.upto memberOrderSpec)

/-- 'tattlerlaw15.MemberChain', WHERE WHAT IT READS IS OF BULK AT MOST 1048576: true; the input reads as it did. -/
def memberChainUptoRow : OpenClaim := { program := "ytgmbhbnhfmfidaa", sum := "714eb29329a0a0007272c92809c045f70417373de6fd25681c880c566af2c3a5", func := "tattler/tattlerlaw15.MemberChain", spec := "memberChain", apart := false, narrowed := true }
def MemberChainUptoSaid : Prop := memberChainUptoRow.holds Try.pinned (OpenSpec.upto memberChainSpec)

/-- 'tattlerlaw15.MemberRefutes', WHERE WHAT IT READS IS OF BULK AT MOST 1048576: true; the input reads as it did. -/
def memberRefutesUptoRow : OpenClaim := { program := "ytgmbhbnhfmfidaa", sum := "714eb29329a0a0007272c92809c045f70417373de6fd25681c880c566af2c3a5", func := "tattler/tattlerlaw15.MemberRefutes", spec := "memberRefutes", apart := false, narrowed := true }
def MemberRefutesUptoSaid : Prop := memberRefutesUptoRow.holds Try.pinned (OpenSpec.upto memberRefutesSpec)

/-- 'tattlerlaw9.KeysBuckets', WHERE WHAT IT READS IS OF BULK AT MOST 1048576: true; the input reads as it did. -/
def keysBucketsUptoRow : OpenClaim := { program := "ytgmbhbnhfmfidaa", sum := "714eb29329a0a0007272c92809c045f70417373de6fd25681c880c566af2c3a5", func := "tattler/tattlerlaw9.KeysBuckets", spec := "keysBuckets", apart := false, narrowed := true }
def KeysBucketsUptoSaid : Prop := keysBucketsUptoRow.holds Try.pinned (OpenSpec.upto keysBucketsSpec)

/-- 'tattlerlaw9.KeysMay', WHERE WHAT IT READS IS OF BULK AT MOST 1048576: true; the input reads as it did. -/
def keysMayUptoRow : OpenClaim := { program := "ytgmbhbnhfmfidaa", sum := "714eb29329a0a0007272c92809c045f70417373de6fd25681c880c566af2c3a5", func := "tattler/tattlerlaw9.KeysMay", spec := "keysMay", apart := false, narrowed := true }
def KeysMayUptoSaid : Prop := keysMayUptoRow.holds Try.pinned (OpenSpec.upto keysMaySpec)

/-- 'tattlerlaw15.MemberJoins', WHERE WHAT IT READS IS OF BULK AT MOST 1048576: true; the input reads as it did. -/
def memberJoinsUptoRow : OpenClaim := { program := "ytgmbhbnhfmfidaa", sum := "714eb29329a0a0007272c92809c045f70417373de6fd25681c880c566af2c3a5", func := "tattler/tattlerlaw15.MemberJoins", spec := "memberJoins", apart := false, narrowed := true }
def MemberJoinsUptoSaid : Prop := memberJoinsUptoRow.holds Try.pinned (OpenSpec.upto memberJoinsSpec)

/-- 'tattlerlaw9.KeysPlaces', WHERE WHAT IT READS IS OF BULK AT MOST 1048576: true; the input reads as it did. -/
def keysPlacesUptoRow : OpenClaim := { program := "ytgmbhbnhfmfidaa", sum := "714eb29329a0a0007272c92809c045f70417373de6fd25681c880c566af2c3a5", func := "tattler/tattlerlaw9.KeysPlaces", spec := "keysPlaces", apart := false, narrowed := true }
def KeysPlacesUptoSaid : Prop := keysPlacesUptoRow.holds Try.pinned (OpenSpec.upto keysPlacesSpec)

/-- 'tattlerlaw9.KeysTexts', WHERE WHAT IT READS IS OF BULK AT MOST 1048576: true; the input reads as it did. -/
def keysTextsUptoRow : OpenClaim := { program := "ytgmbhbnhfmfidaa", sum := "714eb29329a0a0007272c92809c045f70417373de6fd25681c880c566af2c3a5", func := "tattler/tattlerlaw9.KeysTexts", spec := "keysTexts", apart := false, narrowed := true }
def KeysTextsUptoSaid : Prop := keysTextsUptoRow.holds Try.pinned (OpenSpec.upto keysTextsSpec)

/-- 'tattlerlaw9.KeysBack', WHERE WHAT IT READS IS OF BULK AT MOST 1048576: true; the input reads as it did. -/
def keysBackUptoRow : OpenClaim := { program := "ytgmbhbnhfmfidaa", sum := "714eb29329a0a0007272c92809c045f70417373de6fd25681c880c566af2c3a5", func := "tattler/tattlerlaw9.KeysBack", spec := "keysBack", apart := false, narrowed := true }
def KeysBackUptoSaid : Prop := keysBackUptoRow.holds Try.pinned (OpenSpec.upto keysBackSpec)

/-- 'tattlerlaw9.KeysOnce', WHERE WHAT IT READS IS OF BULK AT MOST 1048576: true; the input reads as it did. -/
def keysOnceUptoRow : OpenClaim := { program := "ytgmbhbnhfmfidaa", sum := "714eb29329a0a0007272c92809c045f70417373de6fd25681c880c566af2c3a5", func := "tattler/tattlerlaw9.KeysOnce", spec := "keysOnce", apart := false, narrowed := true }
def KeysOnceUptoSaid : Prop := keysOnceUptoRow.holds Try.pinned (OpenSpec.upto keysOnceSpec)

/-- 'tattlerlaw15.MemberBytes', WHERE WHAT IT READS IS OF BULK AT MOST 1048576: true; the input reads as it did. -/
def memberBytesUptoRow : OpenClaim := { program := "ytgmbhbnhfmfidaa", sum := "714eb29329a0a0007272c92809c045f70417373de6fd25681c880c566af2c3a5", func := "tattler/tattlerlaw15.MemberBytes", spec := "memberBytes", apart := false, narrowed := true }
def MemberBytesUptoSaid : Prop := memberBytesUptoRow.holds Try.pinned (OpenSpec.upto memberBytesSpec)

end Rows
end Go.Proofs.Ytgmbhbnhfmfidaa
