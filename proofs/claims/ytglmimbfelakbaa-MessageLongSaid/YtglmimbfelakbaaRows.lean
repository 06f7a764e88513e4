/-
  No cell of these rows narrows 'for every input' (looked for: loops, veiled, ifaces, maps, wideKeys, modest, calm, conditions, laid).
  DERIVED. THE GIVEN ROWS OF THIS SEAT. 5 by the template 'for every input the law returns true; each argument reads behind the call as it read before'; 0 by the template 'total and deterministic' (their statements: YtglmimbfelakbaaTotals.lean).
  GIVEN WITH THE SEED: the statements are not yours to turn. If you find one false, say at which input.
  Laid BY PROGRAM, IN A SANDBOX (cutbox-rows.mjs): the forced cells as the released guide's own fill.sh prints them over the translation 77ccba43ba425ca9… (all of the seat's roots in one cut). By AI agents, Wed Nov 11 2026. No macro, syntax, notation, axiom, sorry.
-/
import Derived.Test.YtglmimbfelakbaaChecked
import GoSem.Claim
import GoSem.ClaimJoined
import GoSem.ClaimMapViews
import Derived.JoinedTies
import Derived.KernelRfl
namespace Go.Proofs.Ytglmimbfelakbaa
/- THE CELL 'sum', in the pinned program and in every row, IS THE sha256 OF THE DUMP (.gsa) THAT YtglmimbfelakbaaProg.lean LOADS. Nothing in Lean hashes anything: it is a label: what it is worth is what the hold of that sum in a sandbox is worth. -/
noncomputable def Try.pinned : Pinned := { name := "ytglmimbfelakbaa", sum := "77ccba43ba425ca99212be6cd1b8d3e85898f2c09b1cab144654e2f9cdb37a83", checked := Try.checked }
namespace Rows
def none {H : Type} : Left H := { results := [], args := [] }

/-- 'tattlerlaw20.MessageEncodes': WHATEVER THE INPUT: true; the input reads as it did. -/
def messageEncodesSpec : ChangeSpec := { name := "messageEncodes", fn := fun _ => fun
  | [d] => { results := [.lit (.bool true)], args := [d] }
  | _ => none }
def messageEncodesRow : OpenClaim := { program := "ytglmimbfelakbaa", sum := "77ccba43ba425ca99212be6cd1b8d3e85898f2c09b1cab144654e2f9cdb37a83", func := "tattler/tattlerlaw20.MessageEncodes", spec := "messageEncodes", unfollowed := true, recurses := true, apart := false }
def MessageEncodesSaid : Prop := messageEncodesRow.holds Try.pinned (OpenSpec.ofChange messageEncodesSpec)

/-- ITS FALSE NEIGHBOUR: 'it returns false'. Refute it at one input. -/
def messageEncodesWrong : ChangeSpec := { name := "messageEncodes", fn := fun _ => fun
  | [d] => { results := [.lit (.bool false)], args := [d] }
  | _ => none }
def MessageEncodesWrongFalsely : Prop := messageEncodesRow.holds Try.pinned (OpenSpec.ofChange messageEncodesWrong)

/-- 'tattlerlaw20.MessageApart': WHATEVER THE INPUT: true; the input reads as it did. -/
def messageApartSpec : ChangeSpec := { name := "messageApart", fn := fun _ => fun
  | [d1, d2] => { results := [.lit (.bool true)], args := [d1, d2] }
  | _ => none }
def messageApartRow : OpenClaim := { program := "ytglmimbfelakbaa", sum := "77ccba43ba425ca99212be6cd1b8d3e85898f2c09b1cab144654e2f9cdb37a83", func := "tattler/tattlerlaw20.MessageApart", spec := "messageApart", unfollowed := true, recurses := true, apart := false }
def MessageApartSaid : Prop := messageApartRow.holds Try.pinned (OpenSpec.ofChange messageApartSpec)

/-- ITS FALSE NEIGHBOUR: 'it returns false'. Refute it at one input. -/
def messageApartWrong : ChangeSpec := { name := "messageApart", fn := fun _ => fun
  | [d1, d2] => { results := [.lit (.bool false)], args := [d1, d2] }
  | _ => none }
def MessageApartWrongFalsely : Prop := messageApartRow.holds Try.pinned (OpenSpec.ofChange messageApartWrong)

/-- 'tattlerlaw20.MessageMay': WHATEVER THE INPUT: true; the input reads as it did. -/
def messageMaySpec : ChangeSpec := { name := "messageMay", fn := fun _ => fun
  | [d1, d2] => { results := [.lit (.bool true)], args := [d1, d2] }
  | _ => none }
def messageMayRow : OpenClaim := { program := "ytglmimbfelakbaa", sum := "77ccba43ba425ca99212be6cd1b8d3e85898f2c09b1cab144654e2f9cdb37a83", func := "tattler/tattlerlaw20.MessageMay", spec := "messageMay", unfollowed := true, recurses := true, apart := false }
def MessageMaySaid : Prop := messageMayRow.holds Try.pinned (OpenSpec.ofChange messageMaySpec)

/-- ITS FALSE NEIGHBOUR: 'it returns false'. Refute it at one input. -/
def messageMayWrong : ChangeSpec := { name := "messageMay", fn := fun _ => fun
  | [d1, d2] => { results := [.lit (.bool false)], args := [d1, d2] }
  | _ => none }
def MessageMayWrongFalsely : Prop := messageMayRow.holds Try.pinned (OpenSpec.ofChange messageMayWrong)

/-- 'tattlerlaw20.MessagePlain': WHATEVER THE INPUT: true; the input reads as it did. -/
def messagePlainSpec : ChangeSpec := { name := "messagePlain", fn := fun _ => fun
  | [d] => { results := [.lit (.bool true)], args := [d] }
  | _ => none }
def messagePlainRow : OpenClaim := { program := "ytglmimbfelakbaa", sum := "77ccba43ba425ca99212be6cd1b8d3e85898f2c09b1cab144654e2f9cdb37a83", func := "tattler/tattlerlaw20.MessagePlain", spec := "messagePlain", unfollowed := true, recurses := true, apart := false }
def MessagePlainSaid : Prop := messagePlainRow.holds Try.pinned (OpenSpec.ofChange messagePlainSpec)

/-- ITS FALSE NEIGHBOUR: 'it returns false'. Refute it at one input. -/
def messagePlainWrong : ChangeSpec := { name := "messagePlain", fn := fun _ => fun
  | [d] => { results := [.lit (.bool false)], args := [d] }
  | _ => none }
def MessagePlainWrongFalsely : Prop := messagePlainRow.holds Try.pinned (OpenSpec.ofChange messagePlainWrong)

/-- 'tattlerlaw20.MessageLong': WHATEVER THE INPUT: true; the input reads as it did. -/
def messageLongSpec : ChangeSpec := { name := "messageLong", fn := fun _ => fun
  | [d1, d2] => { results := [.lit (.bool true)], args := [d1, d2] }
  | _ => none }
def messageLongRow : OpenClaim := { program := "ytglmimbfelakbaa", sum := "77ccba43ba425ca99212be6cd1b8d3e85898f2c09b1cab144654e2f9cdb37a83", func := "tattler/tattlerlaw20.MessageLong", spec := "messageLong", unfollowed := true, recurses := true, apart := false }
def MessageLongSaid : Prop := messageLongRow.holds Try.pinned (OpenSpec.ofChange messageLongSpec)

/-- ITS FALSE NEIGHBOUR: 'it returns false'. Refute it at one input. -/
def messageLongWrong : ChangeSpec := { name := "messageLong", fn := fun _ => fun
  | [d1, d2] => { results := [.lit (.bool false)], args := [d1, d2] }
  | _ => none }
def MessageLongWrongFalsely : Prop := messageLongRow.holds Try.pinned (OpenSpec.ofChange messageLongWrong)

/- THE SECOND FORM. 'bulk': how many values and letters a reading holds, each counted each time it is reached (what is shared counts as often as it is met; a slice's spare places count too). A statement '..UptoSaid' is the law's where the arguments, and the package variables that the reading takes, are together of bulk at most 1048576: NARROWER than '..Said'. Prove '..Said' where nothing that the law and all that it calls make is longer than what came in: it says more and counts as full. Else prove '..UptoSaid'. A law counts once. -/
mutual
def uptoBulk {H : Type} : DataW H → Nat
  | .lit (.string bytes) => bytes.length + 1
  | .lit _ => 1
  | .nil => 1
  | .ptr d => uptoBulk d + 1
  | .slice elems spare => uptoBulkAll elems + uptoBulkAll spare + 1
  | .agg parts => uptoBulkAll parts + 1
  | .iface _ d => uptoBulk d + 1
  | .map entries => uptoBulkEntries entries + 1
  | .held _ => 1
def uptoBulkAll {H : Type} : List (DataW H) → Nat
  | [] => 0
  | d :: r => uptoBulk d + uptoBulkAll r
def uptoBulkEntries {H : Type} : List (Lit × DataW H) → Nat
  | [] => 0
  | x :: r => uptoBulkEntry x + uptoBulkEntries r
def uptoBulkEntry {H : Type} : Lit × DataW H → Nat
  | (.string bytes, d) => bytes.length + uptoBulk d + 1
  | (_, d) => uptoBulk d + 1
 end
def uptoSmall : (H : Type) → List (DataW H) → Bool := fun _ ds => decide (uptoBulkAll ds ≤ 1048576)
def OpenSpec.upto (s : _root_.Go.ChangeSpec) : _root_.Go.OpenSpec := { _root_.Go.OpenSpec.ofChange s with cond := some uptoSmall }

/-- 'tattlerlaw20.MessageEncodes', WHERE WHAT IT READS IS OF BULK AT MOST 1048576: true; the input reads as it did. -/
def messageEncodesUptoRow : OpenClaim := { program := "ytglmimbfelakbaa", sum := "77ccba43ba425ca99212be6cd1b8d3e85898f2c09b1cab144654e2f9cdb37a83", func := "tattler/tattlerlaw20.MessageEncodes", spec := "messageEncodes", unfollowed := true, recurses := true, apart := false, narrowed := true }
def MessageEncodesUptoSaid : Prop := messageEncodesUptoRow.holds Try.pinned (OpenSpec.upto messageEncodesSpec)

/-- 'tattlerlaw20.MessageApart', WHERE WHAT IT READS IS OF BULK AT MOST 1048576: true; the input reads as it did. -/
def messageApartUptoRow : OpenClaim := { program := "ytglmimbfelakbaa", sum := "77ccba43ba425ca99212be6cd1b8d3e85898f2c09b1cab144654e2f9cdb37a83", func := "tattler/tattlerlaw20.MessageApart", spec := "messageApart", unfollowed := true, recurses := true, apart := false, narrowed := true }
def MessageApartUptoSaid : Prop := messageApartUptoRow.holds Try.pinned (OpenSpec.upto messageApartSpec)

/-- 'tattlerlaw20.MessageMay', WHERE WHAT IT READS IS OF BULK AT MOST 1048576: true; the input reads as it did. -/
def messageMayUptoRow : OpenClaim := { program := "ytglmimbfelakbaa", sum := "77ccba43ba425ca99212be6cd1b8d3e85898f2c09b1cab144654e2f9cdb37a83", func := "tattler/tattlerlaw20.MessageMay", spec := "messageMay", unfollowed := true, recurses := true, apart := false, narrowed := true }
def MessageMayUptoSaid : Prop := messageMayUptoRow.holds Try.pinned (OpenSpec.upto messageMaySpec)

/-- 'tattlerlaw20.MessagePlain', WHERE WHAT IT READS IS OF BULK AT MOST 1048576: true; the input reads as it did. -/
def messagePlainUptoRow : OpenClaim := { program := "ytglmimbfelakbaa", sum := "77ccba43ba425ca99212be6cd1b8d3e85898f2c09b1cab144654e2f9cdb37a83", func := "tattler/tattlerlaw20.MessagePlain", spec := "messagePlain", unfollowed := true, recurses := true, apart := false, narrowed := true }
def MessagePlainUptoSaid : Prop := messagePlainUptoRow.holds Try.pinned (OpenSpec.upto messagePlainSpec)

/-- 'tattlerlaw20.MessageLong', WHERE WHAT IT READS IS OF BULK AT MOST 1048576: true; the input reads as it did. -/
def messageLongUptoRow : OpenClaim := { program := "ytglmimbfelakbaa", sum := "77ccba43ba425ca99212be6cd1b8d3e85898f2c09b1cab144654e2f9cdb37a83", func := "tattler/tattlerlaw20.MessageLong", spec := "messageLong", unfollowed := true, recurses := true, apart := false, narrowed := true }
def MessageLongUptoSaid : Prop := messageLongUptoRow.holds Try.pinned (OpenSpec.upto messageLongSpec)

end Rows
end Go.Proofs.Ytglmimbfelakbaa
