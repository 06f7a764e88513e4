/-
  Short forms of the steps of a region of open order.
  Conditions: none; it speaks of every program of the model.
-/
import Derived.Test.YtcflbdpjoanbgaaGreatFl1
namespace Go.Sl
open Go
set_option linter.unusedVariables false
section
variable {P : Program} {ops : Array Oper} {Q : Exit → Act → World → Prop} {a : Act} {w : World} {n : Nat} {L : List (Nat × Value)} {o : Oper}
theorem any_takeA {S : World → Prop} {i fuel d : Nat} {listed : Array Bool} {v : Value} (hf : Fits n a L) (hi : ops[i]? = some o) (hn : Wn ops a o true) (hy : Rd P a o S v) (hS : S w) (hd : o.dst = Option.some d) (hlt : Nat.blt d n = true)
    (k : ∀ a', Fits n a' ((d, v) :: L) → wpAnyH P .any ops Q S fuel (listed.setIfInBounds i true) a' w)
    (hs : Region.noSelect ops = true := by kernel_rfl) (hfr : Region.free .any ops listed i = true := by kernel_rfl) (hr : (Region.ready .any ops listed).contains i = true := by kernel_rfl)
    (hQ : ∀ c a w, Q (.panic c) (a.put o.dst v) w → Q (.panic c) a w := by exact fun _ _ _ h => h) : wpAnyH P .any ops Q S (fuel + 1) listed a w := any_take hf hi hs hfr hr hQ hn hy hS hd hlt k
theorem any_skipA {S : World → Prop} {i fuel d : Nat} {listed : Array Bool} (hf : Fits n a L) (hi : ops[i]? = some o) (hn : Wn ops a o false) (hS : S w) (hd : o.dst = Option.some d) (hlt : Nat.blt d n = true)
    (k : ∀ a', Fits n a' ((d, undef) :: L) → wpAnyH P .any ops Q S fuel (listed.setIfInBounds i true) a' w)
    (hs : Region.noSelect ops = true := by kernel_rfl) (hfr : Region.free .any ops listed i = true := by kernel_rfl) (hr : (Region.ready .any ops listed).contains i = true := by kernel_rfl)
    (hQ : ∀ c a w, Q (.panic c) (a.put o.dst undef) w → Q (.panic c) a w := by exact fun _ _ _ h => h) : wpAnyH P .any ops Q S (fuel + 1) listed a w := any_skip hf hi hs hfr hr hQ hn hS hd hlt k
end
theorem Sat.subA {W w : World} {l l' : List HP} (h : Sat W l w) (s : Sub l' l := by repeat (first | exact Sub.refl | exact Sub.none | exact Sub.behind | (apply Sub.cons; (focus ((repeat (first | exact Sel.head | apply Sel.tail)); done))) | apply Sub.skip)) : Sat W l' w := h.sub s
theorem Sat.selA {W w : World} {p : HP} {l l' : List HP} (h : Sat W l w) (s : Sel p l l' := by repeat (first | exact Sel.head | apply Sel.tail)) : Sat W (p :: l') w := h.sel s
end Go.Sl
