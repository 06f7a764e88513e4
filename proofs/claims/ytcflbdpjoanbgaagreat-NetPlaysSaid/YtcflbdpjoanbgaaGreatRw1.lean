/-
  Rows of rows of bytes.
  Conditions: none; it speaks of every program of the model.
-/
import Derived.Test.YtcflbdpjoanbgaaGreatWr1
import Derived.Test.YtcflbdpjoanbgaaGreatOp1
namespace Go.Sl
open Go
set_option linter.unusedSimpArgs false
set_option linter.unusedVariables false
/-- Rows of their own. -/
def Rws (B : Nat) (L : List (Sli UInt8)) : HP := All (L.map fun x => Rw B 1 x.1 x.2.2.length x.2.1 (bvs x.2.2))
theorem Sat.rwsNil {W w : World} {l : List HP} (B : Nat) (h : Sat W l w) : Sat W (Rws B [] :: l) w := Sat.all (ps := []) h
theorem Sat.rwsSnoc {W w : World} {l : List HP} {B : Nat} {L : List (Sli UInt8)} {q : Option Addr} {n cap : Nat} {bs : List UInt8} (h : Sat W (Rws B L :: Rw B 1 q n cap (bvs bs) :: l) w) (hn : n = bs.length) : Sat W (Rws B (L ++ [(q, cap, bs)]) :: l) w := by
  subst hn
  refine Sat.all ?_
  have h2 := Sat.unall h
  simpa using h2
theorem sel_mem {p : HP} : ∀ {ps l : List HP}, p ∈ ps → ∃ l', Sel p (ps ++ l) l'
  | q :: ps, l, h => by
    rcases List.mem_cons.1 h with rfl | h
    · exact ⟨_, .head⟩
    · obtain ⟨l', s⟩ := sel_mem (l := l) h; exact ⟨_, .tail s⟩
theorem Sat.rws {W w : World} {l l' : List HP} {B : Nat} {L : List (Sli UInt8)} (h : Sat W l w) (s : Sel (Rws B L) l l') : ∀ x ∈ L, SlAt w x.1 x.2.2.length 1 (bvs x.2.2) := fun x hx => by
  obtain ⟨l'', s2⟩ := sel_mem (l := l') (List.mem_map_of_mem (f := fun x : Sli UInt8 => Rw B 1 x.1 x.2.2.length x.2.1 (bvs x.2.2)) hx)
  exact (Sat.unall (h.sel s)).slOfRw s2
theorem take1 {w : World} {q : Option Addr} {b : List UInt8} {m : Nat} (h : SlAt w q b.length 1 (bvs b)) (hm : m ≤ b.length) : SlAt w q (b.take m).length 1 (bvs (b.take m)) := by
  have h2 := h.take hm
  rw [bvs_take, List.length_take, Nat.min_eq_left hm]; exact h2
end Go.Sl
