/-
  The pieces of package disk, and the plain law of its calls.
  Conditions: none; it speaks of every program of the model.
-/
import Derived.Test.YtiibgekphgmjcaaLp1
namespace Go.Sl
open Go
set_option linter.unusedSimpArgs false
set_option linter.unusedVariables false

/-- A disk: how many bytes it may have, its bytes, how many of them are sure. B is the type of bytes, T that of the disk. -/
def DkP (B T p : Nat) (most : Int) (b : List UInt8) (sure : Nat) : HP := Ex fun q : Option Addr × Nat => All [Blk p [.int .i64 most, .slice q.1 b.length q.2, .int .i64 (sure : Nat)] T, Rw B 1 q.1 b.length q.2 (bvs b)]
theorem dk_open {W w : World} {l : List HP} {B T p : Nat} {most : Int} {b : List UInt8} {sure : Nat} (h : Sat W (DkP B T p most b sure :: l) w) : ∃ q cap, Sat W (Blk p [.int .i64 most, .slice q b.length cap, .int .i64 (sure : Nat)] T :: Rw B 1 q b.length cap (bvs b) :: l) w := by
  obtain ⟨⟨q, cap⟩, h⟩ := h.unex
  exact ⟨q, cap, h.unall⟩
theorem dk_shut {W w : World} {l : List HP} {B T p n cap : Nat} {q : Option Addr} {most m s : Int} {b : List UInt8} {sure : Nat} {xs : List Value} (h : Sat W (Blk p [.int .i64 m, .slice q n cap, .int .i64 s] T :: Rw B 1 q n cap xs :: l) w) (hm : m = most) (hn : n = b.length) (hx : xs = bvs b) (hs : s = (sure : Nat)) : Sat W (DkP B T p most b sure :: l) w := by
  subst hn; subst hx; subst hs; subst hm
  exact Sat.ex (q, cap) (Sat.all h)
def dAppB (most : Int) (b x : List UInt8) : List UInt8 := if (x.length : Int) > most - b.length then b else b ++ x
def dAppE (most : Int) (b x : List UInt8) : Int := if (x.length : Int) > most - b.length then 5 else 0
def dRepB (most : Int) (b x : List UInt8) : List UInt8 := if (x.length : Int) > most then b else x
def dRepS (most : Int) (s : Nat) (x : List UInt8) : Nat := if (x.length : Int) > most then s else x.length
def dRepE (most : Int) (x : List UInt8) : Int := if (x.length : Int) > most then 5 else 0
def dCutE (b : List UInt8) (n : Int) : Int := if n < 0 ∨ n > b.length then 1 else 0
def dCutB (b : List UInt8) (n : Int) : List UInt8 := if n < 0 ∨ n > b.length then b else b.take n.toNat
def dCutS (b : List UInt8) (s : Nat) (n : Int) : Nat := if n < 0 ∨ n > b.length then s else n.toNat
def dCraN (b : List UInt8) (s : Nat) (p : Int) : Nat := s + (p % 18446744073709551616).toNat % (b.length - s + 1)
theorem dCraN_le {b : List UInt8} {s : Nat} (p : Int) (h : s ≤ b.length) : dCraN b s p ≤ b.length ∧ s ≤ dCraN b s p := by
  unfold dCraN
  have := Nat.mod_lt (p % 18446744073709551616).toNat (show 0 < b.length - s + 1 by omega)
  omega
theorem dApp_no {most : Int} {b x : List UInt8} (h : (x.length : Int) > most - b.length) : dAppB most b x = b ∧ dAppE most b x = 5 := ⟨if_pos h, if_pos h⟩
theorem dApp_yes {most : Int} {b x : List UInt8} (h : ¬ (x.length : Int) > most - b.length) : dAppB most b x = b ++ x ∧ dAppE most b x = 0 := ⟨if_neg h, if_neg h⟩
theorem dRep_no {most : Int} {b x : List UInt8} {s : Nat} (h : (x.length : Int) > most) : dRepB most b x = b ∧ dRepE most x = 5 ∧ dRepS most s x = s := ⟨if_pos h, if_pos h, if_pos h⟩
theorem dRep_yes {most : Int} {b x : List UInt8} {s : Nat} (h : ¬ (x.length : Int) > most) : dRepB most b x = x ∧ dRepE most x = 0 ∧ dRepS most s x = x.length := ⟨if_neg h, if_neg h, if_neg h⟩
theorem dCut_no {b : List UInt8} {n : Int} {s : Nat} (h : n < 0 ∨ n > b.length) : dCutB b n = b ∧ dCutE b n = 1 ∧ dCutS b s n = s := ⟨if_pos h, if_pos h, if_pos h⟩
theorem dCut_yes {b : List UInt8} {n : Int} {s : Nat} (h : ¬ (n < 0 ∨ n > b.length)) : dCutB b n = b.take n.toNat ∧ dCutE b n = 0 ∧ dCutS b s n = n.toNat := ⟨if_neg h, if_neg h, if_neg h⟩
theorem dApp_fit {most : Int} {b x : List UInt8} (h : ((b.length + x.length : Nat) : Int) ≤ most) : dAppB most b x = b ++ x ∧ dAppE most b x = 0 := dApp_yes (by omega)
theorem dApp_full {most : Int} {b x : List UInt8} (h : ¬ ((b.length + x.length : Nat) : Int) ≤ most) : dAppB most b x = b ∧ dAppE most b x = 5 := dApp_no (by omega)
theorem dCut_fit {b : List UInt8} {n : Nat} {s : Nat} (h : n ≤ b.length) : dCutB b n = b.take n ∧ dCutE b n = 0 ∧ dCutS b s n = n := by
  obtain ⟨h1, h2, h3⟩ := dCut_yes (b := b) (n := (n : Int)) (s := s) (by omega)
  simpa using ⟨h1, h2, h3⟩
end Go.Sl
