/-
  Numbers of 8, 32 and 64 bits without a sign, as bit vectors.
  Conditions: none; it speaks of every program of the model.
-/
import Derived.Test.YtcflbdpjoanbgaaGreatSl6
namespace Go.Sl
open Go
set_option linter.unusedSimpArgs false
set_option linter.unusedVariables false

theorem ofInt32 (x : BitVec 32) : BitVec.ofInt 32 (x.toNat : Int) = x := by
  apply BitVec.eq_of_toNat_eq
  have := x.isLt
  simp
theorem wrap32_nat (x : BitVec 32) : IntKind.u32.wrap ((x.toNat : Nat) : Int) = ((x.toNat : Nat) : Int) := by
  rw [IntKind.wrap_u32]
  have := x.isLt
  omega
theorem n32_xor (a b : BitVec 32) : IntKind.u32.wrap ((BitVec.ofInt IntKind.u32.bits (a.toNat : Int) ^^^ BitVec.ofInt IntKind.u32.bits (b.toNat : Int)).toNat : Nat) = ((a ^^^ b).toNat : Nat) := by
  show IntKind.u32.wrap (((BitVec.ofInt 32 (a.toNat : Int) ^^^ BitVec.ofInt 32 (b.toNat : Int) : BitVec 32).toNat : Nat) : Int) = _
  rw [ofInt32, ofInt32, wrap32_nat]
theorem n32_and (a b : BitVec 32) : IntKind.u32.wrap ((BitVec.ofInt IntKind.u32.bits (a.toNat : Int) &&& BitVec.ofInt IntKind.u32.bits (b.toNat : Int)).toNat : Nat) = ((a &&& b).toNat : Nat) := by
  show IntKind.u32.wrap (((BitVec.ofInt 32 (a.toNat : Int) &&& BitVec.ofInt 32 (b.toNat : Int) : BitVec 32).toNat : Nat) : Int) = _
  rw [ofInt32, ofInt32, wrap32_nat]
theorem n32_or (a b : BitVec 32) : IntKind.u32.wrap ((BitVec.ofInt IntKind.u32.bits (a.toNat : Int) ||| BitVec.ofInt IntKind.u32.bits (b.toNat : Int)).toNat : Nat) = ((a ||| b).toNat : Nat) := by
  show IntKind.u32.wrap (((BitVec.ofInt 32 (a.toNat : Int) ||| BitVec.ofInt 32 (b.toNat : Int) : BitVec 32).toNat : Nat) : Int) = _
  rw [ofInt32, ofInt32, wrap32_nat]
theorem n32_xorc (a k : BitVec 32) {q : Int} (hq : q = (k.toNat : Nat)) : IntKind.u32.wrap ((BitVec.ofInt IntKind.u32.bits (a.toNat : Int) ^^^ BitVec.ofInt IntKind.u32.bits q).toNat : Nat) = ((a ^^^ k).toNat : Nat) := by subst hq; exact n32_xor a k
theorem n32_andc (a k : BitVec 32) {q : Int} (hq : q = (k.toNat : Nat)) : IntKind.u32.wrap ((BitVec.ofInt IntKind.u32.bits (a.toNat : Int) &&& BitVec.ofInt IntKind.u32.bits q).toNat : Nat) = ((a &&& k).toNat : Nat) := by subst hq; exact n32_and a k
theorem n32_mul (a k : BitVec 32) {q : Int} (hq : q = (k.toNat : Nat)) : IntKind.u32.wrap ((a.toNat : Int) * q) = ((a * k).toNat : Nat) := by
  rw [IntKind.wrap_u32, hq, BitVec.toNat_mul]
  rw [Int.natCast_emod, Int.natCast_mul]
  rfl
theorem n32_shr (a : BitVec 32) {q : Int} (k : Nat) (hq : q = k) (hk : k ≤ 32) : (a.toNat : Int).fdiv (2 ^ (min q.toNat IntKind.u32.bits)) = ((a >>> k).toNat : Nat) := by
  rw [hq, BitVec.toNat_ushiftRight, Nat.shiftRight_eq_div_pow]
  rw [show min ((k : Int)).toNat IntKind.u32.bits = k from by simp [IntKind.bits]; omega]
  rw [Int.fdiv_eq_ediv_of_nonneg _ (by exact Int.pow_nonneg (by omega))]
  push_cast
  rfl
theorem n32_conv8 (c : UInt8) : IntKind.u32.wrap (c.toNat : Int) = ((c.toBitVec.setWidth 32).toNat : Nat) := by
  have := c.toNat_lt
  rw [IntKind.wrap_u32]
  simp
  omega
theorem n32_not (a : BitVec 32) : IntKind.u32.wrap ((BitVec.ofInt IntKind.u32.bits (if IntKind.u32.signed then -1 else IntKind.u32.max) ^^^ BitVec.ofInt IntKind.u32.bits (a.toNat : Int)).toNat : Nat) = ((~~~ a).toNat : Nat) := by
  have h := n32_xor (BitVec.allOnes 32) a
  rw [show ((if IntKind.u32.signed = true then -1 else IntKind.u32.max : Int)) = ((BitVec.allOnes 32).toNat : Nat) from by decide, h, BitVec.not_def]

/-- The byte of a number. -/
theorem n8_wrap (n : Nat) : IntKind.u8.wrap (n : Int) = ((UInt8.ofNat n).toNat : Nat) := by
  rw [IntKind.wrap_u8]
  simp
theorem n8_wrapI (n : Int) : IntKind.u8.wrap n = ((UInt8.ofNat (n % 256).toNat).toNat : Nat) := by
  rw [IntKind.wrap_u8]
  have h1 : 0 ≤ n % 256 := Int.emod_nonneg _ (by omega)
  have h2 : n % 256 < 256 := Int.emod_lt_of_pos _ (by omega)
  simp
  omega
theorem n64_conv8 (c : UInt8) : IntKind.i64.wrap (c.toNat : Int) = (c.toNat : Nat) := Go.IntWalk.i64_in _ (by have := c.toNat_lt; omega)
theorem n8_shr (c : UInt8) {q : Int} (k : Nat) (hq : q = k) (hk : k ≤ 8) : (c.toNat : Int).fdiv (2 ^ (min q.toNat IntKind.u8.bits)) = ((c.toNat / 2 ^ k : Nat) : Int) := by
  rw [hq, show min ((k : Int)).toNat IntKind.u8.bits = k from by simp [IntKind.bits]; omega]
  rw [Int.fdiv_eq_ediv_of_nonneg _ (by exact Int.pow_nonneg (by omega))]
  push_cast
  rfl
theorem ofInt8 (c : UInt8) : BitVec.ofInt 8 (c.toNat : Int) = c.toBitVec := by
  apply BitVec.eq_of_toNat_eq
  have := c.toNat_lt
  simp
theorem wrap8_nat (x : UInt8) : IntKind.u8.wrap ((x.toBitVec.toNat : Nat) : Int) = ((x.toNat : Nat) : Int) := by
  rw [IntKind.wrap_u8]
  have := x.toNat_lt
  simp only [UInt8.toNat_toBitVec]
  omega
theorem n8_and (c k : UInt8) {q : Int} (hq : q = (k.toNat : Nat)) : IntKind.u8.wrap ((BitVec.ofInt IntKind.u8.bits (c.toNat : Int) &&& BitVec.ofInt IntKind.u8.bits q).toNat : Nat) = ((c &&& k).toNat : Nat) := by
  subst hq
  show IntKind.u8.wrap (((BitVec.ofInt 8 (c.toNat : Int) &&& BitVec.ofInt 8 (k.toNat : Int) : BitVec 8).toNat : Nat) : Int) = _
  rw [ofInt8, ofInt8]
  exact wrap8_nat (c &&& k)
theorem n8_or (c k : UInt8) {q : Int} (hq : q = (k.toNat : Nat)) : IntKind.u8.wrap ((BitVec.ofInt IntKind.u8.bits (c.toNat : Int) ||| BitVec.ofInt IntKind.u8.bits q).toNat : Nat) = ((c ||| k).toNat : Nat) := by
  subst hq
  show IntKind.u8.wrap (((BitVec.ofInt 8 (c.toNat : Int) ||| BitVec.ofInt 8 (k.toNat : Int) : BitVec 8).toNat : Nat) : Int) = _
  rw [ofInt8, ofInt8]
  exact wrap8_nat (c ||| k)
theorem n8_xor (c k : UInt8) {q : Int} (hq : q = (k.toNat : Nat)) : IntKind.u8.wrap ((BitVec.ofInt IntKind.u8.bits (c.toNat : Int) ^^^ BitVec.ofInt IntKind.u8.bits q).toNat : Nat) = ((c ^^^ k).toNat : Nat) := by
  subst hq
  show IntKind.u8.wrap (((BitVec.ofInt 8 (c.toNat : Int) ^^^ BitVec.ofInt 8 (k.toNat : Int) : BitVec 8).toNat : Nat) : Int) = _
  rw [ofInt8, ofInt8]
  exact wrap8_nat (c ^^^ k)

end Go.Sl
