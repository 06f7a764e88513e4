/-
  Numbers and texts as bytes: what writing and reading them answers, and the pieces of memory of a writer and of a reader.
  Conditions: none; no program is in sight.
-/
import Derived.Test.YtcflbdpjoanbgaaGreatSl9
namespace Go.Sl
open Go
set_option linter.unusedSimpArgs false
set_option linter.unusedVariables false

/-- A number's bytes. -/
def numB (n : Nat) : List UInt8 := if n < 128 then [UInt8.ofNat n] else UInt8.ofNat (n % 128 + 128) :: numB (n / 128)
termination_by n
decreasing_by omega
theorem numB_lt {n : Nat} (h : n < 128) : numB n = [UInt8.ofNat n] := by rw [numB, if_pos h]
theorem numB_ge {n : Nat} (h : ¬ n < 128) : numB n = UInt8.ofNat (n % 128 + 128) :: numB (n / 128) := by rw [numB, if_neg h]
theorem numB_pos (n : Nat) : 1 ≤ (numB n).length := by
  by_cases h : n < 128
  · simp [numB_lt h]
  · simp [numB_ge h]
theorem numB_len : ∀ (k n : Nat), n < 128 ^ (k + 1) → (numB n).length ≤ k + 1
  | 0, n, h => by rw [numB_lt (by omega)]; simp
  | k + 1, n, h => by
    by_cases h1 : n < 128
    · simp [numB_lt h1]
    · rw [numB_ge h1]
      have := numB_len k (n / 128) (by rw [Nat.div_lt_iff_lt_mul (by omega)]; rwa [Nat.pow_succ] at h)
      simp only [List.length_cons]; omega
theorem numB_10 {n : Nat} (h : n < 18446744073709551616) : (numB n).length ≤ 10 := numB_len 9 n (by omega)
def numLen (n : Nat) : Nat := (numB n).length
theorem numB_len_ge {n : Nat} (h : ¬ n < 128) : (numB n).length = (numB (n / 128)).length + 1 := by rw [numB_ge h]; simp
theorem u8_nat (n : Nat) (h : n < 256) : (UInt8.ofNat n).toNat = n := by simp; omega

/-- Either sign. -/
def zz (n : Int) : Nat := if 0 ≤ n then (2 * n).toNat else (-2 * n - 1).toNat
def unzz (m : Nat) : Int := if m % 2 = 0 then (m / 2 : Nat) else -((m / 2 : Nat) : Int) - 1
theorem unzz_zz (n : Int) : unzz (zz n) = n := by unfold zz unzz; split <;> split <;> omega
theorem zz_unzz (m : Nat) : zz (unzz m) = m := by unfold zz unzz; split <;> split <;> omega
theorem zz_lt {n : Int} (h : -9223372036854775808 ≤ n ∧ n ≤ 9223372036854775807) : zz n < 18446744073709551616 := by unfold zz; split <;> omega
theorem unzz_in {m : Nat} (h : m < 18446744073709551616) : -9223372036854775808 ≤ unzz m ∧ unzz m ≤ 9223372036854775807 := by unfold unzz; split <;> omega

theorem xor_ones (x : BitVec 64) : x ^^^ BitVec.ofNat 64 18446744073709551615 = ~~~ x := by
  rw [show BitVec.ofNat 64 18446744073709551615 = BitVec.allOnes 64 from by decide, BitVec.xor_comm, ← BitVec.not_def]
theorem toNat_not64 (m : Nat) (h : m < 18446744073709551616) : (~~~ (BitVec.ofNat 64 m)).toNat = 18446744073709551615 - m := by
  rw [BitVec.toNat_not, BitVec.toNat_ofNat]
  omega
theorem wrapP (n : Int) : IntKind.u64.wrap n = n % 18446744073709551616 := by rw [IntKind.wrap_u64]
theorem zz_val {n : Int} (h : -9223372036854775808 ≤ n ∧ n ≤ 9223372036854775807) : IntKind.u64.wrap ((BitVec.ofInt IntKind.u64.bits (IntKind.u64.wrap (IntKind.u64.wrap n * 2 ^ (min (1 : Int).toNat IntKind.u64.bits))) ^^^ BitVec.ofInt IntKind.u64.bits (IntKind.u64.wrap (n.fdiv (2 ^ (min (63 : Int).toNat IntKind.i64.bits))))).toNat : Nat) = ((zz n : Nat) : Int) := by
  have e1 : IntKind.u64.wrap (IntKind.u64.wrap n * 2 ^ (min (1 : Int).toNat IntKind.u64.bits)) = (2 * n) % 18446744073709551616 := by
    rw [wrapP, wrapP]
    show n % 18446744073709551616 * 2 % 18446744073709551616 = _
    omega
  have e2 : IntKind.u64.wrap (n.fdiv (2 ^ (min (63 : Int).toNat IntKind.i64.bits))) = if 0 ≤ n then 0 else 18446744073709551615 := by
    rw [wrapP]
    show n.fdiv 9223372036854775808 % 18446744073709551616 = _
    rw [Int.fdiv_eq_ediv_of_nonneg _ (by omega)]
    split <;> omega
  rw [e1, e2]
  obtain ⟨m, hm⟩ : ∃ m : Nat, (2 * n) % 18446744073709551616 = m := ⟨((2 * n) % 18446744073709551616).toNat, by omega⟩
  have hm2 : m < 18446744073709551616 := by omega
  rw [hm]
  show IntKind.u64.wrap ((BitVec.ofInt 64 (m : Int) ^^^ BitVec.ofInt 64 (if 0 ≤ n then 0 else 18446744073709551615)).toNat : Nat) = _
  rw [ofInt64]
  by_cases h0 : 0 ≤ n
  · rw [if_pos h0, show BitVec.ofInt 64 0 = 0#64 from by decide, BitVec.xor_zero, BitVec.toNat_ofNat, Nat.mod_eq_of_lt hm2, wrap64 hm2]
    unfold zz
    rw [if_pos h0]
    omega
  · rw [if_neg h0, show BitVec.ofInt 64 18446744073709551615 = BitVec.ofNat 64 18446744073709551615 from by decide, xor_ones, toNat_not64 m hm2, wrap64 (by omega)]
    unfold zz
    rw [if_neg h0]
    omega
theorem unzz_val {m : Nat} (h : m < 18446744073709551616) : IntKind.i64.wrap ((BitVec.ofInt IntKind.i64.bits (IntKind.i64.wrap (((m / 2 ^ 1 : Nat) : Int))) ^^^ BitVec.ofInt IntKind.i64.bits (IntKind.i64.wrap (0 - IntKind.i64.wrap (((m &&& 1 : Nat) : Int))))).toNat : Nat) = unzz m := by
  have h1 : m &&& 1 = m % 2 := Nat.and_one_is_mod m
  rw [h1, Go.IntWalk.i64_in ((m / 2 ^ 1 : Nat) : Int) (by omega), Go.IntWalk.i64_in ((m % 2 : Nat) : Int) (by omega), Go.IntWalk.i64_in (0 - ((m % 2 : Nat) : Int)) (by omega)]
  show IntKind.i64.wrap ((BitVec.ofInt 64 ((m / 2 ^ 1 : Nat) : Int) ^^^ BitVec.ofInt 64 (0 - ((m % 2 : Nat) : Int))).toNat : Nat) = _
  rw [ofInt64]
  have hd : m / 2 ^ 1 < 18446744073709551616 := by omega
  unfold unzz
  by_cases h2 : m % 2 = 0
  · rw [h2, if_pos rfl, show BitVec.ofInt 64 (0 - ((0 : Nat) : Int)) = 0#64 from by decide, BitVec.xor_zero, BitVec.toNat_ofNat, Nat.mod_eq_of_lt hd]
    exact Go.IntWalk.i64_in _ (by omega)
  · rw [show m % 2 = 1 from by omega, if_neg (by omega), show BitVec.ofInt 64 (0 - ((1 : Nat) : Int)) = BitVec.ofNat 64 18446744073709551615 from by decide, xor_ones, toNat_not64 _ hd]
    rw [IntKind.wrap_i64]
    omega

/-! ### Reading numbers -/
/-- What is left, the error. -/
abbrev RS := List UInt8 × Int
def numD : Nat → Nat → List UInt8 → Nat × RS
  | _, _, [] => (0, [], 2)
  | i, acc, x :: r => if (i = 9 ∧ 1 < x.toNat) ∨ (0 < i ∧ x.toNat = 0) then (0, [], 3) else
    if x.toNat < 128 then (acc + x.toNat % 128 * 2 ^ (7 * i), r, 0) else numD (i + 1) (acc + x.toNat % 128 * 2 ^ (7 * i)) r

theorem pow7 (i : Nat) : 2 ^ (7 * (i + 1)) = 128 * 2 ^ (7 * i) := by rw [show 7 * (i + 1) = 7 * i + 7 from by omega, Nat.pow_add]; omega
theorem split128 (n : Nat) (k : Nat) : n % 128 * k + n / 128 * (128 * k) = n * k := by
  have : n / 128 * (128 * k) = n / 128 * 128 * k := by rw [Nat.mul_assoc]
  rw [this, ← Nat.add_mul]
  congr 1
  omega
theorem pow_le9 {i : Nat} {n : Nat} (hn : 0 < n) (h : n * 2 ^ (7 * i) < 18446744073709551616) : i ≤ 9 := by
  rcases Nat.lt_or_ge 9 i with h9 | h9
  · exfalso
    have h1 : 2 ^ 70 ≤ 2 ^ (7 * i) := Nat.pow_le_pow_right (by omega) (by omega)
    have h2 : 1 * 2 ^ (7 * i) ≤ n * 2 ^ (7 * i) := Nat.mul_le_mul_right _ hn
    omega
  · exact h9
theorem numD_numB : ∀ (n i acc : Nat) (r : List UInt8), acc + n * 2 ^ (7 * i) < 18446744073709551616 → (i = 0 ∨ 0 < n) → numD i acc (numB n ++ r) = (acc + n * 2 ^ (7 * i), r, 0) := by
  intro n
  induction n using Nat.strongRecOn with
  | _ n ih =>
    intro i acc r h h0
    by_cases h1 : n < 128
    · rw [numB_lt h1]
      have hx := u8_nat n (by omega)
      have h9 : ¬ (i = 9 ∧ 1 < n) := by rintro ⟨rfl, h2⟩; omega
      simp only [List.cons_append, List.nil_append, numD, hx]
      rw [if_neg (by omega), if_pos h1, Nat.mod_eq_of_lt h1]
    · rw [numB_ge h1]
      have hx := u8_nat (n % 128 + 128) (by omega)
      have hi : i ≤ 9 := pow_le9 (n := n) (by omega) (by omega)
      have h9 : i ≠ 9 := by rintro rfl; omega
      simp only [List.cons_append, numD, hx]
      rw [if_neg (by omega), if_neg (by omega)]
      have e : (n % 128 + 128) % 128 = n % 128 := by omega
      rw [e, ih (n / 128) (by omega) (i + 1) _ r (by rw [pow7, Nat.add_assoc, split128]; exact h) (.inr (by omega)), pow7, Nat.add_assoc, split128]
/-- What is read without an error is a number's bytes. -/
theorem numD_inv : ∀ (bs : List UInt8) (i acc m : Nat) (r : List UInt8), numD i acc bs = (m, r, 0) → ∃ n, bs = numB n ++ r ∧ m = acc + n * 2 ^ (7 * i) ∧ (i = 0 ∨ 0 < n)
  | [], i, acc, m, r, h => by simp [numD] at h
  | x :: bs, i, acc, m, r, h => by
    have hx := x.toNat_lt
    simp only [numD] at h
    split at h
    · simp at h
    · rename_i hb
      split at h
      · rename_i h1
        simp at h
        obtain ⟨rfl, rfl⟩ := h
        refine ⟨x.toNat, by rw [numB_lt h1]; simp, by rw [Nat.mod_eq_of_lt h1], by omega⟩
      · rename_i h1
        obtain ⟨n, rfl, rfl, h2⟩ := numD_inv bs _ _ _ _ h
        refine ⟨n * 128 + x.toNat % 128, ?_, ?_, by omega⟩
        · rw [numB_ge (n := n * 128 + x.toNat % 128) (by omega), show (n * 128 + x.toNat % 128) / 128 = n from by omega]
          simp only [List.cons_append, List.cons.injEq, and_true]
          apply UInt8.toNat.inj
          rw [u8_nat _ (by omega)]
          omega
        · rw [pow7, Nat.add_assoc]
          congr 1
          rw [Nat.add_mul, Nat.mul_assoc, Nat.add_comm]
theorem shl_bound {x i : Nat} (hx : x < 128) (hi : i ≤ 9) (h9 : i = 9 → x ≤ 1) : x * 2 ^ (7 * i) < 18446744073709551616 := by
  by_cases h : i = 9
  · subst h; have := h9 rfl; omega
  · have h1 : 2 ^ (7 * i) ≤ 2 ^ 56 := Nat.pow_le_pow_right (by omega) (by omega)
    have h2 : x * 2 ^ (7 * i) ≤ 127 * 2 ^ 56 := Nat.mul_le_mul (by omega) h1
    omega
theorem acc_step {x i acc : Nat} (hx : x < 128) (h : acc < 2 ^ (7 * i)) : acc + x * 2 ^ (7 * i) < 2 ^ (7 * (i + 1)) := by
  rw [pow7]
  have : x * 2 ^ (7 * i) ≤ 127 * 2 ^ (7 * i) := Nat.mul_le_mul_right _ (by omega)
  omega
theorem acc_64 {x i acc : Nat} (hx : x < 128) (hi : i ≤ 9) (h9 : i = 9 → x ≤ 1) (h : acc < 2 ^ (7 * i)) : acc + x * 2 ^ (7 * i) < 18446744073709551616 := by
  by_cases h2 : i = 9
  · subst h2; have := h9 rfl; omega
  · have h1 := acc_step hx h
    have h3 : 2 ^ (7 * (i + 1)) ≤ 2 ^ 63 := Nat.pow_le_pow_right (by omega) (by omega)
    omega
theorem numD_lt : ∀ (bs : List UInt8) (i acc : Nat), i ≤ 9 → acc < 2 ^ (7 * i) → (numD i acc bs).1 < 18446744073709551616
  | [], i, acc, _, _ => by simp [numD]
  | x :: r, i, acc, hi, h => by
    simp only [numD]
    split
    · simp
    · rename_i hb
      split
      · rename_i h1
        exact acc_64 (by omega) hi (by omega) h
      · rename_i h1
        exact numD_lt r (i + 1) _ (by omega) (acc_step (by omega) h)
theorem numD_err : ∀ (bs : List UInt8) (i acc : Nat), (numD i acc bs).2.2 = 0 ∨ ((numD i acc bs).1 = 0 ∧ (numD i acc bs).2.1 = [] ∧ 0 < (numD i acc bs).2.2)
  | [], i, acc => by simp [numD]
  | x :: r, i, acc => by
    simp only [numD]
    split
    · simp
    · split
      · simp
      · exact numD_err r _ _
theorem numD_rest : ∀ (bs : List UInt8) (i acc : Nat), (numD i acc bs).2.1.length ≤ bs.length
  | [], i, acc => by simp [numD]
  | x :: r, i, acc => by
    simp only [numD]
    split
    · simp
    · split
      · simp
      · have := numD_rest r (i + 1) (acc + x.toNat % 128 * 2 ^ (7 * i)); simp only [List.length_cons]; omega
/-- A number's bytes cut short are too short. -/
theorem numD_cut : ∀ (n i acc k : Nat), n * 2 ^ (7 * i) < 18446744073709551616 → (i = 0 ∨ 0 < n) → k < (numB n).length → numD i acc ((numB n).take k) = (0, [], 2) := by
  intro n
  induction n using Nat.strongRecOn with
  | _ n ih =>
    intro i acc k h h0 hk
    cases k with
    | zero => simp [numD]
    | succ k =>
      by_cases h1 : n < 128
      · rw [numB_lt h1] at hk; simp at hk
      · rw [numB_ge h1] at hk ⊢
        have hx := u8_nat (n % 128 + 128) (by omega)
        have hi : i ≤ 9 := pow_le9 (n := n) (by omega) (by omega)
        have h9 : i ≠ 9 := by rintro rfl; omega
        simp only [List.take_succ_cons, numD, hx]
        rw [if_neg (by omega), if_neg (by omega)]
        refine ih (n / 128) (by omega) (i + 1) _ k ?_ (.inr (by omega)) (by simpa using hk)
        have := split128 n (2 ^ (7 * i))
        rw [pow7]
        omega

def rNumI (i acc : Nat) (s : RS) : Nat × RS := if s.2 ≠ 0 then (0, s) else numD i acc s.1
def rNum (s : RS) : Nat × RS := rNumI 0 0 s
def bX (s : RS) : UInt8 := if s.2 ≠ 0 then 0 else s.1.headD 0
def bOk (s : RS) : Bool := decide (s.2 = 0 ∧ s.1 ≠ [])
def bS (s : RS) : RS := if s.2 ≠ 0 then s else match s.1 with | [] => ([], 2) | _ :: r => (r, 0)
theorem b_bad {s : RS} (h : ¬ s.2 = 0) : bX s = 0 ∧ bOk s = false ∧ bS s = s := by unfold bX bOk bS; simp [h]
theorem bOk_no {s : RS} {i acc : Nat} (h : bOk s = false) : rNumI i acc s = (0, bS s) := by
  obtain ⟨bs, e⟩ := s
  simp only [bOk, decide_eq_false_iff_not] at h
  unfold rNumI bS
  by_cases he : e = 0
  · subst he
    cases bs with
    | nil => simp [numD]
    | cons x r => simp at h
  · simp [he]
theorem bOk_yes {s : RS} (i acc : Nat) (h : bOk s = true) : rNumI i acc s = (if (i = 9 ∧ 1 < (bX s).toNat) ∨ (0 < i ∧ (bX s).toNat = 0) then (0, [], 3) else
    if (bX s).toNat < 128 then (acc + (bX s).toNat % 128 * 2 ^ (7 * i), bS s) else rNumI (i + 1) (acc + (bX s).toNat % 128 * 2 ^ (7 * i)) (bS s)) ∧ (bS s).2 = 0 := by
  obtain ⟨bs, e⟩ := s
  simp only [bOk, decide_eq_true_eq] at h
  obtain ⟨h1, h2⟩ := h
  change e = 0 at h1
  subst h1
  cases bs with
  | nil => simp at h2
  | cons x r => simp [rNumI, bS, bX, numD]
def rInt (s : RS) : Int × RS := (unzz (rNum s).1, (rNum s).2)
def rFlag (s : RS) : Bool × RS := if s.2 ≠ 0 then (false, s) else match s.1 with
  | [] => (false, [], 2)
  | x :: r => if 1 < x.toNat then (false, [], 3) else (decide (x.toNat = 1), r, 0)
def rCount (most : Int) (s : RS) : Nat × RS := if (rNum s).2.2 ≠ 0 then (0, (rNum s).2) else if ((rNum s).1 : Int) > max 0 most then (0, [], 4) else rNum s
def rText (most : Int) (s : RS) : List UInt8 × RS := if (rCount most s).2.2 ≠ 0 then ([], (rCount most s).2) else if (rCount most s).1 > (rCount most s).2.1.length then ([], [], 2) else
  ((rCount most s).2.1.take (rCount most s).1, (rCount most s).2.1.drop (rCount most s).1, 0)
def rEnd (s : RS) : Int := if s.2 = 0 ∧ 0 < s.1.length then 3 else s.2
theorem rNum_lt (s : RS) : (rNum s).1 < 18446744073709551616 := by
  unfold rNum rNumI
  split
  · simp
  · exact numD_lt _ 0 0 (by omega) (by simp)
theorem rNum_err (s : RS) : (rNum s).2.2 = 0 ∨ (rNum s).1 = 0 := by
  unfold rNum rNumI
  split
  · simp
  · rcases numD_err s.1 0 0 with h | h
    · exact .inl h
    · exact .inr h.1
theorem rCount_err (most : Int) (s : RS) : (rCount most s).2.2 = 0 ∨ (rCount most s).1 = 0 := by
  unfold rCount
  split
  · simp
  · split
    · simp
    · exact rNum_err s
theorem rNum_rest (s : RS) : (rNum s).2.1.length ≤ s.1.length := by
  unfold rNum rNumI
  split
  · simp
  · exact numD_rest _ _ _
theorem rCount_rest (most : Int) (s : RS) : (rCount most s).2.1.length ≤ s.1.length := by
  unfold rCount
  split
  · exact rNum_rest s
  · split
    · simp
    · exact rNum_rest s
theorem rText_rest (most : Int) (s : RS) : (rText most s).2.1.length ≤ s.1.length := by
  have := rCount_rest most s
  unfold rText
  split
  · exact this
  · split
    · simp
    · simp; omega
theorem rText_len (most : Int) (s : RS) : (rText most s).1.length ≤ s.1.length := by
  have := rCount_rest most s
  unfold rText
  split
  · simp
  · split
    · simp
    · simp only [List.length_take]; omega
theorem rFlag_rest (s : RS) : (rFlag s).2.1.length ≤ s.1.length := by
  unfold rFlag
  split
  · simp
  · split
    · simp
    · rename_i h; rw [h]; split <;> simp

theorem rCount_a {most : Int} {s : RS} (h : ¬ (rNum s).2.2 = 0) : rCount most s = (0, (rNum s).2) := if_pos h
theorem rCount_b {most : Int} {s : RS} (h : (rNum s).2.2 = 0) (h2 : ((rNum s).1 : Int) > max 0 most) : rCount most s = (0, [], 4) := by unfold rCount; rw [if_neg (fun k => k h), if_pos h2]
theorem rCount_c {most : Int} {s : RS} (h : (rNum s).2.2 = 0) (h2 : ¬ ((rNum s).1 : Int) > max 0 most) : rCount most s = rNum s := by unfold rCount; rw [if_neg (fun k => k h), if_neg h2]
theorem rText_a {most : Int} {s : RS} (h : ¬ (rCount most s).2.2 = 0) : rText most s = ([], (rCount most s).2) := if_pos h
theorem rText_b {most : Int} {s : RS} (h : (rCount most s).2.2 = 0) (h2 : ((rCount most s).1 : Int) > (rCount most s).2.1.length) : rText most s = ([], [], 2) := by unfold rText; rw [if_neg (fun k => k h), if_pos (by omega)]
theorem rText_c {most : Int} {s : RS} (h : (rCount most s).2.2 = 0) (h2 : ¬ ((rCount most s).1 : Int) > (rCount most s).2.1.length) : rText most s = ((rCount most s).2.1.take (rCount most s).1, (rCount most s).2.1.drop (rCount most s).1, 0) := by unfold rText; rw [if_neg (fun k => k h), if_neg (by omega)]
theorem rFlag_no {s : RS} (h : bOk s = false) : rFlag s = (false, bS s) ∧ (bX s).toNat = 0 := by
  obtain ⟨bs, e⟩ := s
  simp only [bOk, decide_eq_false_iff_not] at h
  unfold rFlag bS bX
  by_cases he : e = 0
  · subst he
    cases bs with
    | nil => simp
    | cons x r => simp at h
  · simp [he]
theorem rFlag_yes {s : RS} (h : bOk s = true) : rFlag s = if 1 < (bX s).toNat then (false, [], 3) else (decide ((bX s).toNat = 1), bS s) := by
  obtain ⟨bs, e⟩ := s
  simp only [bOk, decide_eq_true_eq] at h
  obtain ⟨h1, h2⟩ := h
  change e = 0 at h1
  subst h1
  cases bs with
  | nil => simp at h2
  | cons x r => simp [rFlag, bX, bS]
theorem rFlag_cons (x : UInt8) (r : List UInt8) : rFlag (x :: r, 0) = if 1 < x.toNat then (false, [], 3) else (decide (x.toNat = 1), r, 0) := by simp [rFlag]
theorem numI_get {bs : List UInt8} {i acc : Nat} {c : UInt8} (h : bs[i]? = some c) : rNumI i acc (bs.drop i, 0) = if (i = 9 ∧ 1 < c.toNat) ∨ (0 < i ∧ c.toNat = 0) then (0, [], 3) else
    if c.toNat < 128 then (acc + c.toNat % 128 * 2 ^ (7 * i), bs.drop (i + 1), 0) else rNumI (i + 1) (acc + c.toNat % 128 * 2 ^ (7 * i)) (bs.drop (i + 1), 0) := by
  obtain ⟨h1, h2⟩ := List.getElem?_eq_some_iff.1 h
  rw [List.drop_eq_getElem_cons h1, h2]
  simp [rNumI, numD]
theorem numI_end {bs : List UInt8} {i acc : Nat} (h : bs.length ≤ i) : rNumI i acc (bs.drop i, 0) = (0, [], 2) := by
  rw [List.drop_of_length_le h]; rfl
theorem acc_lt64 {i acc : Nat} (hi : i ≤ 9) (h : acc < 2 ^ (7 * i)) : acc < 18446744073709551616 := by
  have h3 : 2 ^ (7 * i) ≤ 2 ^ 63 := Nat.pow_le_pow_right (by omega) (by omega)
  omega
theorem n8_andNot128 (c : UInt8) : IntKind.u8.wrap ((BitVec.ofInt IntKind.u8.bits (c.toNat : Int) &&& ~~~ BitVec.ofInt IntKind.u8.bits 128).toNat : Nat) = ((c.toNat % 128 : Nat) : Int) := by
  have key : ∀ n : Nat, n < 256 → IntKind.u8.wrap ((BitVec.ofInt 8 (n : Int) &&& ~~~ BitVec.ofInt 8 128).toNat : Nat) = ((n % 128 : Nat) : Int) := by decide +kernel
  exact key _ c.toNat_lt
theorem n8_and127 (c : UInt8) : IntKind.u8.wrap ((BitVec.ofInt IntKind.u8.bits (c.toNat : Int) &&& BitVec.ofInt IntKind.u8.bits 127).toNat : Nat) = ((c.toNat % 128 : Nat) : Int) := by
  have key : ∀ n : Nat, n < 256 → IntKind.u8.wrap ((BitVec.ofInt 8 (n : Int) &&& BitVec.ofInt 8 127).toNat : Nat) = ((n % 128 : Nat) : Int) := by decide +kernel
  exact key _ c.toNat_lt
theorem n64_acc {acc x i : Nat} (hi : i ≤ 9) (hx : x < 128) (h9 : i = 9 → x ≤ 1) (h : acc < 2 ^ (7 * i)) : IntKind.u64.wrap ((BitVec.ofInt IntKind.u64.bits (acc : Int) ||| BitVec.ofInt IntKind.u64.bits ((x * 2 ^ (7 * i) : Nat) : Int)).toNat : Nat) = ((acc + x * 2 ^ (7 * i) : Nat) : Int) :=
  (n64_or (acc_lt64 hi h) (shl_bound hx hi h9)).trans (congrArg (fun z : Nat => (z : Int)) (or_add h))
theorem toNat_s1 (i : Nat) : ((i : Int) + 1).toNat = i + 1 := by omega
/-! ### Writing -/
abbrev WS := List UInt8 × Bool
def wput (most : Int) (s : WS) (b : List UInt8) : WS := if s.2 = true ∨ (b.length : Int) > most - s.1.length then (s.1, true) else (s.1 ++ b, false)
theorem wput_yes {most : Int} {s : WS} {b : List UInt8} (h : s.2 = false) (h2 : (b.length : Int) ≤ most - s.1.length) : wput most s b = (s.1 ++ b, false) := by
  unfold wput; rw [if_neg]; intro h3; rcases h3 with h3 | h3
  · rw [h] at h3; cases h3
  · omega
theorem wput_no {most : Int} {s : WS} {b : List UInt8} (h2 : ¬ (b.length : Int) ≤ most - s.1.length) : wput most s b = (s.1, true) := if_pos (.inr (by omega))
theorem wput_bad {most : Int} {s : WS} {b : List UInt8} (h2 : s.2 = true) : wput most s b = (s.1, true) := if_pos (.inl h2)
theorem wput_len {most : Int} {s : WS} {b : List UInt8} (h : (s.1.length : Int) ≤ max 0 most) : ((wput most s b).1.length : Int) ≤ max 0 most := by
  unfold wput; split
  · exact h
  · rename_i h2; simp only [not_or] at h2; simp only [List.length_append]; omega
def flagB (b : Bool) : List UInt8 := [if b then 1 else 0]
def textB (b : List UInt8) : List UInt8 := numB b.length ++ b
def doneB (s : WS) : List UInt8 := if s.2 then [] else s.1
def doneE (s : WS) : Int := if s.2 then 4 else 0

theorem doneB_ok (b : List UInt8) : doneB (b, false) = b := rfl
theorem doneE_ok (b : List UInt8) : doneE (b, false) = 0 := rfl
theorem doneB_bad (b : List UInt8) : doneB (b, true) = [] := rfl
theorem doneE_bad (b : List UInt8) : doneE (b, true) = 4 := rfl
/-! ### What is written is read -/
theorem rNum_numB {n : Nat} (r : List UInt8) (h : n < 18446744073709551616) : rNum (numB n ++ r, 0) = (n, r, 0) := by
  unfold rNum rNumI
  rw [if_neg (fun k => k rfl)]
  have := numD_numB n 0 0 r (by omega) (.inl rfl)
  simpa using this
theorem rInt_numB {n : Int} (r : List UInt8) (h : -9223372036854775808 ≤ n ∧ n ≤ 9223372036854775807) : rInt (numB (zz n) ++ r, 0) = (n, r, 0) := by
  unfold rInt
  rw [rNum_numB r (zz_lt h), unzz_zz]
theorem rFlag_flagB (b : Bool) (r : List UInt8) : rFlag (flagB b ++ r, 0) = (b, r, 0) := by
  cases b <;> simp [flagB, rFlag]
theorem rCount_numB {n : Nat} {most : Int} (r : List UInt8) (h : n < 18446744073709551616) (hm : (n : Int) ≤ max 0 most) : rCount most (numB n ++ r, 0) = (n, r, 0) := by
  rw [rCount_c (by rw [rNum_numB r h]) (by rw [rNum_numB r h]; simp only []; omega), rNum_numB r h]
theorem rText_textB {t : List UInt8} {most : Int} (r : List UInt8) (h : t.length < 18446744073709551616) (hm : (t.length : Int) ≤ max 0 most) : rText most (textB t ++ r, 0) = (t, r, 0) := by
  have e : rCount most (textB t ++ r, 0) = (t.length, t ++ r, 0) := by
    unfold textB; rw [List.append_assoc]; exact rCount_numB (t ++ r) h hm
  rw [rText_c (by rw [e]) (by rw [e]; simp only [List.length_append]; omega), e]
  simp
/-! ### What is read without an error and to the end is what writing it makes -/
theorem rEnd_0 {s : RS} (h : rEnd s = 0) : s = ([], 0) := by
  obtain ⟨bs, e⟩ := s
  unfold rEnd at h
  dsimp only at h
  have h1 : e = 0 := by omega
  have h2 : bs.length = 0 := by omega
  rw [h1, List.eq_nil_of_length_eq_zero h2]
theorem once_num {bs : List UInt8} (h : rEnd (rNum (bs, 0)).2 = 0) : numB (rNum (bs, 0)).1 = bs := by
  have h1 := rEnd_0 h
  unfold rNum rNumI at h1 ⊢
  rw [if_neg (fun k => k rfl)] at h1 ⊢
  obtain ⟨n, hb, hm, _⟩ := numD_inv bs 0 0 (numD 0 0 bs).1 [] (Prod.ext rfl h1)
  rw [hm]
  simp at hb ⊢
  exact hb.symm
theorem once_int {bs : List UInt8} (h : rEnd (rInt (bs, 0)).2 = 0) : numB (zz (rInt (bs, 0)).1) = bs := by
  unfold rInt at h ⊢
  rw [zz_unzz]
  exact once_num h
theorem once_flag {bs : List UInt8} (h : rEnd (rFlag (bs, 0)).2 = 0) : flagB (rFlag (bs, 0)).1 = bs := by
  have h1 := rEnd_0 h
  cases bs with
  | nil => simp [rFlag] at h1
  | cons x r =>
    rw [rFlag_cons] at h1 ⊢
    split at h1
    · simp at h1
    · rename_i hx
      rw [if_neg hx]
      simp at h1
      subst h1
      simp only [flagB, decide_eq_true_eq, List.cons.injEq, and_true]
      apply UInt8.toNat.inj
      split
      · rename_i h2; rw [h2]; rfl
      · have : x.toNat = 0 := by omega
        rw [this]; rfl
theorem once_text {bs : List UInt8} {most : Int} (h : rEnd (rText most (bs, 0)).2 = 0) : textB (rText most (bs, 0)).1 = bs := by
  have h1 := rEnd_0 h
  by_cases ha : (rCount most (bs, 0)).2.2 = 0
  · by_cases hb : ((rCount most (bs, 0)).1 : Int) > (rCount most (bs, 0)).2.1.length
    · rw [rText_b ha hb] at h1; simp at h1
    · rw [rText_c ha hb] at h1 ⊢
      have hn : (rNum (bs, 0)).2.2 = 0 := by
        by_cases hn : (rNum (bs, 0)).2.2 = 0
        · exact hn
        · rw [rCount_a hn] at ha; exact ha
      by_cases hc : ((rNum (bs, 0)).1 : Int) > max 0 most
      · rw [rCount_b hn hc] at ha; simp at ha
      · rw [rCount_c hn hc] at h1 hb ⊢
        unfold rNum rNumI at h1 hb hn ⊢
        rw [if_neg (fun k => k rfl)] at h1 hb hn ⊢
        dsimp only at h1 hb hn ⊢
        obtain ⟨n, hbs, hm, _⟩ := numD_inv bs 0 0 (numD 0 0 bs).1 (numD 0 0 bs).2.1 (Prod.ext rfl (Prod.ext rfl hn))
        simp only [Nat.zero_add, Nat.mul_zero, Nat.pow_zero, Nat.mul_one] at hm
        have hd := congrArg Prod.fst h1
        simp only at hd
        have hl := congrArg List.length hd
        rw [List.length_drop, List.length_nil] at hl
        have hl2 : (numD 0 0 bs).2.1.length = (numD 0 0 bs).1 := by omega
        rw [List.take_of_length_le (by omega)]
        unfold textB
        rw [hl2, hm]
        exact hbs.symm
  · rw [rText_a ha] at h1
    exact absurd (congrArg Prod.snd h1) ha
theorem rNum_inv {s : RS} (h : (rNum s).2.2 = 0) : s.2 = 0 ∧ s.1 = numB (rNum s).1 ++ (rNum s).2.1 := by
  by_cases he : s.2 = 0
  · refine ⟨he, ?_⟩
    unfold rNum rNumI at h ⊢
    rw [if_neg (fun k => k he)] at h ⊢
    obtain ⟨n, hb, hm, _⟩ := numD_inv s.1 0 0 (numD 0 0 s.1).1 (numD 0 0 s.1).2.1 (Prod.ext rfl (Prod.ext rfl h))
    simp only [Nat.zero_add, Nat.mul_zero, Nat.pow_zero, Nat.mul_one] at hm
    rw [hm]; exact hb
  · unfold rNum rNumI at h
    rw [if_pos he] at h
    exact absurd h he
theorem rInt_inv {s : RS} (h : (rInt s).2.2 = 0) : s.2 = 0 ∧ s.1 = numB (zz (rInt s).1) ++ (rInt s).2.1 := by
  unfold rInt at h ⊢
  rw [zz_unzz]
  exact rNum_inv h
/-! ### Behind an error -/
theorem numD_adv : ∀ (bs : List UInt8) (i acc : Nat), (numD i acc bs).2.2 = 0 → (numD i acc bs).2.1.length + 1 ≤ bs.length
  | [], i, acc, h => by simp [numD] at h
  | x :: r, i, acc, h => by
    simp only [numD] at h ⊢
    split at h
    · simp at h
    · rename_i hb
      rw [if_neg hb]
      split at h
      · rename_i h1; rw [if_pos h1]; simp
      · rename_i h1
        rw [if_neg h1]
        have := numD_adv r _ _ h
        simp only [List.length_cons]; omega
theorem rNum_adv (s : RS) (h : ¬ s.2 = 0 → s.1.length = 0) : ((rNum s).2.2 = 0 → s.2 = 0 ∧ (rNum s).2.1.length + 1 ≤ s.1.length) ∧ (¬ (rNum s).2.2 = 0 → (rNum s).2.1.length = 0) := by
  unfold rNum rNumI
  by_cases he : s.2 = 0
  · rw [if_neg (fun k => k he)]
    refine ⟨fun h2 => ⟨he, numD_adv _ _ _ h2⟩, fun h2 => ?_⟩
    rcases numD_err s.1 0 0 with h3 | h3
    · exact absurd h3 h2
    · rw [h3.2.1]; rfl
  · rw [if_pos he]
    exact ⟨fun h2 => absurd h2 he, h⟩
theorem rNum_stay {s : RS} (h : ¬ s.2 = 0) : rNum s = (0, s) := if_pos h
theorem rInt_stay {s : RS} (h : ¬ s.2 = 0) : rInt s = (0, s) := by unfold rInt; rw [rNum_stay h]; simp [unzz]
theorem rFlag_stay {s : RS} (h : ¬ s.2 = 0) : rFlag s = (false, s) := if_pos h
theorem rCount_stay {s : RS} {most : Int} (h : ¬ s.2 = 0) : rCount most s = (0, s) := by rw [rCount_a (by rw [rNum_stay h]; exact h), rNum_stay h]
theorem rText_stay {s : RS} {most : Int} (h : ¬ s.2 = 0) : rText most s = ([], s) := by rw [rText_a (by rw [rCount_stay h]; exact h), rCount_stay h]
/-! ### Pieces -/
/-- A writer: its row, how many it may have, whether there were more. B is the type of bytes, T that of the writer. -/
def WrP (B T p : Nat) (most : Int) (s : WS) : HP := Ex fun q : Option Addr × Nat => All [Blk p [.slice q.1 s.1.length q.2, .int .i64 most, .bool s.2] T, Rw B 1 q.1 s.1.length q.2 (bvs s.1)]
theorem wr_open {W w : World} {l : List HP} {B T p : Nat} {most : Int} {s : WS} (h : Sat W (WrP B T p most s :: l) w) : ∃ q cap, Sat W (Blk p [.slice q s.1.length cap, .int .i64 most, .bool s.2] T :: Rw B 1 q s.1.length cap (bvs s.1) :: l) w := by
  obtain ⟨⟨q, cap⟩, h⟩ := h.unex
  exact ⟨q, cap, h.unall⟩
theorem wr_shut {W w : World} {l : List HP} {B T p n cap : Nat} {q : Option Addr} {most : Int} {s : WS} {lg : Bool} {xs : List Value} (h : Sat W (Blk p [.slice q n cap, .int .i64 most, .bool lg] T :: Rw B 1 q n cap xs :: l) w) (hn : n = s.1.length) (hx : xs = bvs s.1) (hl : lg = s.2) : Sat W (WrP B T p most s :: l) w := by
  subst hn; subst hx; subst hl
  exact Sat.ex (q, cap) (Sat.all h)
/-- A reader: what is left, the error. -/
def RdP (T p : Nat) (s : RS) : HP := Ex fun q : Option Addr × Nat => All [Blk p [.slice q.1 s.1.length q.2, .int .i64 s.2] T, Vw q.1 s.1.length 1 (bvs s.1), Fact (s.1.length ≤ q.2)]
theorem rd_open {W w : World} {l : List HP} {T p : Nat} {s : RS} (h : Sat W (RdP T p s :: l) w) : ∃ q cap, s.1.length ≤ cap ∧ Sat W (Blk p [.slice q s.1.length cap, .int .i64 s.2] T :: Vw q s.1.length 1 (bvs s.1) :: l) w := by
  obtain ⟨⟨q, cap⟩, h⟩ := h.unex
  have h2 := h.unall
  have h3 := (h2.sel (.tail (.tail .head))).unfact.1
  exact ⟨q, cap, h3, h2.sub (.cons .head (.cons .head (.skip .refl)))⟩
theorem rd_shut {W w : World} {l : List HP} {T p n cap : Nat} {q : Option Addr} {e : Int} {s : RS} {ys : List Value} (h : Sat W (Blk p [.slice q n cap, .int .i64 e] T :: Vw q n 1 ys :: l) w) (hn : n = s.1.length) (hy : ys = bvs s.1) (he : e = s.2) (hc : n ≤ cap) : Sat W (RdP T p s :: l) w := by
  subst hn; subst hy; subst he
  refine Sat.ex (q, cap) (Sat.all ?_)
  exact (h.fact hc).sub (.cons (.tail .head) (.cons (.tail .head) .refl))
theorem rd_shutNil {W w : World} {l : List HP} {T p : Nat} {q : Option Addr} {n : Nat} {ys : List Value} {e : Int} {s : RS} (h : Sat W (Blk p [.slice none 0 0, .int .i64 e] T :: Vw q n 1 ys :: l) w) (hs : s = ([], e)) : Sat W (RdP T p s :: l) w := by
  subst hs
  have h2 := (h.sub (.cons .head (.skip .refl))).vwNil none 1
  exact rd_shut (s := ([], e)) (n := 0) (ys := []) (h2.sub (.cons (.tail .head) .refl)) rfl rfl rfl (Nat.le_refl _)
theorem rd_shutDrop {W w : World} {l : List HP} {T p n cap k : Nat} {q : Option Addr} {e : Int} {s : RS} {bs : List UInt8} (h : Sat W (Blk p [.slice (if cap = k then q else q.map (·.add (k * 1))) (n - k) (cap - k), .int .i64 e] T :: Vw q n 1 (bvs bs) :: l) w) (hn : n = bs.length) (hk : k ≤ n) (hc : n ≤ cap) (hs : s = (bs.drop k, e)) : Sat W (RdP T p s :: l) w := by
  subst hs; subst hn
  have h2 : Sat W (Vw q bs.length 1 (bvs bs) :: Blk p [.slice (if cap = k then q else q.map (·.add (k * 1))) (bs.length - k) (cap - k), .int .i64 e] T :: l) w := h.sub (.cons (.tail .head) .refl)
  have h3 := h2.vwImp (fun w hw => hw.drop hk hc)
  refine rd_shut (s := (bs.drop k, e)) (h3.sub (.cons (.tail .head) .refl)) (by simp) (by rw [bvs_drop]) rfl (by omega)
end Go.Sl
