/-
  The plain law of package lazy: sums of rows that differ within four bytes side by side are unlike; mixes of rows that differ in the last byte are.
  Conditions: none; it speaks of every program of the model.
-/
import Derived.Test.YtglmimbfelakbaaLz1
namespace Go.Sl
open Go
set_option linter.unusedSimpArgs false
set_option linter.unusedVariables false

theorem xor_left_cancel {n : Nat} {a b c : BitVec n} (h : a ^^^ b = a ^^^ c) : b = c := by
  have h2 : a ^^^ (a ^^^ b) = a ^^^ (a ^^^ c) := by rw [h]
  rwa [← BitVec.xor_assoc, ← BitVec.xor_assoc, BitVec.xor_self, BitVec.zero_xor, BitVec.zero_xor] at h2
theorem xor_right_cancel {n : Nat} {a b c : BitVec n} (h : b ^^^ a = c ^^^ a) : b = c := by
  rw [BitVec.xor_comm b, BitVec.xor_comm c] at h
  exact xor_left_cancel h
theorem mul_cancel {a b k k' : B32} (hk : k * k' = 1#32) (h : a * k = b * k) : a = b := by
  have h2 : a * k * k' = b * k * k' := by rw [h]
  rwa [BitVec.mul_assoc, BitVec.mul_assoc, hk, BitVec.mul_one, BitVec.mul_one] at h2
theorem xs_cancel {x y : B32} (s : Nat) (hs : 0 < s) (h : x ^^^ (x >>> s) = y ^^^ (y >>> s)) : x = y := by
  have h1 : x ^^^ y = (x ^^^ y) >>> s := by
    rw [BitVec.ushiftRight_xor_distrib]
    apply xor_left_cancel (a := x)
    rw [← BitVec.xor_assoc, BitVec.xor_self, BitVec.zero_xor, ← BitVec.xor_assoc, h, BitVec.xor_assoc, BitVec.xor_self, BitVec.xor_zero]
  have h2 : (x ^^^ y).toNat = (x ^^^ y).toNat / 2 ^ s := by
    have := congrArg BitVec.toNat h1
    rwa [BitVec.toNat_ushiftRight, Nat.shiftRight_eq_div_pow] at this
  have h3 : (x ^^^ y).toNat = 0 := by
    rcases Nat.eq_zero_or_pos (x ^^^ y).toNat with h3 | h3
    · exact h3
    · have := Nat.div_lt_self h3 (show 1 < 2 ^ s from Nat.one_lt_two_pow (by omega))
      omega
  have h4 : x ^^^ y = 0#32 := BitVec.eq_of_toNat_eq (by rw [h3]; rfl)
  exact xor_right_cancel (a := y) (by rw [h4, BitVec.xor_self])
theorem byte_inj {x y : UInt8} (h : (BitVec.ofNat 32 x.toNat) = BitVec.ofNat 32 y.toNat) : x = y := by
  have hx := x.toNat_lt
  have hy := y.toNat_lt
  have := congrArg BitVec.toNat h
  rw [BitVec.toNat_ofNat, BitVec.toNat_ofNat, Nat.mod_eq_of_lt (by omega), Nat.mod_eq_of_lt (by omega)] at this
  exact UInt8.toNat_inj.1 this
theorem mEnd_inj {c d : B32} (h : mEnd c = mEnd d) : c = d :=
  xs_cancel 15 (by decide) (mul_cancel (k := 0x85ebca6b#32) (k' := 2781581891#32) (by decide) (xs_cancel 13 (by decide) h))
theorem mStep_inj {c : B32} {x y : UInt8} (h : mStep c x = mStep c y) : x = y :=
  byte_inj (xor_left_cancel (mul_cancel (k := 0x01000193#32) (k' := 899433627#32) (by decide) h))
theorem mix_last {b : List UInt8} {x y : UInt8} : mixB (b ++ [x]) = mixB (b ++ [y]) ↔ x = y := by
  constructor
  · intro h
    have h2 := mEnd_inj h
    rw [mFold_snoc, mFold_snoc] at h2
    exact mStep_inj h2
  · intro h; rw [h]

def invTop : List Nat := [0, 65, 195, 130, 134, 199, 69, 4, 77, 12, 142, 207, 203, 138, 8, 73, 154, 219, 89, 24, 28, 93, 223, 158, 215, 150, 20, 85, 81, 16, 146, 211, 117, 52, 182, 247, 243, 178, 48, 113, 56, 121, 251, 186, 190, 255, 125, 60, 239, 174, 44, 109, 105, 40, 170, 235, 162, 227, 97, 32, 36, 101, 231, 166, 234, 171, 41, 104, 108, 45, 175, 238, 167, 230, 100, 37, 33, 96, 226, 163, 112, 49, 179, 242, 246, 183, 53, 116, 61, 124, 254, 191, 187, 250, 120, 57, 159, 222, 92, 29, 25, 88, 218, 155, 210, 147, 17, 80, 84, 21, 151, 214, 5, 68, 198, 135, 131, 194, 64, 1, 72, 9, 139, 202, 206, 143, 13, 76, 149, 212, 86, 23, 19, 82, 208, 145, 216, 153, 27, 90, 94, 31, 157, 220, 15, 78, 204, 141, 137, 200, 74, 11, 66, 3, 129, 192, 196, 133, 7, 70, 224, 161, 35, 98, 102, 39, 165, 228, 173, 236, 110, 47, 43, 106, 232, 169, 122, 59, 185, 248, 252, 189, 63, 126, 55, 118, 244, 181, 177, 240, 114, 51, 127, 62, 188, 253, 249, 184, 58, 123, 50, 115, 241, 176, 180, 245, 119, 54, 229, 164, 38, 103, 99, 34, 160, 225, 168, 233, 107, 42, 46, 111, 237, 172, 10, 75, 201, 136, 140, 205, 79, 14, 71, 6, 132, 197, 193, 128, 2, 67, 144, 209, 83, 18, 22, 87, 213, 148, 221, 156, 30, 95, 91, 26, 152, 217]
theorem inv_top : ∀ i, i < 256 → invTop.getD (entB i >>> 24).toNat 999 = i := by decide +kernel
theorem top_inj {i j : Nat} (hi : i < 256) (hj : j < 256) (h : entB i >>> 24 = entB j >>> 24) : i = j := by
  rw [← inv_top i hi, ← inv_top j hj, h]
abbrev tvP : Nat → B32 := fun i => polyL.getD i 0#32
theorem tvP_at {i : Nat} (h : i < 256) : tvP i = entB i := by simp [tvP, polyL, List.getD_eq_getElem?_getD, h]
theorem step_shift {s t : B32} {x y : UInt8} {j : Nat} (hj : j ≤ 3) (h : sStep tvP s x >>> (8 * j) = sStep tvP t y >>> (8 * j)) : sIdx s x = sIdx t y ∧ s >>> (8 * (j + 1)) = t >>> (8 * (j + 1)) := by
  unfold sStep at h
  rw [tvP_at (sIdx_lt s x), tvP_at (sIdx_lt t y)] at h
  have z : ∀ u : B32, u >>> 8 >>> 24 = 0#32 := fun u => by
    apply BitVec.eq_of_toNat_eq
    rw [BitVec.toNat_ushiftRight, BitVec.toNat_ushiftRight, Nat.shiftRight_eq_div_pow, Nat.shiftRight_eq_div_pow]
    have := u.isLt
    simp
    omega
  have h24 : (entB (sIdx s x) ^^^ (s >>> 8)) >>> 24 = (entB (sIdx t y) ^^^ (t >>> 8)) >>> 24 := by
    have h2 := congrArg (fun u : B32 => u >>> (24 - 8 * j)) h
    simp only [← BitVec.shiftRight_add] at h2
    rwa [show 8 * j + (24 - 8 * j) = 24 from by omega] at h2
  rw [BitVec.ushiftRight_xor_distrib, BitVec.ushiftRight_xor_distrib, z, z, BitVec.xor_zero, BitVec.xor_zero] at h24
  have hi := top_inj (sIdx_lt s x) (sIdx_lt t y) h24
  refine ⟨hi, ?_⟩
  rw [hi, BitVec.ushiftRight_xor_distrib, BitVec.ushiftRight_xor_distrib] at h
  have h3 := xor_left_cancel h
  rw [← BitVec.shiftRight_add, ← BitVec.shiftRight_add] at h3
  rwa [show 8 + 8 * j = 8 * (j + 1) from by omega] at h3
theorem sIdx_nat (s : B32) (x : UInt8) : sIdx s x = (s.toNat % 256) ^^^ x.toNat := by
  rw [← sIdx_ref, UInt8.toNat_xor]
  simp
theorem xor_nat_cancel {a b c : Nat} (h : a ^^^ b = a ^^^ c) : b = c := by
  have h2 : a ^^^ (a ^^^ b) = a ^^^ (a ^^^ c) := by rw [h]
  rwa [← Nat.xor_assoc, ← Nat.xor_assoc, Nat.xor_self, Nat.zero_xor, Nat.zero_xor] at h2
theorem idx_byte {s : B32} {x y : UInt8} (h : sIdx s x = sIdx s y) : x = y := by
  rw [sIdx_nat, sIdx_nat] at h
  exact UInt8.toNat_inj.1 (xor_nat_cancel h)
theorem idx_state {s t : B32} {x : UInt8} (h : sIdx s x = sIdx t x) (h8 : s >>> 8 = t >>> 8) : s = t := by
  rw [sIdx_nat, sIdx_nat, Nat.xor_comm, Nat.xor_comm (t.toNat % 256)] at h
  have h1 := xor_nat_cancel h
  have h2 := congrArg BitVec.toNat h8
  rw [BitVec.toNat_ushiftRight, BitVec.toNat_ushiftRight, Nat.shiftRight_eq_div_pow, Nat.shiftRight_eq_div_pow] at h2
  apply BitVec.eq_of_toNat_eq
  omega
theorem step_state {s t : B32} {x : UInt8} (h : sStep tvP s x = sStep tvP t x) : s = t := by
  have h2 := step_shift (s := s) (t := t) (x := x) (y := x) (j := 0) (by omega) (by rw [h])
  exact idx_state h2.1 h2.2
theorem fold_state : ∀ (u : List UInt8) {s t : B32}, sFold tvP s u = sFold tvP t u → s = t
  | [], _, _, h => h
  | x :: u, s, t, h => step_state (fold_state u h)
def idxs : B32 → List UInt8 → List Nat
  | _, [] => []
  | s, x :: u => sIdx s x :: idxs (sStep tvP s x) u
theorem fold_idxs : ∀ (u v : List UInt8) (s t : B32) (j : Nat), u.length = v.length → j + u.length ≤ 4 → sFold tvP s u >>> (8 * j) = sFold tvP t v >>> (8 * j) → idxs s u = idxs t v ∧ s >>> (8 * (j + u.length)) = t >>> (8 * (j + u.length))
  | [], [], s, t, j, _, _, h => ⟨rfl, h⟩
  | x :: u, y :: v, s, t, j, hl, hj, h => by
    simp only [List.length_cons] at hl hj ⊢
    obtain ⟨h1, h2⟩ := fold_idxs u v (sStep tvP s x) (sStep tvP t y) j (by omega) (by omega) h
    obtain ⟨h3, h4⟩ := step_shift (by omega) h2
    exact ⟨by simp only [idxs]; rw [h1, h3], by rw [show j + (u.length + 1) = j + u.length + 1 from by omega]; exact h4⟩
  | [], _ :: _, _, _, _, hl, _, _ => by simp at hl
  | _ :: _, [], _, _, _, hl, _, _ => by simp at hl
theorem idxs_inj : ∀ (u v : List UInt8) (s : B32), idxs s u = idxs s v → u = v
  | [], [], _, _ => rfl
  | x :: u, y :: v, s, h => by
    simp only [idxs, List.cons.injEq] at h
    have hx := idx_byte h.1
    subst hx
    rw [idxs_inj u v _ h.2]
  | [], _ :: _, _, h => by simp [idxs] at h
  | _ :: _, [], _, h => by simp [idxs] at h
theorem fold4 {u v : List UInt8} {s : B32} (hl : u.length = v.length) (h4 : u.length ≤ 4) (h : sFold tvP s u = sFold tvP s v) : u = v :=
  idxs_inj u v s (fold_idxs u v s s 0 hl (by omega) (by rw [h])).1
theorem sFold_append (tv : Nat → B32) (s : B32) (u v : List UInt8) : sFold tv s (u ++ v) = sFold tv (sFold tv s u) v := by simp [sFold]
theorem not_inj {a b : B32} (h : ~~~ a = ~~~ b) : a = b := by rw [← BitVec.not_not (b := a), h, BitVec.not_not]
/-- Rows that are alike ahead of a place and from four places behind it on: their sums are alike just if they are. -/
theorem crc_tells {b c : List UInt8} {k : Nat} (hl : b.length = c.length) (h1 : b.take k = c.take k) (h2 : b.drop (k + 4) = c.drop (k + 4)) : crcB b = crcB c ↔ b = c := by
  constructor
  · intro h
    have h3 : sFold tvP 0xffffffff#32 b = sFold tvP 0xffffffff#32 c := not_inj h
    have eb : b = b.take k ++ ((b.drop k).take 4 ++ b.drop (k + 4)) := by rw [← List.drop_drop, List.take_append_drop, List.take_append_drop]
    have ec : c = c.take k ++ ((c.drop k).take 4 ++ c.drop (k + 4)) := by rw [← List.drop_drop, List.take_append_drop, List.take_append_drop]
    rw [eb, ec, sFold_append, sFold_append, sFold_append, sFold_append, h1, h2] at h3
    have h4 := fold4 (by rw [List.length_take, List.length_take, List.length_drop, List.length_drop, hl]) (by rw [List.length_take]; omega) (fold_state _ h3)
    rw [eb, ec, h1, h2, h4]
  · intro h; rw [h]
theorem sumB_congr {f g : Nat → B32} (h : ∀ i, i < 256 → f i = g i) (b : List UInt8) : sumB f b = sumB g b := by
  unfold sumB
  have : ∀ c, sFold f c b = sFold g c b := by
    induction b with
    | nil => intro c; rfl
    | cons x b ih =>
      intro c
      show sFold f (sStep f c x) b = sFold g (sStep g c x) b
      rw [show sStep f c x = sStep g c x from by unfold sStep; rw [h _ (sIdx_lt c x)]]
      exact ih _
  rw [this]
theorem poly128 : tAt 256 polyL 128 = 0xedb88320#32 := by
  rw [show (128 : Int) = ((128 : Nat) : Int) from rfl, tAt_nat polyL_len]
  exact (tvP_at (by omega)).trans (by decide)
theorem poly_in {j : Nat} (h : j < 256) : tAt 256 polyL (j : Int) = entB j := by rw [tAt_nat polyL_len]; exact tvP_at h
theorem poly_out {i : Int} (h : ¬ (0 ≤ i ∧ i < 256)) : tAt 256 polyL i = 0#32 := if_neg (by unfold inT; exact h)
theorem mst_id (k : Nat) : mst (fun (s : Nat) (_ : Nat) => s + 1) 0 k = k := by
  induction k with
  | zero => rfl
  | succ k ih => show mst _ 0 k + 1 = k + 1; rw [ih]
theorem mix_one {x y : UInt8} : mixB [x] = mixB [y] ↔ x = y := mix_last (b := [])
theorem tAt_in {σ : Type} {f : σ → Nat → B32} {g : σ → Nat → σ} {s : σ} {n j : Nat} (h : j < n) : tAt n (tvals f g s n) (j : Int) = f (mst g s j) j := by
  rw [tAt_nat (tvals_len f g s n), List.getD_eq_getElem?_getD, tvals_get f g s h]; rfl
theorem tAt_out {n : Nat} {vals : List B32} {i : Int} (h : ¬ (0 ≤ i ∧ i < n)) : tAt n vals i = 0#32 := if_neg h
/-- What is asked twice: made by the first. -/
theorem ite_mk (d : Bool) (n : Nat) : (if d = true then n else 0) = 0 ∨ (if d = true then n else 0) = n := by cases d <;> simp
theorem u8_inj {x y : UInt8} : ((x.toNat : Nat) : Int) = ((y.toNat : Nat) : Int) ↔ x = y := ⟨fun h => UInt8.toNat_inj.1 (by omega), fun h => by rw [h]⟩
theorem take_set_ge {α : Type} {l : List α} {k j : Nat} {v : α} (h : k ≤ j) : (l.set j v).take k = l.take k := by
  apply List.ext_getElem?
  intro i
  by_cases hi : i < k
  · rw [List.getElem?_take_of_lt hi, List.getElem?_take_of_lt hi, List.getElem?_set_ne (by omega)]
  · rw [List.getElem?_eq_none (by rw [List.length_take]; omega), List.getElem?_eq_none (by rw [List.length_take]; omega)]
theorem drop_set_lt {α : Type} {l : List α} {k j : Nat} {v : α} (h : j < k) : (l.set j v).drop k = l.drop k := by
  apply List.ext_getElem?
  intro i
  rw [List.getElem?_drop, List.getElem?_drop, List.getElem?_set_ne (by omega)]
theorem sum_tab {f : Nat → B32} {n : Nat} (b : List UInt8) : sumB (fun i : Nat => tAt n (tvals (fun (_ : Unit) i => f i) (fun _ _ => ()) () n) (i : Int)) b = sumB (fun i => ((List.range (min n 256)).map f).getD i 0#32) b := by
  refine sumB_congr (fun i hi => ?_) b
  by_cases h : i < n
  · rw [tAt_in h, List.getD_eq_getElem?_getD, List.getElem?_map, List.getElem?_range (by omega)]; rfl
  · rw [tAt_out (by omega), List.getD_eq_getElem?_getD, List.getElem?_eq_none (by rw [List.length_map, List.length_range]; omega)]; rfl
theorem sum_nil (b : List UInt8) : sumB (fun _ => 0#32) b = sumB (fun i => ([] : List B32).getD i 0#32) b := sumB_congr (fun i _ => by simp) b
end Go.Sl
