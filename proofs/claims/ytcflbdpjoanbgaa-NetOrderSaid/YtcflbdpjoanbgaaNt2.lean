/-
  Messages counted by their numbers.
  Conditions: none; it speaks of every program of the model.
-/
import Derived.Test.YtcflbdpjoanbgaaNt1
namespace Go.Sl
open Go
set_option linter.unusedSimpArgs false
set_option linter.unusedVariables false

/-- How often each number below k is among them. -/
def cnt (k : Nat) (ops : List Int) : List Int := (List.range k).map fun j : Nat => ((ops.count (j : Int) : Nat) : Int)
theorem cnt_len (k : Nat) (ops : List Int) : (cnt k ops).length = k := by unfold cnt; rw [List.length_map, List.length_range]
theorem cnt_get {k j : Nat} {ops : List Int} (h : j < k) : (cnt k ops)[j]? = some ((ops.count (j : Int) : Nat) : Int) := by
  unfold cnt; rw [List.getElem?_map, List.getElem?_range h]; rfl
theorem cnt_none {k j : Nat} {ops : List Int} (h : ¬ j < k) : (cnt k ops)[j]? = none := List.getElem?_eq_none (by rw [cnt_len]; omega)
theorem cnt_set {k j : Nat} {ops ops' : List Int} {y : Int} (hj : j < k) (hy : y = ((ops'.count (j : Int) : Nat) : Int)) (h : ∀ i : Nat, i ≠ j → ops'.count (i : Int) = ops.count (i : Int)) : (cnt k ops).set j y = cnt k ops' := by
  apply List.ext_getElem?
  intro i
  by_cases hi : j = i
  · subst hi
    rw [List.getElem?_set_self (by rw [cnt_len]; exact hj), cnt_get hj, hy]
  · rw [List.getElem?_set_ne hi]
    by_cases hik : i < k
    · rw [cnt_get hik, cnt_get hik, h i (fun e => hi e.symm)]
    · rw [cnt_none hik, cnt_none hik]
theorem cast_ne {i j : Nat} (h : i ≠ j) : ((j : Int) == (i : Int)) = false := by simp; omega
theorem cnt_add {k j : Nat} {ops : List Int} (hj : j < k) : (cnt k ops).set j (((ops.count (j : Int) : Nat) : Int) + 1) = cnt k (ops ++ [(j : Int)]) :=
  cnt_set hj (by rw [List.count_append]; simp) (fun i hi => by rw [List.count_append, List.count_cons, List.count_nil, cast_ne hi]; rfl)
theorem split_at {ops : List Int} {P : Nat} {n : Int} (h : ops[P]? = some n) : ops = ops.take P ++ n :: ops.drop (P + 1) := by
  obtain ⟨hP, rfl⟩ := List.getElem?_eq_some_iff.1 h
  rw [← List.drop_eq_getElem_cons hP, List.take_append_drop]
theorem cnt_del {k j P : Nat} {ops : List Int} (hj : j < k) (h : ops[P]? = some (j : Int)) : (cnt k ops).set j (((ops.count (j : Int) : Nat) : Int) - 1) = cnt k (ops.take P ++ ops.drop (P + 1)) := by
  have e := split_at h
  have hc : ∀ i : Nat, ops.count (i : Int) = (ops.take P ++ ops.drop (P + 1)).count (i : Int) + (if i = j then 1 else 0) := fun i => by
    conv => lhs; rw [e]
    rw [List.count_append, List.count_append, List.count_cons]
    by_cases hi : i = j
    · subst hi; simp; omega
    · rw [cast_ne hi, if_neg hi]; simp
  exact cnt_set hj (by rw [hc j, if_pos rfl]; omega) (fun i hi => by rw [hc i, if_neg hi]; rfl)
theorem cnt_tail {k j i : Nat} {ops : List Int} (hj : j < k) (h : ops[i]? = some (j : Int)) : (cnt k (ops.drop i)).set j ((((ops.drop i).count (j : Int) : Nat) : Int) - 1) = cnt k (ops.drop (i + 1)) := by
  have h2 : (ops.drop i)[0]? = some (j : Int) := by rw [List.getElem?_drop]; exact h
  rw [cnt_del hj h2, List.take_zero, List.nil_append, List.drop_drop, Nat.add_comm 0 1]
theorem count_pos_at {i : Nat} {ops : List Int} {n : Int} (h : ops[i]? = some n) : 1 ≤ (ops.drop i).count n := by
  have h2 : n ∈ ops.drop i := List.mem_of_getElem? (i := 0) (by rw [List.getElem?_drop]; exact h)
  exact List.count_pos_iff.2 h2
theorem cnt_zero {k i : Nat} (h : i < k) (ops : List Int) : (cnt k (ops.drop ops.length))[i]? = some 0 := by rw [List.drop_length, cnt_get h]; rfl
theorem count_upto : ∀ (k i : Nat), (upto k).count (i : Int) = if i < k then 1 else 0
  | 0, i => rfl
  | k + 1, i => by
    have h0 : (upto (k + 1)).count (i : Int) = (if i < k then 1 else 0) + (0 + if ((k : Int) == (i : Int)) = true then 1 else 0) := by rw [upto_succ, List.count_append, count_upto k i, List.count_cons, List.count_nil]
    rw [h0]
    by_cases h2 : i = k
    · subst h2; simp
    · rw [cast_ne h2]
      by_cases h1 : i < k
      · rw [if_pos h1, if_pos (show i < k + 1 by omega)]; rfl
      · rw [if_neg h1, if_neg (show ¬ i < k + 1 by omega)]; rfl
def ones (k i : Nat) : List Int := List.replicate i 1 ++ List.replicate (k - i) 0
theorem ones_zero (k : Nat) : List.replicate k (0 : Int) = ones k 0 := by simp [ones]
theorem ones_len {k i : Nat} (h : i ≤ k) : (ones k i).length = k := by simp [ones]; omega
theorem ones_get {k i : Nat} (h : i < k) : (ones k i)[i]? = some 0 := by
  unfold ones
  rw [List.getElem?_append_right (by simp), List.length_replicate, Nat.sub_self, List.getElem?_replicate, if_pos (by omega)]
theorem ones_set {k i : Nat} (h : i < k) : (ones k i).set i 1 = ones k (i + 1) := by
  unfold ones
  rw [show k - i = (k - (i + 1)) + 1 by omega, List.replicate_succ, List.set_append_right _ _ (by simp)]
  simp [List.replicate_succ']
theorem ones_cnt (k : Nat) : ones k k = cnt k (upto k) := by
  apply List.ext_getElem?
  intro i
  unfold ones
  rw [Nat.sub_self, List.replicate_zero, List.append_nil, List.getElem?_replicate]
  by_cases h : i < k
  · rw [if_pos h, cnt_get h, count_upto, if_pos h]; rfl
  · rw [if_neg h, cnt_none h]
theorem upto_map_mX {k : Nat} (h : k ≤ 2000) : ((upto k).map mX1).take 2000 = (upto k).map mX1 := List.take_of_length_le (by rw [List.length_map, upto_len]; exact h)
theorem inS_map {ops : List Int} {P : Nat} (h : P < ops.length) : inS (ops.map mX1) (P : Int) = true := by unfold inS; rw [List.length_map]; exact decide_eq_true (by omega)
theorem getX {ops : List Int} {P : Nat} {n : Int} (h : ops[P]? = some n) : plP ((ops.map mX1).getD (P : Int).toNat zeroM) = mX1 n := by
  rw [Int.toNat_natCast, List.getD_eq_getElem?_getD, map_get mX1 h]; exact mX1_pl n
theorem copy_map {ops : List Int} {P : Nat} {n : Int} (h : ops[P]? = some n) (h2 : ops.length < 2000) : copyB (ops.map mX1) (P : Int) = true ∧ copyS (ops.map mX1) (P : Int) = (ops ++ [n]).map mX1 := by
  obtain ⟨h3, h4⟩ := copyS_yes (inS_map (List.getElem?_eq_some_iff.1 h).1) (by rw [List.length_map]; exact h2)
  exact ⟨h3, by rw [h4, getX h, List.map_append]; rfl⟩
theorem take_map {ops : List Int} {P : Nat} (h : P < ops.length) : takeS (ops.map mX1) (P : Int) = (ops.take P ++ ops.drop (P + 1)).map mX1 := by
  unfold takeS
  rw [if_pos (inS_map h), Int.toNat_natCast, ← List.map_take, ← List.map_drop, List.map_append]
theorem mem_cut {ops : List Int} {P : Nat} {n : Int} (h : n ∈ ops.take P ++ ops.drop (P + 1)) : n ∈ ops := by
  rcases List.mem_append.1 h with h | h
  · exact List.mem_of_mem_take h
  · exact List.mem_of_mem_drop h
theorem len_cut {ops : List Int} {P : Nat} (h : P < ops.length) : (ops.take P ++ ops.drop (P + 1)).length = ops.length - 1 := by simp; omega
theorem opX {kd fr tn op fo bk n : Int} {ky : List UInt8} {es : List PEnt} {ds : List PDig} {ms : List PDot} (h : (⟨kd, fr, tn, op, fo, ky, bk, es, ds, ms⟩ : PMsg) = mX1 n) : op = n := congrArg PMsg.op h
end Go.Sl
