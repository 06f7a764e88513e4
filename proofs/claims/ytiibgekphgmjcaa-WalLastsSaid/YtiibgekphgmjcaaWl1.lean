/-
  The plain law of package wal: records on a disk.
  Conditions: none; it speaks of every program of the model.
-/
import Derived.Test.YtiibgekphgmjcaaFr1
import Derived.Test.YtiibgekphgmjcaaDk1
namespace Go.Sl
open Go
set_option linter.unusedSimpArgs false
set_option linter.unusedVariables false

def wB (b : List UInt8) : List UInt8 := b.take (allB b).2.1
def wS (b : List UInt8) (s : Nat) : Nat := if (allB b).2.1 < b.length then (allB b).2.1 else s
def aE (most : Int) (b r : List UInt8) : Int := if 60000 < r.length then 4 else dAppE most b (frB r)
def aB (most : Int) (b r : List UInt8) : List UInt8 := if aE most b r = 0 then b ++ frB r else b
def aN (most : Int) (b r : List UInt8) (n : Nat) : Nat := if aE most b r = 0 then n + 1 else n
def aS (most : Int) (b r : List UInt8) (s : Nat) : Nat := if aE most b r = 0 then (b ++ frB r).length else s
theorem a_no {most : Int} {b r : List UInt8} {e : Int} {n s : Nat} (h : aE most b r = e) (he : e ≠ 0) : aB most b r = b ∧ aN most b r n = n ∧ aS most b r s = s := by
  unfold aB aN aS; rw [h, if_neg he, if_neg he, if_neg he]; exact ⟨rfl, rfl, rfl⟩
theorem a_yes {most : Int} {b r : List UInt8} {n s : Nat} (h : aE most b r = 0) : aB most b r = b ++ frB r ∧ aN most b r n = n + 1 ∧ aS most b r s = (b ++ frB r).length := by
  unfold aB aN aS; rw [h, if_pos rfl, if_pos rfl, if_pos rfl]; exact ⟨rfl, rfl, rfl⟩
theorem a_long {most : Int} {b r : List UInt8} (h : 60000 < r.length) : aE most b r = 4 := if_pos h
theorem a_short {most : Int} {b r : List UInt8} (h : r.length ≤ 60000) : aE most b r = dAppE most b (frB r) := if_neg (by omega)
theorem a_fit {most : Int} {b r : List UInt8} (h : r.length ≤ 60000) (h2 : ((b.length + (r.length + 8) : Nat) : Int) ≤ most) : aE most b r = 0 := by
  rw [a_short h]; exact (dApp_fit (by rw [frB_len]; exact h2)).2
theorem a_full {most : Int} {b r : List UInt8} (h : r.length ≤ 60000) (h2 : ¬ ((b.length + (r.length + 8) : Nat) : Int) ≤ most) : aE most b r = 5 := by
  rw [a_short h]; exact (dApp_full (by rw [frB_len]; exact h2)).2
theorem allF_n : ∀ (f : Nat) (b : List UInt8), (allF f b).2.1 ≤ b.length
  | 0, b => by simp [allF]
  | f + 1, b => by
    unfold allF
    by_cases h : tkE b = 0
    · have hb := tk_bound h
      have ih := allF_n f (b.drop (tkN b))
      rw [List.length_drop] at ih
      rw [if_pos h]
      show tkN b + _ ≤ _
      omega
    · rw [if_neg h]; simp
theorem allB_n (b : List UInt8) : (allB b).2.1 ≤ b.length := allF_n _ _
theorem wB_all {b : List UInt8} (h : ¬ (allB b).2.1 < b.length) : wB b = b := List.take_of_length_le (by omega)
theorem wB_len (b : List UInt8) : (wB b).length = (allB b).2.1 := by unfold wB; rw [List.length_take]; have := allB_n b; omega
/-- Records, and then what is no record. -/
theorem w_frs {l : List (List UInt8)} {t : List UInt8} (hl : ∀ r ∈ l, r.length ≤ 60000) (ht : tkE t = 2) : allB (frs l ++ t) = (l, (frs l).length, 0) ∧ wB (frs l ++ t) = frs l := by
  have h1 : allB (frs l ++ t) = (l, (frs l).length, 0) := by rw [allB_frs _ _ hl, allB_no (by rw [ht]; decide), ht]; simp
  exact ⟨h1, by unfold wB; rw [h1]; exact List.take_left⟩
theorem w_frs0 {l : List (List UInt8)} (hl : ∀ r ∈ l, r.length ≤ 60000) : wB (frs l) = frs l := by unfold wB; rw [allB_frs0 l hl]; exact List.take_length
theorem tk_nil : tkE [] = 2 := tk_short (by simp)
/-- small: at most 30 of at most 400 bytes. -/
def smallW (L : List (Sli UInt8)) : List (Sli UInt8) := (L.take 30).filter fun x => decide (x.2.2.length ≤ 400)
theorem smallW_get {L : List (Sli UInt8)} {k : Nat} {x : Sli UInt8} (h : L[k]? = some x) : smallW (L.take (k + 1)) = if k < 30 ∧ x.2.2.length ≤ 400 then smallW (L.take k) ++ [x] else smallW (L.take k) := by
  unfold smallW
  rw [List.take_take, List.take_take]
  by_cases hk : k < 30
  · rw [show min 30 (k + 1) = k + 1 by omega, show min 30 k = k by omega, take_succ_get h, List.filter_append]
    by_cases h5 : x.2.2.length ≤ 400
    · rw [if_pos ⟨hk, h5⟩]; simp [h5]
    · rw [if_neg (fun h => h5 h.2)]; simp [h5]
  · rw [show min 30 (k + 1) = 30 by omega, show min 30 k = 30 by omega, if_neg (fun h => hk h.1)]
theorem smallW_len (L : List (Sli UInt8)) : (smallW L).length ≤ 30 := Nat.le_trans (List.length_filter_le _ _) (by rw [List.length_take]; omega)
structure SmW (L M : List (Sli UInt8)) : Prop where
  len : M.length ≤ 30
  row : ∀ x ∈ M, x.2.2.length ≤ 400
  sub : ∀ x ∈ M, x ∈ L
theorem SmW.of {L M : List (Sli UInt8)} (h : M = smallW L) : SmW L M := by
  subst h
  refine ⟨smallW_len L, fun x hx => ?_, fun x hx => ?_⟩
  · exact by simpa using (List.mem_filter.1 hx).2
  · exact List.mem_of_mem_take (List.mem_filter.1 hx).1
theorem SmW.row5 {L M : List (Sli UInt8)} (h : SmW L M) : ∀ r ∈ byts M, r.length ≤ 400 := fun r hr => by
  obtain ⟨x, hx, rfl⟩ := List.mem_map.1 hr
  exact h.row x hx
theorem SmW.big {L M : List (Sli UInt8)} (h : SmW L M) : ∀ r ∈ byts M, r.length ≤ 60000 := fun r hr => by have := h.row5 r hr; omega
theorem SmW.fr {L M : List (Sli UInt8)} (h : SmW L M) (k : Nat) : (frs ((byts M).take k)).length ≤ 12240 := by
  have h1 := frs_len_le ((byts M).take k) 400 fun r hr => h.row5 r (List.mem_of_mem_take hr)
  have h2 : ((byts M).take k).length ≤ 30 := by rw [List.length_take, byts_len]; have := h.len; omega
  have := Nat.mul_le_mul_right 408 h2
  omega
theorem SmW.all {L M : List (Sli UInt8)} (h : SmW L M) : (frs (byts M)).length ≤ 12240 := by
  have := h.fr M.length
  rwa [byts_all] at this
theorem frs_step {M : List (Sli UInt8)} {k : Nat} {x : Sli UInt8} (h : M[k]? = some x) : frs ((byts M).take (k + 1)) = frs ((byts M).take k) ++ frB x.2.2 := frs_take (byts_get h)
theorem frs_le (l : List (List UInt8)) (k : Nat) : (frs (l.take k)).length ≤ (frs l).length := by
  conv => rhs; rw [← List.take_append_drop k l, frs_append, List.length_append]
  omega
theorem tk_torn {t : List UInt8} (h : t.length ≤ 200) : tkE ([0, 0, 1, 255] ++ t) = 2 := by
  have hn : (num32 ([0, 0, 1, 255] ++ t)).toNat = 511 := by show (n4 0 0 1 255).toNat = 511; decide
  have hl : ([0, 0, 1, 255] ++ t : List UInt8).length = 4 + t.length := by rw [List.length_append]; rfl
  by_cases h8 : ([0, 0, 1, 255] ++ t : List UInt8).length < 8
  · exact tk_short h8
  · exact tk_short2 (by omega) (by omega) (by omega)
theorem wS_0 : wS [] 0 = 0 := by simp [wS, allB_nil]
theorem wB_0 : wB [] = [] := by simp [wB]
theorem wS_frs {l : List (List UInt8)} {t : List UInt8} {s : Nat} (hl : ∀ r ∈ l, r.length ≤ 60000) (ht : tkE t = 2) (h0 : 0 < t.length) : wS (frs l ++ t) s = (frs l).length := by
  unfold wS; rw [(w_frs hl ht).1, if_pos (by rw [List.length_append]; show (frs l).length < _; omega)]
theorem wS_frs0 {l : List (List UInt8)} {s : Nat} (hl : ∀ r ∈ l, r.length ≤ 60000) : wS (frs l) s = s := by
  unfold wS; rw [allB_frs0 l hl, if_neg (by simp)]
theorem byts_len_eq {L : List (Sli UInt8)} {l : List (List UInt8)} (h : byts L = l) : L.length = l.length := by rw [← h, byts_len]
theorem aB_le {m : Nat} {b r : List UInt8} (h : b.length ≤ m) : (aB (m : Int) b r).length ≤ m := by
  by_cases he : aE (m : Int) b r = 0
  · rw [(a_yes (n := 0) (s := 0) he).1]
    have hr : r.length ≤ 60000 := Classical.byContradiction fun hh => by rw [a_long (by omega)] at he; cases he
    have h2 : ((b.length + (r.length + 8) : Nat) : Int) ≤ (m : Int) := Classical.byContradiction fun hh => by rw [a_full hr hh] at he; cases he
    rw [List.length_append, frB_len]; omega
  · rw [(a_no (n := 0) (s := 0) rfl he).1]; exact h
theorem aN_le {m : Int} {b r : List UInt8} {n : Nat} : aN m b r n ≤ n + 1 := by unfold aN; split <;> omega
/-- What a log's append leaves are records again. -/
theorem aB_frs {m : Nat} {l : List (List UInt8)} {r : List UInt8} (hl : ∀ x ∈ l, x.length ≤ 60000) : ∃ l', aB (m : Int) (frs l) r = frs l' ∧ (∀ x ∈ l', x.length ≤ 60000) := by
  by_cases he : aE (m : Int) (frs l) r = 0
  · have hr : r.length ≤ 60000 := Classical.byContradiction fun hh => by rw [a_long (by omega)] at he; cases he
    refine ⟨l ++ [r], by rw [(a_yes (n := 0) (s := 0) he).1, frs_snoc], fun x hx => ?_⟩
    rcases List.mem_append.1 hx with h | h
    · exact hl x h
    · rw [List.mem_singleton.1 h]; exact hr
  · exact ⟨l, (a_no (n := 0) (s := 0) rfl he).1, hl⟩
theorem rep_frs {m : Int} {l k : List (List UInt8)} (hl : ∀ x ∈ l, x.length ≤ 60000) (hk : ∀ x ∈ k, x.length ≤ 60000) : ∃ l', dRepB m (frs l) (frs k) = frs l' ∧ (∀ x ∈ l', x.length ≤ 60000) ∧ ((dRepE m (frs k) = 0 ∧ l' = k) ∨ (dRepE m (frs k) = 5 ∧ l' = l ∧ ((frs k).length : Int) > m)) := by
  by_cases h : ((frs k).length : Int) > m
  · obtain ⟨h1, h2, _⟩ := dRep_no (b := frs l) (s := 0) h; exact ⟨l, h1, hl, .inr ⟨h2, rfl, h⟩⟩
  · obtain ⟨h1, h2, _⟩ := dRep_yes (b := frs l) (s := 0) h; exact ⟨k, h1, hk, .inl ⟨h2, rfl⟩⟩
/-! ### A long append of bytes -/
theorem growBy_le (n : Nat) : ∀ (r c : Nat), c < n → Builtin.growBy n r c ≤ n + (n + 768) / 4
  | 0, c, h => by unfold Builtin.growBy; omega
  | r + 1, c, h => by
    unfold Builtin.growBy
    rw [if_neg (by omega)]
    by_cases h2 : c + (c + 768) / 4 < n
    · exact growBy_le n r _ h2
    · cases r with
      | zero => unfold Builtin.growBy; omega
      | succ r => unfold Builtin.growBy; rw [if_pos (by omega)]; omega
theorem next_fits {need old : Nat} (h : old < need) (hb : need ≤ 200000000000000) : Builtin.nextslicecap need old ≤ 281474976710656 := by
  unfold Builtin.nextslicecap
  split
  · omega
  · split
    · omega
    · have := growBy_le need 4 old h; omega
section
variable {P : Program} {ops : Array Oper} {Q : Exit → Act → World → Prop} {K : Act → World → Prop} {a : Act} {w : World} {n : Nat} {L : List (Nat × Value)} {o : Oper} {W : World} {l l' : List HP} {S : World → Prop}
/-- append: what is known behind it. -/
theorem run_append_big {t e ty : TypeId} {z : Value} {sz by' len cap m c : Nat} {p q : Option Addr} {xs ys : List Value} (ht : P.underlying t = some (.slice e)) (hi : TyB P e z sz by') (hzs : z.cells.size = sz) (h0 : by' = 1)
    (hS : Sat W (Rw e sz p len cap xs :: l) w) (hy : SlAt w q m sz ys) (h1 : ys.all (·.oneCell') = true) (hb : len + m ≤ 200000000000000) :
    ∃ p' cap' w', (Builtin.append_ #[t, t] ty #[.slice p len cap, .slice q m c]).run P w = .ok (.slice p' (len + m) cap') w' ∧ Sat W (Rw e sz p' (len + m) cap' (xs ++ ys) :: l) w' ∧ (p' = none → len + m = 0) := by
  obtain ⟨i, hi1, hi2, hi3, hi4⟩ := hi.out
  obtain ⟨hlx, hlc, hcm, hpc⟩ := hS.rwLen .head
  have hsl := hS.slOfRw .head
  have hbound : len + m ≤ maxLen := by
    simp only [maxLen]; omega
  have hlen : (xs ++ ys).length = (len + m) * sz := by rw [List.length_append, hlx, hy.1, Nat.add_mul]
  have hnew := run_firstCells (P := P) (c := c) hy
  have hold := run_firstCells (P := P) (c := cap) hsl
  by_cases hroom : len + m ≤ cap
  · cases hp : p with
    | none =>
      have hc0 := hpc hp
      have hl0 : len = 0 := by omega
      have hm0 : m = 0 := by omega
      subst hp; subst hl0; subst hm0; subst hc0
      have e1 : ys = [] := List.eq_nil_of_length_eq_zero (by simpa using hy.1)
      subst e1
      refine ⟨none, 0, w, ?_, by simpa using hS, fun _ => rfl⟩
      simp [Builtin.append_, run_underlying ht, sizeOf, typeInfo, hi1, hi3, Builtin.lenOf, hnew]
    | some ad =>
      subst hp
      obtain ⟨_, _, ⟨_, _, _, h4⟩, _, _, hs, _⟩ := hS.has
      rcases h4 with ⟨hp', _⟩ | ⟨b, sp, hp', hbk, hspl⟩
      · cases hp'
      · cases hp'
        have hw := hs _ _ hbk
        simp only at hw
        have h1' : ∀ u ∈ ys, u.oneCell' = true := by simpa using h1
        have hfit : len * i.size + ys.length ≤ (xs ++ sp).toArray.size := by
          simp only [List.size_toArray, List.length_append, hlx, hspl, hy.1, hi3, ← Nat.add_mul]
          exact Nat.mul_le_mul_right _ (by omega)
        have hst := run_storeCells_at P b (len * i.size) e ys 0 (xs ++ sp).toArray w hw (by simpa using hfit) h1'
        simp only [Nat.add_zero] at hst
        refine ⟨_, _, _, ?_, hS.rwSet (len' := len + m) (cs := ((xs ++ sp).take (len * i.size) ++ ys ++ (xs ++ sp).drop (len * i.size + ys.length)).toArray) rfl hlen hroom (sp.drop ys.length) ?_ ?_, fun h => by cases h⟩
        · simp [Builtin.append_, run_underlying ht, sizeOf, typeInfo, hi1, hi3, Builtin.lenOf, hroom, hnew, Addr.add_lit] at hst ⊢
          simp [hst]
        · rw [hi3, ← hlx]
          congr 1
          rw [List.take_left, List.drop_append]
          simp
        · rw [List.length_drop, hspl, hy.1, ← Nat.sub_mul]
          congr 1
          omega
  · have hlt : cap < len + m := by omega
    have hfit : ¬ (Builtin.nextslicecap (len + m) cap * i.bytes > 281474976710656) := by
      rw [hi4, h0, Nat.mul_one]; have := next_fits hlt hb; omega
    have h63 : ¬ (((len + m : Nat) : Int) > IntKind.i64.max ∧ i.bytes = 0) := by
      rw [hi4]; intro h; omega
    obtain ⟨hg1, hg2⟩ := grown_bound (w := w) (old := cap) e hbound
    refine ⟨some ⟨w.heap.size, 0, none⟩, grownCap w (len + m) cap e, w.drew.alloc (.cells (xs.toArray ++ ys.toArray ++ Builtin.zeroCells z.cells (grownCap w (len + m) cap e - (len + m))) e), ?_,
      (((hS.sub (.skip .refl)).drew).rwNew (w := w.drew) rfl hlen hg1 hg2 (Builtin.zeroCells z.cells (grownCap w (len + m) cap e - (len + m))).toList ?_ ?_), fun h => by cases h⟩
    · have hnew' : (Builtin.firstCells i.size m (.slice q m c)).run P w.drew = .ok ys.toArray w.drew := by rw [hi3]; exact run_firstCells (P := P) (w := w.drew) (c := c) hy
      have hold' : (Builtin.firstCells i.size len (.slice p len cap)).run P w.drew = .ok xs.toArray w.drew := by rw [hi3]; exact run_firstCells (P := P) (w := w.drew) (c := cap) hsl
      have hn : ¬ (len + m ≤ cap) := hroom
      have h63' : ¬ (9223372036854775807 < ((len : Int) + (m : Int))) := by simp only [maxLen] at hbound; omega
      have h48' : ¬ (281474976710656 < Builtin.nextslicecap (len + m) cap * i.bytes) := by omega
      simp [Builtin.append_, run_underlying ht, sizeOf, typeInfo, zeroValue, hi1, hi2, Builtin.lenOf, hn, h63', h48', Question.forced, hnew', hold', newRow, grownCap]
      congr 2
      apply Array.ext'
      simp
    · simp
    · rw [Array.length_toList, size_zeroCells, hzs]

theorem st_appendB {t e : TypeId} {x y : Operand} {z : Value} {sz by' len cap m c d : Nat} {p q : Option Addr} {xs ys : List Value} (hf : Fits n a L) (hn : Wn ops a o true) (ho : o.op = .call { callee := .builtin .append, args := #[x, y], argTypes := #[t, t] }) (hx : ev L x = some (.slice p len cap)) (hy : ev L y = some (.slice q m c))
    (ht : P.underlying t = some (.slice e)) (hi : TyB P e z sz by') (hzs : z.cells.size = sz) (h0 : by' = 1) (hS : Sat W l w) (s : Sel (Rw e sz p len cap xs) l l') (hys : SlAt w q m sz ys) (h1 : ys.all (·.oneCell') = true) (hb : len + m ≤ 200000000000000) (hd : o.dst = some d) (hlt : Nat.blt d n = true)
    (k : ∀ p' cap' a' w', Fits n a' ((d, .slice p' (len + m) cap') :: L) → Sat W (Rw e sz p' (len + m) cap' (xs ++ ys) :: l') w' → (p' = none → len + m = 0) → K a' w') : opWp P ops Q o K a w := by
  obtain ⟨p', cap', w', hr, hs, hp⟩ := run_append_big (P := P) (ty := o.type) (c := c) ht hi hzs h0 (hS.sel s) hys h1 hb
  exact st_eff (w' := w') hf hn (by simp [execOp, ho, resolve, invoke, builtin, hf.ev hx, hf.ev hy, hr]) hd hlt fun a' hf' => k p' cap' a' w' hf' hs hp

end
/-! ### Torn records -/
def Torn (t : List UInt8) : Prop := ∃ (y : List UInt8) (k : Nat), y.length ≤ 60000 ∧ k < y.length + 8 ∧ t = (frB y).take k
theorem Torn.nil : Torn [] := ⟨[], 0, by simp, by simp, by simp⟩
theorem Torn.e {t : List UInt8} (h : Torn t) : tkE t = 2 := by obtain ⟨y, k, h1, h2, rfl⟩ := h; exact tk_cut0 h1 h2
theorem Torn.take {t : List UInt8} (h : Torn t) (j : Nat) : Torn (t.take j) := by
  obtain ⟨y, k, h1, h2, rfl⟩ := h
  exact ⟨y, min j k, h1, by omega, by rw [List.take_take]⟩
theorem wS_torn {l : List (List UInt8)} {t : List UInt8} {s : Nat} (hl : ∀ r ∈ l, r.length ≤ 60000) (ht : tkE t = 2) (h1 : (frs l).length ≤ s) (h2 : s ≤ (frs l ++ t).length) : wS (frs l ++ t) s = (frs l).length := by
  rcases Nat.eq_zero_or_pos t.length with h | h
  · have e := List.eq_nil_of_length_eq_zero h
    subst e
    rw [List.append_nil] at h2 ⊢
    rw [wS_frs0 hl]; omega
  · exact wS_frs hl ht h
theorem crash_take {F t : List UInt8} {s : Nat} (k : Int) (h1 : F.length ≤ s) (h2 : s ≤ (F ++ t).length) : (F ++ t).take (dCraN (F ++ t) s k) = F ++ t.take (dCraN (F ++ t) s k - F.length) ∧ F.length ≤ dCraN (F ++ t) s k ∧ dCraN (F ++ t) s k = (F ++ t.take (dCraN (F ++ t) s k - F.length)).length := by
  obtain ⟨c1, c2⟩ := dCraN_le k h2
  have e : (F ++ t).take (dCraN (F ++ t) s k) = F ++ t.take (dCraN (F ++ t) s k - F.length) := by rw [List.take_append, List.take_of_length_le (by omega)]
  refine ⟨e, by omega, ?_⟩
  rw [← e, List.length_take]; omega
theorem wS_len (b : List UInt8) : wS b b.length = (allB b).2.1 := by unfold wS; have := allB_n b; split <;> omega
theorem take1e {w : World} {q : Option Addr} {b : List UInt8} {m : Nat} (h : SlAt w q b.length 1 (bvs b)) (hm : m ≤ b.length) : SlAt w q m 1 (bvs (b.take m)) := by
  have h2 := take1 h hm
  rwa [List.length_take, Nat.min_eq_left hm] at h2
end Go.Sl
