/-
  The plain law of package view: ages; views that tell each other all; told twice; open questions.
  Conditions: none; it speaks of every program of the model.
-/
import Derived.Test.YtjcjkbfhmbfkaaaVw3
namespace Go.Sl
open Go
set_option linter.unusedSimpArgs false
set_option linter.unusedVariables false

theorem w1_small {x : Int} (h : 0 ≤ x ∧ x ≤ 1000000) : w1 x = x + 1 := Go.IntWalk.i64_in _ (by omega)
/-- Just one node is suspected, since t ticks. -/
structure Aged (n nd t : Nat) (u : VS) : Prop where
  ok : VOk n u
  me : u.me = 0
  oths : ∀ k, k ≠ nd → gm u k = mb0
  one : gm u nd = (if 6 ≤ t then 2 else 1, 0, ())
  age : t < 6 → ga u nd = t
theorem aged_oth {n nd t : Nat} {u : VS} (h : Aged n nd t u) (h1 : 1 ≤ nd) (h2 : nd < n) (k : Nat) : oth u k 1 ↔ k = nd ∧ t < 6 := by
  unfold oth inV
  rw [h.ok.l, h.me, Int.toNat_natCast]
  by_cases hk : k = nd
  · subst hk
    rw [h.one]
    by_cases ht : 6 ≤ t
    · rw [if_pos ht]; omega
    · rw [if_neg ht]; omega
  · rw [h.oths k hk]
    constructor
    · rintro ⟨_, _, h3⟩; simp at h3
    · rintro ⟨h3, _⟩; exact absurd h3 hk
theorem aged_start {n nd : Nat} (h1 : 1 ≤ nd) (h2 : nd < n) (h8 : n ≤ 8) : oth (vNew n 0) nd 0 ∧ ¬ oth (vSus (vNew n 0) nd) nd 0 ∧ Aged n nd 0 (vSus (vNew n 0) nd) := by
  have hok : VOk n (vNew n 0) := vNew_ok (by omega) h8
  have ho : oth (vNew n 0) nd 0 := by
    unfold oth inV
    rw [new_gm, hok.l]
    exact ⟨by omega, by show (nd : Int) ≠ ((0 : Nat) : Int); omega, rfl⟩
  have hv : vSus (vNew n 0) nd = vSet (vNew n 0) nd (1, (gm (vNew n 0) nd).2.1, ()) := if_pos ho
  have hA : Aged n nd 0 (vSus (vNew n 0) nd) := by
    refine ⟨vSus_ok hok, by rw [vSus_me]; rfl, fun k hk => ?_, ?_, fun _ => ?_⟩
    · rw [vSus_gm hok, if_neg (by rintro ⟨_, e⟩; omega), new_gm]
    · rw [vSus_gm hok, if_pos ⟨ho, rfl⟩, new_gm]; rfl
    · rw [hv, vSet_ag hok h2, if_pos ⟨rfl, by rw [new_gm]; rintro ⟨e, _⟩; simp at e⟩]; rfl
  refine ⟨ho, ?_, hA⟩
  intro h3
  have := h3.2.2
  rw [Int.toNat_natCast, hA.one, if_neg (by omega)] at this
  simp at this
theorem aged_step {n nd t : Nat} {u : VS} (h : Aged n nd t u) (h1 : 1 ≤ nd) (h2 : nd < n) : Aged n nd (t + 1) (vTick true u).2 := by
  have hd : ∀ k : Nat, dies u k ↔ k = nd ∧ t = 5 := fun k => by
    unfold dies
    rw [aged_oth h h1 h2]
    constructor
    · rintro ⟨⟨e, ht⟩, h6⟩
      subst e
      rw [h.age ht, w1_small (by omega)] at h6
      exact ⟨rfl, by omega⟩
    · rintro ⟨e, ht⟩
      subst e
      refine ⟨⟨rfl, by omega⟩, ?_⟩
      rw [h.age (by omega), w1_small (by omega)]
      omega
  refine ⟨vTick_ok h.ok, by rw [vTick_me]; exact h.me, fun k hk => ?_, ?_, fun ht => ?_⟩
  · rw [vTick_gm h.ok, if_neg (fun x => hk ((hd k).1 x).1)]; exact h.oths k hk
  · rw [vTick_gm h.ok, h.one]
    by_cases h5 : t = 5
    · rw [if_pos ((hd nd).2 ⟨rfl, h5⟩), if_pos (c := 6 ≤ t + 1) (by omega)]
    · rw [if_neg (fun x => h5 ((hd nd).1 x).2)]
      by_cases h6 : 6 ≤ t
      · rw [if_pos h6, if_pos (by omega)]
      · rw [if_neg h6, if_neg (by omega)]
  · rw [vTick_ga h.ok, if_pos ((aged_oth h h1 h2 nd).2 ⟨rfl, by omega⟩), h.age (by omega), w1_small (by omega), if_neg (by omega)]
    push_cast
    rfl
theorem aged_ticks {n nd : Nat} (h1 : 1 ≤ nd) (h2 : nd < n) (h8 : n ≤ 8) : ∀ t, Aged n nd t (vTicks (vSus (vNew n 0) nd) t)
  | 0 => (aged_start h1 h2 h8).2.2
  | t + 1 => aged_step (aged_ticks h1 h2 h8 t) h1 h2
theorem aged_state {n nd t : Nat} {u : VS} (h : Aged n nd t u) (h2 : nd < n) : vState u nd = if 6 ≤ t then 2 else 1 := by
  unfold vState
  rw [if_pos (show inV u nd from by unfold inV; rw [h.ok.l]; omega), Int.toNat_natCast, h.one]
theorem jv_zero (me n k : Nat) : jv me n k mb0 mb0 = mb0 := by
  unfold jv refS refI refP joinS joinI mayP
  simp
theorem rep_get {n nd k : Nat} {m : Mb} (hnd : nd < n) : ((List.replicate n mb0).set nd m)[k]? = if k < n then some (if k = nd then m else mb0) else none := by
  rw [List.getElem?_set]
  by_cases hk : nd = k
  · subst hk; simp [hnd]
  · rw [if_neg hk, List.getElem?_replicate]
    by_cases h2 : k < n
    · simp [h2, Ne.symm hk]
    · simp [h2]
theorem aged_join {n nd t : Nat} {u : VS} (h : Aged n nd t u) (h1 : 1 ≤ nd) (h2 : nd < n) {i : Int} (hi : 1 ≤ i ∧ i ≤ 1000) :
    (vJoin u ((List.replicate n mb0).set nd (0, i, ()))).1 = true ∧ (∀ k : Nat, ¬ oth (vJoin u ((List.replicate n mb0).set nd (0, i, ()))).2 k 1) ∧ vState (vJoin u ((List.replicate n mb0).set nd (0, i, ()))).2 nd = 0 := by
  have hj : jv 0 n nd (gm u nd) (0, i, ()) = (0, i, ()) := by
    rw [h.one]
    unfold jv
    rw [if_pos ⟨h2, by unfold mayP; dsimp only; omega⟩, if_neg (by omega)]
    unfold joinS joinI
    dsimp only
    rw [if_neg (by omega), if_neg (by omega)]
  have hg : ∀ k, gm (vJoin u ((List.replicate n mb0).set nd (0, i, ()))).2 k = if k = nd then (0, i, ()) else mb0 := fun k => by
    rw [vJoin_gm h.ok, rep_get h2, h.me]
    by_cases hk : k = nd
    · subst hk
      rw [if_pos h2]
      simp only [if_true]
      exact hj
    · rw [if_neg hk, h.oths k hk]
      by_cases hn : k < n
      · rw [if_pos hn]
        simp only [if_neg hk]
        exact jv_zero _ _ _
      · rw [if_neg hn]
  refine ⟨?_, ?_, ?_⟩
  · rw [vJoin_ch h.ok]
    refine ⟨nd, (0, i, ()), by rw [rep_get h2, if_pos h2, if_pos rfl], ?_⟩
    rw [h.me, hj, h.one]
    intro e
    have : i = 0 := congrArg (fun x : Mb => x.2.1) e
    omega
  · intro k ho
    have := ho.2.2
    rw [Int.toNat_natCast, hg] at this
    split at this <;> simp at this
  · unfold vState
    rw [if_pos (show inV (vJoin u ((List.replicate n mb0).set nd (0, i, ()))).2 nd from by unfold inV; rw [(vJoin_ok h.ok).l]; omega), Int.toNat_natCast, hg, if_pos rfl]

/-! ### Told once more -/
theorem jv_idem {me n k : Nat} (x m : Mb) (hk : k ≠ me) : jv me n k (jv me n k x m) m = jv me n k x m := by
  unfold jv
  by_cases h : k < n ∧ mayP m.1 m.2.1
  · simp only [if_pos h, if_neg hk]
    unfold joinS joinI
    obtain ⟨a, b, _⟩ := x
    obtain ⟨c, d, _⟩ := m
    dsimp only
    simp only [Prod.mk.injEq, and_true]
    omega
  · simp only [if_neg h]
theorem join_again {n : Nat} {s : VS} (h : VOk n s) {L : List Mb} (hme : L.length ≤ s.me) : (vJoin (vJoin s L).2 L).1 = false := by
  refine vJoin_same (vJoin_ok h) fun i m hi => ?_
  have hil := (List.getElem?_eq_some_iff.1 hi).1
  rw [vJoin_gm h, hi, vJoin_me]
  exact jv_idem _ _ (by omega)
theorem jv_own {me n k : Nat} (x : Mb) (h0 : k = me → x.1 = 0) : jv me n k x x = x := by
  obtain ⟨a, b, _⟩ := x
  unfold jv
  split
  · split
    · rename_i hk
      have := h0 hk
      simp only at this
      subst this
      unfold refS refI refP
      simp
    · unfold joinS joinI
      simp
  · rfl
theorem jv_zero2 {me n k : Nat} (x : Mb) (hm : mayP x.1 x.2.1) (h0 : k = me → x.1 = 0) : jv me n k x mb0 = x := by
  obtain ⟨a, b, _⟩ := x
  unfold mayP at hm
  simp only at hm
  unfold jv
  split
  · split
    · rename_i hk
      have := h0 hk
      simp only at this
      subst this
      unfold refS refI refP mayP
      simp
      omega
    · unfold joinS joinI
      dsimp only
      by_cases hb : b > 0 ∨ (b = 0 ∧ a > 0)
      · rw [if_pos hb, if_pos hb]
      · rw [if_neg hb, if_neg hb]
        have e1 : a = 0 := by omega
        have e2 : b = 0 := by omega
        rw [e1, e2]
  · rfl
theorem join_own {n : Nat} {s : VS} (h : VOk n s) (h0 : (gm s s.me).1 = 0) : (vJoin s s.l).1 = false := by
  refine vJoin_same h fun i m hi => ?_
  have hil := (List.getElem?_eq_some_iff.1 hi).1
  rw [h.l] at hil
  have := gm_get h hil
  rw [hi] at this
  cases this
  exact jv_own _ (fun e => by rw [e]; exact h0)
theorem join_own2 {n : Nat} {s : VS} (h : VOk n s) (h0 : (gm s s.me).1 = 0) : (vJoin s s.l).2.l = s.l := by
  refine gm_ext (vJoin_ok h) h fun k hk => ?_
  rw [vJoin_gm h, gm_get h hk]
  exact jv_own _ (fun e => by rw [e]; exact h0)
theorem join_zero {n : Nat} {s : VS} (h : VOk n s) (hm : AMay n s) (h0 : (gm s s.me).1 = 0) : (vJoin s (List.replicate n mb0)).1 = false := by
  refine vJoin_same h fun i m hi => ?_
  rw [List.getElem?_replicate] at hi
  split at hi
  · rename_i hin
    cases hi
    exact jv_zero2 _ (hm i hin) (fun e => by rw [e]; exact h0)
  · cases hi
/-! ### Told each other all -/
theorem join_comm {me1 me2 n k : Nat} (x y : Mb) (hx : mayP x.1 x.2.1) (hy : mayP y.1 y.2.1) (h1 : k ≠ me1) (h2 : k ≠ me2) (hk : k < n) : jv me1 n k x y = jv me2 n k y x := by
  unfold jv
  rw [if_pos (c := k < n ∧ mayP y.1 y.2.1) ⟨hk, hy⟩, if_pos (c := k < n ∧ mayP x.1 x.2.1) ⟨hk, hx⟩, if_neg h1, if_neg h2]
  obtain ⟨a, b, _⟩ := x
  obtain ⟨c, d, _⟩ := y
  unfold joinS joinI
  dsimp only
  simp only [Prod.mk.injEq, and_true]
  omega
/-- v is told what w held, w what v held ahead of that: of a third both hold the same. -/
theorem alike {n : Nat} {v w : VS} (hv : VOk n v) (hw : VOk n w) (mv : AMay n v) (mw : AMay n w) {k : Nat} (hk : k < n) (h1 : k ≠ v.me) (h2 : k ≠ w.me) : gm (vJoin v w.l).2 k = gm (vJoin w v.l).2 k := by
  rw [vJoin_gm hv, vJoin_gm hw, gm_get hv hk, gm_get hw hk]
  exact join_comm _ _ (mv k hk) (mw k hk) h1 h2 hk
theorem vC1_no {s : VS} {k : Nat} {m : Mb} (h : vC1 s k m = false) : vJ1 s k m = s := by
  unfold vC1 at h
  unfold vJ1
  split
  · rename_i hv
    unfold vSet
    rw [if_pos]
    exact Classical.byContradiction fun x => of_decide_eq_false h ⟨hv, x⟩
  · rfl
theorem vJoinI_true : ∀ (L : List Mb) (k : Nat) (s : VS), (vJoinI L k true s).1 = true
  | [], _, _ => rfl
  | m :: r, k, s => by simp only [vJoinI, Bool.true_or]; exact vJoinI_true r (k + 1) _
theorem vJoinI_id : ∀ (L : List Mb) (k : Nat) (c : Bool) (s : VS), (vJoinI L k c s).1 = false → (vJoinI L k c s).2 = s
  | [], _, _, _, _ => rfl
  | m :: r, k, c, s, h => by
    simp only [vJoinI] at h ⊢
    cases hc : (c || vC1 s k m) with
    | true => rw [hc, vJoinI_true] at h; cases h
    | false =>
      rw [hc] at h
      have h1 : vC1 s k m = false := by cases e : vC1 s k m with | false => rfl | true => rw [e] at hc; simp at hc
      rw [vC1_no h1] at h ⊢
      exact vJoinI_id r (k + 1) _ s h
theorem vJoin_id {s : VS} {L : List Mb} (h : (vJoin s L).1 = false) : (vJoin s L).2 = s := vJoinI_id L 0 false s h
theorem do_join {x : VCall} {s : VS} (h0 : x.1 = 0) (hL : ¬ 20 < (vcL x).length) : doS x s = (vJoin s (vcL x)).2 := (if_pos h0).trans (if_neg hL)
/-! ### Open questions -/
theorem set_same0 {l : List Int} (h : l.getD 0 0 = 0) : l.set 0 0 = l := by
  cases l with
  | nil => rfl
  | cons a r => simp at h; simp [h]
theorem set_set0 {l : List Int} {k : Nat} {v : Int} (hk : 0 < k) (h : l.getD 0 0 = 0) : (l.set k v).set 0 0 = l.set k v := by
  refine set_same0 ?_
  rw [getD_set, if_neg (by omega)]
  exact h
theorem cnt_ask {n k : Nat} {u : VS} (h : VOk n u) (hme : u.me = 0) (h0 : u.op.getD 0 0 = 0) (hk : k < n) : (u.op.set k (w1 (go u k))).set 0 0 = (vAsk u k).op ∧ (vAsk u k).op.getD 0 0 = 0 ∧ (vAsk u k).me = 0 := by
  have e : (u.op.set k (w1 (go u k))).set 0 0 = (vAsk u k).op := by
    unfold vAsk
    have hin : inV u k := by unfold inV; rw [h.l]; omega
    by_cases h1 : k = 0
    · subst h1
      rw [if_neg (fun x => x.2 (by rw [hme])), List.set_set]
      exact set_same0 h0
    · rw [if_pos ⟨hin, by rw [hme]; omega⟩, set_set0 (by omega) h0]
      simp
  refine ⟨e, ?_, by rw [vAsk_me]; exact hme⟩
  rw [← e, getD_set]
  split
  · rfl
  · rename_i hn
    rw [List.getD_eq_getElem?_getD, List.getElem?_eq_none (by rw [List.length_set] at hn ⊢; omega)]; rfl
theorem cnt_hear {n k : Nat} {u : VS} (h : VOk n u) (hme : u.me = 0) (h0 : u.op.getD 0 0 = 0) (hk : k < n) : (u.op.set k 0).set 0 0 = (vHear u k).op ∧ (vHear u k).op.getD 0 0 = 0 ∧ (vHear u k).me = 0 := by
  have hin : inV u k := by unfold inV; rw [h.l]; omega
  have e0 : (vHear u k).op = u.op.set k 0 := by unfold vHear; rw [if_pos hin]; simp
  have e : (u.op.set k 0).set 0 0 = (vHear u k).op := by
    rw [e0]
    by_cases h1 : k = 0
    · subst h1; rw [List.set_set]
    · exact set_set0 (by omega) h0
  refine ⟨e, ?_, by rw [vHear_me]; exact hme⟩
  rw [← e, getD_set]
  split
  · rfl
  · rename_i hn
    rw [List.getD_eq_getElem?_getD, List.getElem?_eq_none (by rw [List.length_set] at hn ⊢; omega)]; rfl
theorem miss_in {n k : Nat} {u : VS} (h : VOk n u) (hk : k < n) : vMiss u k = go u k := by
  unfold vMiss; rw [if_pos (show inV u k from by unfold inV; rw [h.l]; omega)]; simp
theorem i64_quo2 {a : Nat} (h : a < 9223372036854775807) : IntKind.i64.wrap ((a : Int).tdiv 2) = ((a / 2 : Nat) : Int) := by
  rw [show ((a : Int).tdiv 2) = ((a / 2 : Nat) : Int) from rfl, IntKind.wrap_i64]
  omega
end Go.Sl
