/-
  The plain law of package view: what a join, a tick does to each node; what is held only grows.
  Conditions: none; it speaks of every program of the model.
-/
import Derived.Test.YtjcjkbfhmbfkaaaVw2
namespace Go.Sl
open Go
set_option linter.unusedSimpArgs false
set_option linter.unusedVariables false

/-- What is held of node k behind a told m. -/
def jv (me n k : Nat) (x m : Mb) : Mb := if k < n ∧ mayP m.1 m.2.1 then (if k = me then (refS x.1 x.2.1 m.1 m.2.1, refI x.1 x.2.1 m.1 m.2.1, ()) else (joinS x.1 x.2.1 m.1 m.2.1, joinI x.1 x.2.1 m.1 m.2.1, ())) else x
theorem vJ1_gm {s : VS} {n : Nat} (h : VOk n s) (k : Nat) (m : Mb) (j : Nat) : gm (vJ1 s k m) j = if j = k then jv s.me n k (gm s k) m else gm s j := by
  unfold vJ1 jv
  by_cases hv : vJok s k m
  · have h2 : k < n ∧ mayP m.1 m.2.1 := by have := hv; unfold vJok at this; rw [h.l] at this; exact this
    rw [if_pos hv, if_pos h2, vSet_gm h h2.1]
    rfl
  · have h2 : ¬ (k < n ∧ mayP m.1 m.2.1) := by have := hv; unfold vJok at this; rw [h.l] at this; exact this
    rw [if_neg hv, if_neg h2]
    split
    · rename_i e; rw [e]
    · rfl
theorem vC1_iff {s : VS} {n : Nat} (h : VOk n s) (k : Nat) (m : Mb) : vC1 s k m = true ↔ jv s.me n k (gm s k) m ≠ gm s k := by
  unfold vC1 jv
  rw [decide_eq_true_iff]
  have e : vJok s k m ↔ k < n ∧ mayP m.1 m.2.1 := by unfold vJok; rw [h.l]
  rw [e]
  by_cases h2 : k < n ∧ mayP m.1 m.2.1
  · rw [if_pos h2]
    show _ ↔ vNow s k m ≠ gm s k
    constructor
    · rintro ⟨_, h3⟩ h4; exact h3 (by rw [h4]; exact ⟨rfl, rfl⟩)
    · intro h3; exact ⟨h2, fun h4 => h3 (mEq_eq h4).symm⟩
  · rw [if_neg h2]
    constructor
    · rintro ⟨h3, _⟩; exact absurd h3 h2
    · intro h3; exact absurd rfl h3
theorem vJoinI_gm : ∀ (L : List Mb) (j : Nat) (c : Bool) {s : VS} {n : Nat}, VOk n s → ∀ k, gm (vJoinI L j c s).2 k = if j ≤ k then (match L[k - j]? with | some m => jv s.me n k (gm s k) m | none => gm s k) else gm s k
  | [], j, c, s, n, h, k => by simp [vJoinI]
  | m :: r, j, c, s, n, h, k => by
    simp only [vJoinI]
    rw [vJoinI_gm r (j + 1) _ (vJ1_ok h) k, vJ1_gm h, vJ1_me]
    by_cases h1 : k = j
    · subst h1; simp; intro h; omega
    · by_cases h2 : j ≤ k
      · rw [if_pos (by omega), if_pos h2, if_neg h1, show k - j = (k - (j + 1)) + 1 from by omega, List.getElem?_cons_succ]
      · rw [if_neg (by omega), if_neg h2, if_neg h1]
theorem vJoin_gm {s : VS} {n : Nat} (h : VOk n s) (L : List Mb) (k : Nat) : gm (vJoin s L).2 k = match L[k]? with | some m => jv s.me n k (gm s k) m | none => gm s k := by
  have := vJoinI_gm L 0 false h k
  simpa [vJoin] using this
theorem vJoinI_me : ∀ (L : List Mb) (j : Nat) (c : Bool) (s : VS), (vJoinI L j c s).2.me = s.me
  | [], _, _, _ => rfl
  | m :: r, j, c, s => by simp only [vJoinI]; rw [vJoinI_me r, vJ1_me]
theorem vJoin_me (s : VS) (L : List Mb) : (vJoin s L).2.me = s.me := vJoinI_me L 0 false s
theorem vJoinI_ch : ∀ (L : List Mb) (j : Nat) (c : Bool) {s : VS} {n : Nat}, VOk n s → ((vJoinI L j c s).1 = true ↔ c = true ∨ ∃ (i : Nat) (m : Mb), L[i]? = some m ∧ jv s.me n (j + i) (gm s (j + i)) m ≠ gm s (j + i))
  | [], j, c, s, n, h => by simp [vJoinI]
  | m :: r, j, c, s, n, h => by
    simp only [vJoinI]
    rw [vJoinI_ch r (j + 1) _ (vJ1_ok h), Bool.or_eq_true, vC1_iff h, vJ1_me]
    have hg : ∀ i, gm (vJ1 s j m) (j + 1 + i) = gm s (j + 1 + i) := fun i => by rw [vJ1_gm h, if_neg (by omega)]
    constructor
    · rintro ((h1 | h1) | ⟨i, m', h1, h2⟩)
      · exact .inl h1
      · exact .inr ⟨0, m, rfl, h1⟩
      · rw [hg] at h2
        exact .inr ⟨i + 1, m', by simpa using h1, by rw [show j + (i + 1) = j + 1 + i from by omega]; exact h2⟩
    · rintro (h1 | ⟨i, m', h1, h2⟩)
      · exact .inl (.inl h1)
      · cases i with
        | zero => simp at h1; subst h1; exact .inl (.inr h2)
        | succ i => exact .inr ⟨i, m', by simpa using h1, by rw [hg]; rw [show j + (i + 1) = j + 1 + i from by omega] at h2; exact h2⟩
theorem vJoin_ch {s : VS} {n : Nat} (h : VOk n s) (L : List Mb) : (vJoin s L).1 = true ↔ ∃ (i : Nat) (m : Mb), L[i]? = some m ∧ jv s.me n i (gm s i) m ≠ gm s i := by
  have := vJoinI_ch L 0 false h
  simpa [vJoin] using this
theorem vJoin_same {s : VS} {n : Nat} (h : VOk n s) {L : List Mb} (hs : ∀ (i : Nat) (m : Mb), L[i]? = some m → jv s.me n i (gm s i) m = gm s i) : (vJoin s L).1 = false := by
  cases e : (vJoin s L).1 with
  | false => rfl
  | true => obtain ⟨i, m, h1, h2⟩ := (vJoin_ch h L).1 e; exact absurd (hs i m h1) h2

/-! ### A tick -/
def dies (s : VS) (k : Nat) : Prop := oth s k 1 ∧ w1 (ga s k) ≥ 6
instance (s : VS) (k : Nat) : Decidable (dies s k) := by unfold dies; infer_instance
theorem vT1_gm {z : Bool} {s : VS} {n : Nat} (h : VOk n s) (k j : Nat) : gm (vT1 z s k) j = if j = k ∧ dies s k then (2, (gm s k).2.1, ()) else gm s j := by
  by_cases ho : oth s k 1
  · have hk := oth_lt h ho
    by_cases h6 : w1 (ga s k) ≥ 6
    · rw [(vT1_dead (z := z) ho h6).1]
      unfold gm
      simp only [getD_set]
      have : k < s.l.length := by rw [h.l]; exact hk
      have hd : dies s k := ⟨ho, h6⟩
      simp [this, hd]
    · rw [(vT1_live (z := z) ho h6).1, if_neg (fun x => h6 x.2.2)]
      rfl
  · rw [(vT1_no (z := z) ho).1, if_neg (fun x => ho x.2.1)]
theorem vT1_ga {z : Bool} {s : VS} {n : Nat} (h : VOk n s) (k j : Nat) : ga (vT1 z s k) j = if j = k ∧ oth s k 1 then (if w1 (ga s k) ≥ 6 then (if z then 0 else w1 (ga s k)) else w1 (ga s k)) else ga s j := by
  by_cases ho : oth s k 1
  · have hk := oth_lt h ho
    have hl : k < s.ag.length := by rw [h.ag]; exact hk
    by_cases h6 : w1 (ga s k) ≥ 6
    · rw [(vT1_dead (z := z) ho h6).1, if_pos h6]
      unfold ga
      simp only [getD_set]
      simp [hl, ho]
    · rw [(vT1_live (z := z) ho h6).1, if_neg h6]
      unfold ga
      simp only [getD_set]
      simp [hl, ho]
  · rw [(vT1_no (z := z) ho).1, if_neg (fun x => ho x.2)]
theorem vT1_oth {z : Bool} {s : VS} {n : Nat} (h : VOk n s) {k j : Nat} (hj : j ≠ k) (st : Int) : oth (vT1 z s k) j st ↔ oth s j st := by
  unfold oth inV
  rw [vT1_me, show (vT1 z s k).l.length = s.l.length from by rw [(vT1_ok h).l, h.l], Int.toNat_natCast, vT1_gm h, if_neg (fun x => hj x.1)]
theorem vTickI_gm (z : Bool) : ∀ (r j c : Nat) {s : VS} {n : Nat}, VOk n s → ∀ k, gm (vTickI z r j c s).2 k = if j ≤ k ∧ k < j + r ∧ dies s k then (2, (gm s k).2.1, ()) else gm s k
  | 0, j, c, s, n, h, k => by simp only [vTickI]; rw [if_neg (by omega)]
  | r + 1, j, c, s, n, h, k => by
    simp only [vTickI]
    rw [vTickI_gm z r (j + 1) _ (vT1_ok h) k, vT1_gm h]
    by_cases h1 : k = j
    · subst h1
      rw [if_neg (by omega)]
      by_cases hd : dies s k
      · rw [if_pos ⟨rfl, hd⟩, if_pos ⟨Nat.le_refl _, by omega, hd⟩]
      · rw [if_neg (fun x => hd x.2), if_neg (fun x => hd x.2.2)]
    · have e : dies (vT1 z s j) k ↔ dies s k := by
        unfold dies
        rw [vT1_oth h h1, vT1_ga h, if_neg (fun x => h1 x.1)]
      rw [if_neg (c := k = j ∧ dies s j) (fun x => h1 x.1)]
      by_cases hd : dies s k
      · by_cases h2 : j ≤ k ∧ k < j + (r + 1)
        · rw [if_pos ⟨by omega, by omega, e.2 hd⟩, if_pos ⟨h2.1, h2.2, hd⟩]
        · rw [if_neg (by rintro ⟨a, b, _⟩; omega), if_neg (by rintro ⟨a, b, _⟩; exact h2 ⟨a, b⟩)]
      · rw [if_neg (fun x => hd (e.1 x.2.2)), if_neg (fun x => hd x.2.2)]
theorem vTickI_ga (z : Bool) : ∀ (r j c : Nat) {s : VS} {n : Nat}, VOk n s → ∀ k, ga (vTickI z r j c s).2 k = if j ≤ k ∧ k < j + r ∧ oth s k 1 then (if w1 (ga s k) ≥ 6 then (if z then 0 else w1 (ga s k)) else w1 (ga s k)) else ga s k
  | 0, j, c, s, n, h, k => by simp only [vTickI]; rw [if_neg (by omega)]
  | r + 1, j, c, s, n, h, k => by
    simp only [vTickI]
    rw [vTickI_ga z r (j + 1) _ (vT1_ok h) k, vT1_ga h]
    by_cases h1 : k = j
    · subst h1
      rw [if_neg (by omega)]
      by_cases hd : oth s k 1
      · rw [if_pos ⟨rfl, hd⟩, if_pos (c := k ≤ k ∧ k < k + (r + 1) ∧ oth s k 1) ⟨Nat.le_refl _, by omega, hd⟩]
      · rw [if_neg (fun x => hd x.2), if_neg (fun x => hd x.2.2)]
    · have e := vT1_oth (z := z) h h1 1
      rw [if_neg (c := k = j ∧ oth s j 1) (fun x => h1 x.1)]
      by_cases hd : oth s k 1
      · by_cases h2 : j ≤ k ∧ k < j + (r + 1)
        · rw [if_pos (c := j + 1 ≤ k ∧ k < j + 1 + r ∧ oth (vT1 z s j) k 1) ⟨by omega, by omega, e.2 hd⟩, if_pos (c := j ≤ k ∧ k < j + (r + 1) ∧ oth s k 1) ⟨h2.1, h2.2, hd⟩]
        · rw [if_neg (by rintro ⟨a, b, _⟩; omega), if_neg (by rintro ⟨a, b, _⟩; exact h2 ⟨a, b⟩)]
      · rw [if_neg (fun x => hd (e.1 x.2.2)), if_neg (fun x => hd x.2.2)]
theorem vTick_gm {z : Bool} {s : VS} {n : Nat} (h : VOk n s) (k : Nat) : gm (vTick z s).2 k = if dies s k then (2, (gm s k).2.1, ()) else gm s k := by
  unfold vTick
  rw [vTickI_gm z _ 0 0 h]
  by_cases hd : dies s k
  · have := oth_lt h hd.1
    rw [if_pos ⟨by omega, by rw [h.l]; omega, hd⟩, if_pos hd]
  · rw [if_neg (fun x => hd x.2.2), if_neg hd]
theorem vTick_ga {z : Bool} {s : VS} {n : Nat} (h : VOk n s) (k : Nat) : ga (vTick z s).2 k = if oth s k 1 then (if w1 (ga s k) ≥ 6 then (if z then 0 else w1 (ga s k)) else w1 (ga s k)) else ga s k := by
  unfold vTick
  rw [vTickI_ga z _ 0 0 h]
  by_cases hd : oth s k 1
  · have := oth_lt h hd
    rw [if_pos ⟨by omega, by rw [h.l]; omega, hd⟩, if_pos hd]
  · rw [if_neg (fun x => hd x.2.2), if_neg hd]
theorem vTickI_me (z : Bool) : ∀ (r j c : Nat) (s : VS), (vTickI z r j c s).2.me = s.me
  | 0, _, _, _ => rfl
  | r + 1, j, c, s => by simp only [vTickI]; rw [vTickI_me z r, vT1_me]
theorem vTick_me (z : Bool) (s : VS) : (vTick z s).2.me = s.me := vTickI_me z _ 0 0 s
theorem vTickI_quiet (z : Bool) : ∀ (r j c : Nat) {s : VS}, (∀ k : Nat, ¬ oth s k 1) → vTickI z r j c s = (c, s)
  | 0, _, _, _, _ => rfl
  | r + 1, j, c, s, h => by
    simp only [vTickI]
    rw [(vT1_no (z := z) (h j)).1, (vT1_no (z := z) (h j)).2]
    exact vTickI_quiet z r (j + 1) _ h
theorem vTick_quiet {z : Bool} {s : VS} (h : ∀ k : Nat, ¬ oth s k 1) : vTick z s = (0, s) := vTickI_quiet z _ 0 0 h
theorem vSus_gm {s : VS} {n : Nat} (h : VOk n s) (q : Int) (k : Nat) : gm (vSus s q) k = if oth s q 0 ∧ q = k then (1, (gm s k).2.1, ()) else gm s k := by
  unfold vSus
  by_cases ho : oth s q 0
  · have h0 := ho.1
    unfold inV at h0
    rw [h.l] at h0
    rw [if_pos ho, vSet_gm h (by omega)]
    by_cases hk : k = q.toNat
    · subst hk; rw [if_pos rfl, if_pos ⟨ho, by omega⟩]
    · rw [if_neg hk, if_neg (by rintro ⟨_, e⟩; omega)]
  · rw [if_neg ho, if_neg (fun x => ho x.1)]
theorem vSus_me (s : VS) (q : Int) : (vSus s q).me = s.me := by unfold vSus; split; exact vSet_me _ _ _; rfl
theorem vAsk_gm (s : VS) (q : Int) (k : Nat) : gm (vAsk s q) k = gm s k := by unfold vAsk; split <;> rfl
theorem vHear_gm (s : VS) (q : Int) (k : Nat) : gm (vHear s q) k = gm s k := by unfold vHear; split <;> rfl
theorem vAsk_me (s : VS) (q : Int) : (vAsk s q).me = s.me := by unfold vAsk; split <;> rfl
theorem vHear_me (s : VS) (q : Int) : (vHear s q).me = s.me := by unfold vHear; split <;> rfl
theorem doS_me (x : VCall) (s : VS) : (doS x s).me = s.me := by
  unfold doS
  split
  · split
    · rfl
    · exact vJoin_me _ _
  · split
    · exact vSus_me _ _
    · split
      · exact vTick_me _ _
      · split
        · exact vAsk_me _ _
        · exact vHear_me _ _
/-! ### What is held only grows -/
def leM (x y : Mb) : Prop := leqP x.1 x.2.1 y.1 y.2.1
theorem leM_refl (x : Mb) : leM x x := by unfold leM leqP joinS joinI; omega
theorem leM_join (x y : Mb) : leM x (joinS x.1 x.2.1 y.1 y.2.1, joinI x.1 x.2.1 y.1 y.2.1, ()) ∧ leM y (joinS x.1 x.2.1 y.1 y.2.1, joinI x.1 x.2.1 y.1 y.2.1, ()) := by unfold leM leqP joinS joinI; dsimp only; omega
/-- How node k's entry goes on. -/
def Grow (me k : Nat) (x y : Mb) : Prop := (k ≠ me → leM x y) ∧ (k = me → x.1 = 0 → y.1 = 0 ∧ x.2.1 ≤ y.2.1)
theorem grow_refl (me k : Nat) (x : Mb) : Grow me k x x := ⟨fun _ => leM_refl x, fun _ h => ⟨h, Int.le_refl _⟩⟩
theorem grow_jv (me n k : Nat) (x m : Mb) : Grow me k x (jv me n k x m) := by
  unfold jv
  split
  · rename_i h
    by_cases hk : k = me
    · rw [if_pos hk]
      refine ⟨fun h2 => absurd hk h2, fun _ h0 => ?_⟩
      have := h.2
      unfold mayP at this
      unfold refS refI refP mayP
      dsimp only
      omega
    · rw [if_neg hk]
      exact ⟨fun _ => (leM_join x m).1, fun h2 => absurd h2 hk⟩
  · exact grow_refl _ _ _
theorem grow_do {n : Nat} {s : VS} (h : VOk n s) (x : VCall) (k : Nat) : Grow s.me k (gm s k) (gm (doS x s) k) := by
  unfold doS
  split
  · split
    · exact grow_refl _ _ _
    · rw [vJoin_gm h]
      split
      · exact grow_jv _ _ _ _ _
      · exact grow_refl _ _ _
  · split
    · rw [vSus_gm h]
      split
      · rename_i ho
        obtain ⟨ho, hk⟩ := ho
        have h2 := ho.2.1
        have h3 := ho.2.2
        rw [hk, Int.toNat_natCast] at h3
        rw [hk] at h2
        refine ⟨fun _ => ?_, fun hk => absurd (by omega) h2⟩
        unfold leM leqP joinS joinI
        dsimp only
        omega
      · exact grow_refl _ _ _
    · split
      · rw [vTick_gm h]
        split
        · rename_i ho
          have h2 := ho.1.2.1
          have h3 := ho.1.2.2
          rw [Int.toNat_natCast] at h3
          refine ⟨fun _ => ?_, fun hk => absurd (by omega) h2⟩
          unfold leM leqP joinS joinI
          dsimp only
          omega
        · exact grow_refl _ _ _
      · split
        · rw [vAsk_gm]; exact grow_refl _ _ _
        · rw [vHear_gm]; exact grow_refl _ _ _
theorem told_do {n : Nat} {s : VS} (h : VOk n s) {x : VCall} (h0 : x.1 = 0) (hL : ¬ 20 < (vcL x).length) {k : Nat} {m : Mb} (hk : k < n) (hm : (vcL x)[k]? = some m) (hme : k ≠ s.me) (hmay : mayP m.1 m.2.1) : leM m (gm (doS x s) k) := by
  unfold doS
  rw [if_pos h0, if_neg hL, vJoin_gm h, hm]
  show leM m (jv s.me n k (gm s k) m)
  unfold jv
  rw [if_pos ⟨hk, hmay⟩, if_neg hme]
  exact (leM_join _ _).2
/-! ### All that is held may be -/
def AMay (n : Nat) (s : VS) : Prop := ∀ k, k < n → mayP (gm s k).1 (gm s k).2.1
theorem may_jv {me n k : Nat} {x m : Mb} (hx : mayP x.1 x.2.1) : mayP (jv me n k x m).1 (jv me n k x m).2.1 := by
  unfold jv
  split
  · rename_i h
    have h2 := h.2
    split
    · unfold refS refI refP mayP at *; dsimp only; omega
    · unfold joinS joinI mayP at *; dsimp only; omega
  · exact hx
theorem may_join {n : Nat} {s : VS} (h : VOk n s) (hm : AMay n s) (L : List Mb) : AMay n (vJoin s L).2 := fun k hk => by
  rw [vJoin_gm h]
  split
  · exact may_jv (hm k hk)
  · exact hm k hk
theorem may_do {n : Nat} {s : VS} (h : VOk n s) (hm : AMay n s) (x : VCall) : AMay n (doS x s) := by
  unfold doS
  split
  · split
    · exact hm
    · exact may_join h hm _
  · split
    · intro k hk
      have := hm k hk
      rw [vSus_gm h]
      split
      · unfold mayP at *; dsimp only; omega
      · exact this
    · split
      · intro k hk
        have := hm k hk
        rw [vTick_gm h]
        split
        · unfold mayP at *; dsimp only; omega
        · exact this
      · split
        · intro k hk; rw [vAsk_gm]; exact hm k hk
        · intro k hk; rw [vHear_gm]; exact hm k hk
theorem may_new (n me : Nat) : AMay n (vNew n me) := fun k hk => by
  have : gm (vNew n me) k = mb0 := by unfold gm vNew; simp [List.getD_eq_getElem?_getD, List.getElem?_replicate, hk]
  rw [this]; unfold mayP; simp
theorem new_gm (n me k : Nat) : gm (vNew n me) k = mb0 := by
  unfold gm vNew
  by_cases hk : k < n
  · simp [List.getD_eq_getElem?_getD, List.getElem?_replicate, hk]
  · simp [List.getD_eq_getElem?_getD, List.getElem?_replicate, hk]
end Go.Sl
