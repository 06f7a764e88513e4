/-
  The plain law of package view: the view and its reference go alike; what is held only grows.
  Conditions: none; it speaks of every program of the model.
-/
import Derived.Test.YtjcjkbfhmbfkaaaVw1
namespace Go.Sl
open Go
set_option linter.unusedSimpArgs false
set_option linter.unusedVariables false

theorem getD_set {α : Type} (l : List α) (k j : Nat) (m d : α) : (l.set k m).getD j d = if j = k ∧ k < l.length then m else l.getD j d := by
  rw [List.getD_eq_getElem?_getD, List.getElem?_set, List.getD_eq_getElem?_getD]
  by_cases h : k = j
  · subst h
    by_cases h2 : k < l.length
    · simp [h2]
    · simp [h2]
  · simp [h, Ne.symm h]
theorem gm_ext {s t : VS} {n : Nat} (hs : VOk n s) (ht : VOk n t) (h : ∀ k, k < n → gm s k = gm t k) : s.l = t.l := by
  apply List.ext_getElem?
  intro i
  by_cases hi : i < n
  · rw [gm_get hs hi, gm_get ht hi, h i hi]
  · rw [List.getElem?_eq_none (by rw [hs.l]; omega), List.getElem?_eq_none (by rw [ht.l]; omega)]
theorem vSet_gm {s : VS} {n k : Nat} {m : Mb} (h : VOk n s) (hk : k < n) (j : Nat) : gm (vSet s k m) j = if j = k then m else gm s j := by
  unfold vSet
  split
  · rename_i he
    split
    · rename_i hj; rw [hj, mEq_eq he]
    · rfl
  · unfold gm
    rw [getD_set]
    have : k < s.l.length := by rw [h.l]; exact hk
    simp [this]
theorem vSet_ag {s : VS} {n k : Nat} {m : Mb} (h : VOk n s) (hk : k < n) (j : Nat) : ga (vSet s k m) j = if j = k ∧ ¬ mEq (gm s k) m then 0 else ga s j := by
  unfold vSet
  split
  · rename_i he; rw [if_neg (fun x => x.2 he)]
  · rename_i he
    unfold ga
    rw [getD_set]
    have : k < s.ag.length := by rw [h.ag]; exact hk
    simp [this, he]
theorem vSet_op (s : VS) (k : Nat) (m : Mb) : (vSet s k m).op = s.op := by unfold vSet; split <;> rfl
theorem vT1_op (z : Bool) (s : VS) (k : Nat) : (vT1 z s k).op = s.op := by unfold vT1; split <;> (try split) <;> rfl
theorem vJ1_op (s : VS) (k : Nat) (m : Mb) : (vJ1 s k m).op = s.op := by unfold vJ1; split; exact vSet_op _ _ _; rfl
theorem vJ1_me (s : VS) (k : Nat) (m : Mb) : (vJ1 s k m).me = s.me := by unfold vJ1; split; exact vSet_me _ _ _; rfl

/-- The view and its reference hold the same. -/
structure Rel (n : Nat) (s t : VS) : Prop where
  sok : VOk n s
  tok : VOk n t
  me : s.me = t.me
  l : s.l = t.l
  op : s.op = t.op
  ag : ∀ k, k < n → (gm s k).1 = 1 → ga s k = ga t k
  own : go s s.me = 0
theorem Rel.gm {n : Nat} {s t : VS} (h : Rel n s t) (k : Nat) : gm s k = gm t k := by unfold Sl.gm; rw [h.l]
theorem Rel.go {n : Nat} {s t : VS} (h : Rel n s t) (k : Nat) : go s k = go t k := by unfold Sl.go; rw [h.op]
theorem Rel.inV {n : Nat} {s t : VS} (h : Rel n s t) (k : Int) : inV s k ↔ inV t k := by unfold Sl.inV; rw [h.l]
theorem Rel.oth {n : Nat} {s t : VS} (h : Rel n s t) (k st : Int) : oth s k st ↔ oth t k st := by unfold Sl.oth; rw [h.inV, h.me, h.gm]
theorem Rel.now {n : Nat} {s t : VS} (h : Rel n s t) (k : Nat) (m : Mb) : vNow s k m = vNow t k m := by unfold vNow; rw [h.me, h.gm]
theorem rel_set {n k : Nat} {s t : VS} (h : Rel n s t) (hk : k < n) (m : Mb) : Rel n (vSet s k m) (vSet t k m) where
  sok := vSet_ok h.sok
  tok := vSet_ok h.tok
  me := by rw [vSet_me, vSet_me, h.me]
  l := gm_ext (vSet_ok h.sok) (vSet_ok h.tok) fun j _ => by rw [vSet_gm h.sok hk, vSet_gm h.tok hk, h.gm]
  op := by rw [vSet_op, vSet_op, h.op]
  ag := fun j hj hs => by
    rw [vSet_gm h.sok hk] at hs
    rw [vSet_ag h.sok hk, vSet_ag h.tok hk, ← h.gm]
    split
    · rfl
    · rename_i hn
      by_cases hjk : j = k
      · subst hjk
        rw [if_pos rfl] at hs
        have he : mEq (gm s j) m := Classical.byContradiction fun x => hn ⟨rfl, x⟩
        exact h.ag j hj (he.1.trans hs)
      · rw [if_neg hjk] at hs; exact h.ag j hj hs
  own := by rw [show go (vSet s k m) (vSet s k m).me = go s s.me from by unfold go; rw [vSet_op, vSet_me]]; exact h.own
theorem rel_J1 {n k : Nat} {s t : VS} (h : Rel n s t) (m : Mb) : Rel n (vJ1 s k m) (vJ1 t k m) ∧ vC1 s k m = vC1 t k m := by
  have hj : vJok s k m ↔ vJok t k m := by unfold vJok; rw [h.l]
  unfold vJ1 vC1
  by_cases hs : vJok s k m
  · have hk : k < n := by have := hs.1; rw [h.sok.l] at this; exact this
    rw [if_pos hs, if_pos (hj.1 hs), ← h.now, ← h.gm]
    refine ⟨rel_set h hk _, ?_⟩
    simp [hs, hj.1 hs]
  · rw [if_neg hs, if_neg (fun x => hs (hj.2 x))]
    refine ⟨h, ?_⟩
    simp [hs, show ¬ vJok t k m from fun x => hs (hj.2 x)]
theorem rel_joinI {n : Nat} : ∀ (L : List Mb) (k : Nat) (c : Bool) {s t : VS}, Rel n s t → (vJoinI L k c s).1 = (vJoinI L k c t).1 ∧ Rel n (vJoinI L k c s).2 (vJoinI L k c t).2
  | [], _, _, _, _, h => ⟨rfl, h⟩
  | m :: r, k, c, s, t, h => by
    obtain ⟨h1, h2⟩ := rel_J1 (k := k) h m
    simp only [vJoinI]
    rw [h2]
    exact rel_joinI r (k + 1) _ h1
theorem rel_join {n : Nat} {s t : VS} (h : Rel n s t) (L : List Mb) : (vJoin s L).1 = (vJoin t L).1 ∧ Rel n (vJoin s L).2 (vJoin t L).2 := rel_joinI L 0 false h
theorem rel_sus {n : Nat} {s t : VS} (h : Rel n s t) (k : Int) : Rel n (vSus s k) (vSus t k) := by
  unfold vSus
  by_cases hs : oth s k 0
  · rw [if_pos hs, if_pos ((h.oth k 0).1 hs), h.gm]
    have := hs.1
    unfold Sl.inV at this
    rw [h.sok.l] at this
    exact rel_set h (by omega) _
  · rw [if_neg hs, if_neg (fun x => hs ((h.oth k 0).2 x))]; exact h
theorem oth_lt {s : VS} {n k : Nat} {st : Int} (h : VOk n s) (ho : oth s k st) : k < n := by
  have := ho.1; unfold Sl.inV at this; rw [h.l] at this; omega
theorem rel_T1 {n k : Nat} {s t : VS} (h : Rel n s t) : Rel n (vT1 true s k) (vT1 false t k) ∧ vD1 s k = vD1 t k := by
  by_cases hs : oth s k 1
  · have ht := (h.oth k 1).1 hs
    have hk := oth_lt h.sok hs
    have hst : (Sl.gm s k).1 = 1 := hs.2.2
    have hag := h.ag k hk hst
    have hla : k < s.ag.length := by rw [h.sok.ag]; exact hk
    have hlb : k < t.ag.length := by rw [h.tok.ag]; exact hk
    have hll : k < s.l.length := by rw [h.sok.l]; exact hk
    by_cases h6 : w1 (ga s k) ≥ 6
    · have h6' : w1 (ga t k) ≥ 6 := by rw [← hag]; exact h6
      obtain ⟨e1, e2⟩ := vT1_dead (z := true) hs h6
      obtain ⟨e3, e4⟩ := vT1_dead (z := false) ht h6'
      have o1 := vT1_ok (z := true) (k := k) h.sok
      have o2 := vT1_ok (z := false) (k := k) h.tok
      rw [e1] at o1 ⊢
      rw [e3] at o2 ⊢
      refine ⟨⟨o1, o2, h.me, by simp only []; rw [h.l, h.gm], h.op, fun j hj hjs => ?_, h.own⟩, by rw [e2, e4]⟩
      unfold Sl.gm at hjs
      simp only [getD_set] at hjs
      by_cases hjk : j = k
      · subst hjk; simp [hll] at hjs
      · rw [if_neg (fun x => hjk x.1)] at hjs
        unfold ga
        simp only [getD_set]
        rw [if_neg (fun x => hjk x.1), if_neg (fun x => hjk x.1)]
        exact h.ag j hj hjs
    · have h6' : ¬ w1 (ga t k) ≥ 6 := by rw [← hag]; exact h6
      obtain ⟨e1, e2⟩ := vT1_live (z := true) hs h6
      obtain ⟨e3, e4⟩ := vT1_live (z := false) ht h6'
      have o1 := vT1_ok (z := true) (k := k) h.sok
      have o2 := vT1_ok (z := false) (k := k) h.tok
      rw [e1] at o1 ⊢
      rw [e3] at o2 ⊢
      refine ⟨⟨o1, o2, h.me, h.l, h.op, fun j hj hjs => ?_, h.own⟩, by rw [e2, e4]⟩
      have hjs' : (Sl.gm s j).1 = 1 := hjs
      unfold ga
      simp only [getD_set]
      by_cases hjk : j = k
      · subst hjk
        rw [if_pos ⟨rfl, hla⟩, if_pos ⟨rfl, hlb⟩]
        show w1 (ga s j) = w1 (ga t j)
        rw [hag]
      · rw [if_neg (fun x => hjk x.1), if_neg (fun x => hjk x.1)]
        exact h.ag j hj hjs'
  · have ht : ¬ oth t k 1 := fun x => hs ((h.oth k 1).2 x)
    obtain ⟨e1, e2⟩ := vT1_no (z := true) hs
    obtain ⟨e3, e4⟩ := vT1_no (z := false) ht
    rw [e1, e2, e3, e4]
    exact ⟨h, rfl⟩
theorem rel_tickI {n : Nat} : ∀ (r k c : Nat) {s t : VS}, Rel n s t → (vTickI true r k c s).1 = (vTickI false r k c t).1 ∧ Rel n (vTickI true r k c s).2 (vTickI false r k c t).2
  | 0, _, _, _, _, h => ⟨rfl, h⟩
  | r + 1, k, c, s, t, h => by
    obtain ⟨h1, h2⟩ := rel_T1 (k := k) h
    simp only [vTickI]
    rw [h2]
    exact rel_tickI r (k + 1) _ h1
theorem rel_tick {n : Nat} {s t : VS} (h : Rel n s t) : (vTick true s).1 = (vTick false t).1 ∧ Rel n (vTick true s).2 (vTick false t).2 := by
  unfold vTick; rw [h.l]; exact rel_tickI _ 0 0 h
theorem rel_ask {n : Nat} {s t : VS} (h : Rel n s t) (k : Int) : Rel n (vAsk s k) (vAsk t k) := by
  have o1 := vAsk_ok (k := k) h.sok
  have o2 := vAsk_ok (k := k) h.tok
  unfold vAsk at *
  by_cases hs : Sl.inV s k ∧ k ≠ s.me
  · have ht : Sl.inV t k ∧ k ≠ t.me := ⟨(h.inV k).1 hs.1, by rw [← h.me]; exact hs.2⟩
    rw [if_pos hs] at o1 ⊢
    rw [if_pos ht] at o2 ⊢
    refine ⟨o1, o2, h.me, h.l, by simp only []; rw [h.op, h.go], h.ag, ?_⟩
    unfold Sl.go
    simp only [getD_set]
    have h1 := hs.1
    unfold Sl.inV at h1
    rw [if_neg (by rintro ⟨h2, _⟩; exact hs.2 (by omega))]
    exact h.own
  · rw [if_neg hs, if_neg (fun x => hs ⟨(h.inV k).2 x.1, by rw [h.me]; exact x.2⟩)]; exact h
theorem rel_hear {n : Nat} {s t : VS} (h : Rel n s t) (k : Int) : Rel n (vHear s k) (rHear t k) := by
  have o1 := vHear_ok (k := k) h.sok
  have o2 := rHear_ok (k := k) h.tok
  unfold vHear rHear at *
  by_cases hs : Sl.inV s k
  · have ht := (h.inV k).1 hs
    rw [if_pos hs] at o1 ⊢
    have hop : ∀ j : Nat, (s.op.set k.toNat 0).getD j 0 = if j = k.toNat then 0 else Sl.go s j := fun j => by
      rw [getD_set]
      have h1 := hs
      unfold Sl.inV at h1
      have hlt : k.toNat < s.op.length := by rw [h.sok.op]; rw [h.sok.l] at h1; omega
      simp only [hlt, and_true]
      rfl
    by_cases hm : k = t.me
    · rw [if_neg (fun x => x.2 hm)] at o2 ⊢
      have hkm : k.toNat = s.me := by rw [h.me]; omega
      refine ⟨o1, o2, h.me, h.l, ?_, h.ag, ?_⟩
      · show s.op.set k.toNat 0 = t.op
        rw [← h.op]
        have h0 : Sl.go s s.me = 0 := h.own
        rw [hkm]
        have hlt : s.me < s.op.length := by rw [h.sok.op]; exact h.sok.me
        have h1 := go_get h.sok h.sok.me
        rw [h0] at h1
        obtain ⟨_, h2⟩ := List.getElem?_eq_some_iff.1 h1
        conv => lhs; rw [← h2]
        exact List.set_getElem_self _
      · show (s.op.set k.toNat 0).getD s.me 0 = 0
        rw [hop, if_pos hkm.symm]
    · rw [if_pos ⟨ht, hm⟩] at o2 ⊢
      refine ⟨o1, o2, h.me, h.l, by simp only []; rw [h.op], h.ag, ?_⟩
      show (s.op.set k.toNat 0).getD s.me 0 = 0
      rw [hop]
      split
      · rfl
      · exact h.own
  · rw [if_neg hs, if_neg (fun x => hs ((h.inV k).2 x.1))]; exact h
theorem rel_miss {n : Nat} {s t : VS} (h : Rel n s t) (k : Int) : vMiss s k = rMiss t k := by
  unfold vMiss rMiss
  by_cases hs : Sl.inV s k
  · rw [if_pos hs]
    by_cases hm : k = t.me
    · rw [if_neg (fun x => x.2 hm), show k.toNat = s.me from by rw [h.me]; omega]; exact h.own
    · rw [if_pos ⟨(h.inV k).1 hs, hm⟩, h.go]
  · rw [if_neg hs, if_neg (fun x => hs ((h.inV k).2 x.1))]
theorem rel_state {n : Nat} {s t : VS} (h : Rel n s t) (k : Int) : vState s k = vState t k := by
  unfold vState
  by_cases hs : Sl.inV s k
  · rw [if_pos hs, if_pos ((h.inV k).1 hs), h.gm]
  · rw [if_neg hs, if_neg (fun x => hs ((h.inV k).2 x))]
theorem rel_new {n me : Nat} (hm : me < n) (h8 : n ≤ 8) : Rel n (vNew n me) (vNew n me) := ⟨vNew_ok hm h8, vNew_ok hm h8, rfl, rfl, rfl, fun _ _ _ => rfl, by simp [go, vNew, List.getD_eq_getElem?_getD, List.getElem?_replicate, hm]⟩
/-- A call: what to do, which node, members told. -/
abbrev VCall := Int × Int × Sli Mb × Unit
def vcC (x : VCall) : List Value := [.int .i64 x.1, .int .i64 x.2.1, .slice x.2.2.1.1 x.2.2.1.2.2.length x.2.2.1.2.1]
theorem vcC_len (x : VCall) : (vcC x).length = 3 := rfl
abbrev vcL (x : VCall) : List Mb := x.2.2.1.2.2
structure VcOk (W : World) (R : List HP) (x : VCall) : Prop where
  len : x.2.2.1.2.2.length ≤ 140737488351232
  view : ∀ w, Sat W R w → SlAt w x.2.2.1.1 x.2.2.1.2.2.length 2 (x.2.2.1.2.2.flatMap memC)
theorem VcOk.of {W : World} {P : Program} {e : TypeId} {by' : Nat} {o : Mb → Prop} {x : VCall} (hb : 0 < by') (h : (-9223372036854775808 ≤ x.1 ∧ x.1 ≤ 9223372036854775807) ∧ (-9223372036854775808 ≤ x.2.1 ∧ x.2.1 ≤ 9223372036854775807) ∧
    Sli.ok P W e 2 by' memC o x.2.2.1 ∧ True) : VcOk W [Old W] x := by
  obtain ⟨_, h3, ⟨s1, s2, s3, s4, s5, s6⟩, _⟩ := h
  refine ⟨?_, fun w h => h.slOfOld .head s1⟩
  have : x.2.2.1.2.1 * 1 ≤ x.2.2.1.2.1 * by' := Nat.mul_le_mul_left _ hb
  omega
theorem VcOk.sub {W : World} {R R' : List HP} {x : VCall} (h : VcOk W R x) (f : ∀ w, Sat W R' w → Sat W R w) : VcOk W R' x := ⟨h.len, fun w hw => h.view w (f w hw)⟩
def doS (x : VCall) (s : VS) : VS := if x.1 = 0 then (if 20 < (vcL x).length then s else (vJoin s (vcL x)).2) else if x.1 = 1 then vSus s x.2.1 else if x.1 = 2 then (vTick true s).2 else if x.1 = 3 then vAsk s x.2.1 else vHear s x.2.1
def doT (x : VCall) (s : VS) : VS := if x.1 = 0 then (if 20 < (vcL x).length then s else (vJoin s (vcL x)).2) else if x.1 = 1 then vSus s x.2.1 else if x.1 = 2 then (vTick false s).2 else if x.1 = 3 then vAsk s x.2.1 else rHear s x.2.1
theorem rel_do {n : Nat} {s t : VS} (h : Rel n s t) (x : VCall) : Rel n (doS x s) (doT x t) := by
  unfold doS doT
  split
  · split
    · exact h
    · exact (rel_join h _).2
  · split
    · exact rel_sus h _
    · split
      · exact (rel_tick h).2
      · split
        · exact rel_ask h _
        · exact rel_hear h _
def vTicks (s : VS) : Nat → VS
  | 0 => s
  | k + 1 => (vTick true (vTicks s k)).2
theorem vTicks_ok {n : Nat} {s : VS} (h : VOk n s) : ∀ k, VOk n (vTicks s k)
  | 0 => h
  | k + 1 => vTick_ok (vTicks_ok h k)
theorem doS_ok {n : Nat} {s : VS} (h : VOk n s) (x : VCall) : VOk n (doS x s) := by
  unfold doS
  split
  · split
    · exact h
    · exact vJoin_ok h
  · split
    · exact vSus_ok h
    · split
      · exact vTick_ok h
      · split
        · exact vAsk_ok h
        · exact vHear_ok h
theorem awake_view : vTicks (vSus (vNew 3 0) 1) 6 = ⟨0, [(0, 0, ()), (2, 0, ()), (0, 0, ())], [0, 0, 0], [0, 0, 0]⟩ := by rfl
theorem awake_oth : oth (vNew 3 0) 1 0 := ⟨⟨by decide, by decide⟩, by decide, rfl⟩
end Go.Sl
