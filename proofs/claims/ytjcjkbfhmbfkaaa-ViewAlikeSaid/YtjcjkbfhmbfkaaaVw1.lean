/-
  The plain law of package view: members, ages, open questions.
  Conditions: none; it speaks of every program of the model.
-/
import Derived.Test.YtjcjkbfhmbfkaaaRs1
namespace Go.Sl
open Go
set_option linter.unusedSimpArgs false
set_option linter.unusedVariables false

def mayP (s i : Int) : Prop := 0 ≤ s ∧ s ≤ 2 ∧ 0 ≤ i ∧ i ≤ 1099511627776
instance (s i : Int) : Decidable (mayP s i) := by unfold mayP; infer_instance
def joinS (s i t j : Int) : Int := if i > j ∨ (i = j ∧ s > t) then s else t
def joinI (s i t j : Int) : Int := if i > j ∨ (i = j ∧ s > t) then i else j
def leqP (s i t j : Int) : Prop := joinS s i t j = t ∧ joinI s i t j = j
instance (s i t j : Int) : Decidable (leqP s i t j) := by unfold leqP; infer_instance
def refP (s i t j : Int) : Prop := mayP t j ∧ ((t ≠ 0 ∧ j ≥ i ∧ j < 1099511627776) ∨ j > i)
instance (s i t j : Int) : Decidable (refP s i t j) := by unfold refP; infer_instance
def refS (s i t j : Int) : Int := if refP s i t j then 0 else s
def refI (s i t j : Int) : Int := if mayP t j then (if t ≠ 0 ∧ j ≥ i ∧ j < 1099511627776 then j + 1 else if j > i then j else i) else i
abbrev Mb := Int × Int × Unit
def memC (x : Mb) : List Value := [.int .i64 x.1, .int .i64 x.2.1]
theorem memC_len (x : Mb) : (memC x).length = 2 := rfl
theorem mem_one (L : List Mb) : (L.flatMap memC).all (·.oneCell') = true := by
  rw [List.all_eq_true]; intro v hv; obtain ⟨x, _, hx⟩ := List.mem_flatMap.1 hv
  simp [memC] at hx; rcases hx with rfl | rfl <;> rfl
abbrev mb0 : Mb := (0, 0, ())
theorem made_mem (n : Nat) : (madeCells (Value.agg #[.int .i64 0, .int .i64 0]).cells (n * 2)).toList = (List.replicate n mb0).flatMap memC := by
  apply List.ext_getElem
  · rw [flatMap_len memC_len]; simp [madeCells]
  · intro i h1 h2
    have hf : ((List.replicate n mb0).flatMap memC)[i]? = some (.int .i64 0) := by
      have hl : i < n * 2 := by simpa [madeCells] using h1
      clear h1 h2
      induction n generalizing i with
      | zero => omega
      | succ n ih =>
        rw [List.replicate_succ, List.flatMap_cons]
        by_cases hi : i < 2
        · rw [List.getElem?_append_left (by simpa [memC] using hi)]
          match i, hi with
          | 0, _ => rfl
          | 1, _ => rfl
        · rw [List.getElem?_append_right (by simp [memC]; omega)]
          exact ih _ (by simp [memC]; omega)
    have h3 := (List.getElem?_eq_some_iff.1 hf).2
    rw [h3]
    simp only [madeCells, Value.cells, Array.toList_map, List.getElem_map]
    simp
    have : i % 2 < 2 := Nat.mod_lt _ (by omega)
    match h : i % 2, this with
    | 0, _ => rfl
    | 1, _ => rfl

/-- What a view holds. -/
structure VS where
  me : Nat
  l : List Mb
  ag : List Int
  op : List Int
structure VOk (n : Nat) (s : VS) : Prop where
  l : s.l.length = n
  ag : s.ag.length = n
  op : s.op.length = n
  me : s.me < n
  n8 : n ≤ 8
def vNew (n me : Nat) : VS := ⟨me, List.replicate n mb0, List.replicate n 0, List.replicate n 0⟩
theorem vNew_ok {n me : Nat} (h : me < n) (h8 : n ≤ 8) : VOk n (vNew n me) := ⟨by simp [vNew], by simp [vNew], by simp [vNew], h, h8⟩
def gm (s : VS) (k : Nat) : Mb := s.l.getD k mb0
def ga (s : VS) (k : Nat) : Int := s.ag.getD k 0
def go (s : VS) (k : Nat) : Int := s.op.getD k 0
theorem gm_get {s : VS} {n k : Nat} (h : VOk n s) (hk : k < n) : s.l[k]? = some (gm s k) := by unfold gm; rw [List.getD_eq_getElem?_getD, List.getElem?_eq_getElem (by rw [h.l]; exact hk)]; rfl
theorem ga_get {s : VS} {n k : Nat} (h : VOk n s) (hk : k < n) : s.ag[k]? = some (ga s k) := by unfold ga; rw [List.getD_eq_getElem?_getD, List.getElem?_eq_getElem (by rw [h.ag]; exact hk)]; rfl
theorem go_get {s : VS} {n k : Nat} (h : VOk n s) (hk : k < n) : s.op[k]? = some (go s k) := by unfold go; rw [List.getD_eq_getElem?_getD, List.getElem?_eq_getElem (by rw [h.op]; exact hk)]; rfl
def inV (s : VS) (k : Int) : Prop := 0 ≤ k ∧ k < s.l.length
instance (s : VS) (k : Int) : Decidable (inV s k) := by unfold inV; infer_instance
def vState (s : VS) (k : Int) : Int := if inV s k then (gm s k.toNat).1 else 2
def mEq (x y : Mb) : Prop := x.1 = y.1 ∧ x.2.1 = y.2.1
instance (x y : Mb) : Decidable (mEq x y) := by unfold mEq; infer_instance
def vSet (s : VS) (k : Nat) (m : Mb) : VS := if mEq (gm s k) m then s else ⟨s.me, s.l.set k m, s.ag.set k 0, s.op⟩
theorem vSet_ok {s : VS} {n k : Nat} {m : Mb} (h : VOk n s) : VOk n (vSet s k m) := by
  unfold vSet; split
  · exact h
  · exact ⟨by simp [h.l], by simp [h.ag], h.op, h.me, h.n8⟩
def vNow (s : VS) (k : Nat) (m : Mb) : Mb := if k = s.me then (refS (gm s k).1 (gm s k).2.1 m.1 m.2.1, refI (gm s k).1 (gm s k).2.1 m.1 m.2.1, ()) else (joinS (gm s k).1 (gm s k).2.1 m.1 m.2.1, joinI (gm s k).1 (gm s k).2.1 m.1 m.2.1, ())
def vJok (s : VS) (k : Nat) (m : Mb) : Prop := k < s.l.length ∧ mayP m.1 m.2.1
instance (s : VS) (k : Nat) (m : Mb) : Decidable (vJok s k m) := by unfold vJok; infer_instance
def vJ1 (s : VS) (k : Nat) (m : Mb) : VS := if vJok s k m then vSet s k (vNow s k m) else s
def vC1 (s : VS) (k : Nat) (m : Mb) : Bool := decide (vJok s k m ∧ ¬ mEq (gm s k) (vNow s k m))
theorem vJ1_ok {s : VS} {n k : Nat} {m : Mb} (h : VOk n s) : VOk n (vJ1 s k m) := by
  unfold vJ1; split
  · exact vSet_ok h
  · exact h
def vJoinI : List Mb → Nat → Bool → VS → Bool × VS
  | [], _, c, s => (c, s)
  | m :: r, k, c, s => vJoinI r (k + 1) (c || vC1 s k m) (vJ1 s k m)
def vJoin (s : VS) (L : List Mb) : Bool × VS := vJoinI L 0 false s
theorem vJoinI_ok : ∀ (L : List Mb) (k : Nat) (c : Bool) {s : VS} {n : Nat}, VOk n s → VOk n (vJoinI L k c s).2
  | [], _, _, _, _, h => h
  | _ :: r, k, _, _, _, h => vJoinI_ok r (k + 1) _ (vJ1_ok h)
theorem vJoin_ok {s : VS} {n : Nat} {L : List Mb} (h : VOk n s) : VOk n (vJoin s L).2 := vJoinI_ok L 0 false h
theorem vJoinI_yes {m : Mb} {r : List Mb} {k : Nat} {c : Bool} {s : VS} (h : vJok s k m) : vJoinI (m :: r) k c s = vJoinI r (k + 1) (c || decide (¬ mEq (gm s k) (vNow s k m))) (vSet s k (vNow s k m)) := by
  simp [vJoinI, vC1, vJ1, h]
theorem vJoinI_no {m : Mb} {r : List Mb} {k : Nat} {c : Bool} {s : VS} (h : ¬ vJok s k m) : vJoinI (m :: r) k c s = vJoinI r (k + 1) c s := by
  simp [vJoinI, vC1, vJ1, h]
def oth (s : VS) (k : Int) (st : Int) : Prop := inV s k ∧ k ≠ s.me ∧ (gm s k.toNat).1 = st
instance (s : VS) (k st : Int) : Decidable (oth s k st) := by unfold oth; infer_instance
def vSus (s : VS) (k : Int) : VS := if oth s k 0 then vSet s k.toNat (1, (gm s k.toNat).2.1, ()) else s
theorem vSus_ok {s : VS} {n : Nat} {k : Int} (h : VOk n s) : VOk n (vSus s k) := by
  unfold vSus; split
  · exact vSet_ok h
  · exact h
def w1 (x : Int) : Int := IntKind.i64.wrap (x + 1)
/-- One node's part of a tick; z: is the age of what dies set to 0? -/
def vT1 (z : Bool) (s : VS) (k : Nat) : VS := if oth s k 1 then (if w1 (ga s k) ≥ 6 then ⟨s.me, s.l.set k (2, (gm s k).2.1, ()), s.ag.set k (if z then 0 else w1 (ga s k)), s.op⟩ else ⟨s.me, s.l, s.ag.set k (w1 (ga s k)), s.op⟩) else s
def vD1 (s : VS) (k : Nat) : Nat := if oth s k 1 ∧ w1 (ga s k) ≥ 6 then 1 else 0
theorem vT1_ok {z : Bool} {s : VS} {n k : Nat} (h : VOk n s) : VOk n (vT1 z s k) := by
  unfold vT1; split
  · split
    · exact ⟨by simp [h.l], by simp [h.ag], h.op, h.me, h.n8⟩
    · exact ⟨h.l, by simp [h.ag], h.op, h.me, h.n8⟩
  · exact h
def vTickI (z : Bool) : Nat → Nat → Nat → VS → Nat × VS
  | 0, _, c, s => (c, s)
  | r + 1, k, c, s => vTickI z r (k + 1) (c + vD1 s k) (vT1 z s k)
def vTick (z : Bool) (s : VS) : Nat × VS := vTickI z s.l.length 0 0 s
theorem vTickI_ok (z : Bool) : ∀ (r k c : Nat) {s : VS} {n : Nat}, VOk n s → VOk n (vTickI z r k c s).2
  | 0, _, _, _, _, h => h
  | r + 1, k, _, _, _, h => vTickI_ok z r (k + 1) _ (vT1_ok h)
theorem vTick_ok {z : Bool} {s : VS} {n : Nat} (h : VOk n s) : VOk n (vTick z s).2 := vTickI_ok z _ _ _ h
def vAsk (s : VS) (k : Int) : VS := if inV s k ∧ k ≠ s.me then ⟨s.me, s.l, s.ag, s.op.set k.toNat (w1 (go s k.toNat))⟩ else s
def vHear (s : VS) (k : Int) : VS := if inV s k then ⟨s.me, s.l, s.ag, s.op.set k.toNat 0⟩ else s
def rHear (s : VS) (k : Int) : VS := if inV s k ∧ k ≠ s.me then ⟨s.me, s.l, s.ag, s.op.set k.toNat 0⟩ else s
def vMiss (s : VS) (k : Int) : Int := if inV s k then go s k.toNat else 0
def rMiss (s : VS) (k : Int) : Int := if inV s k ∧ k ≠ s.me then go s k.toNat else 0
theorem vAsk_ok {s : VS} {n : Nat} {k : Int} (h : VOk n s) : VOk n (vAsk s k) := by
  unfold vAsk; split
  · exact ⟨h.l, h.ag, by simp [h.op], h.me, h.n8⟩
  · exact h
theorem vHear_ok {s : VS} {n : Nat} {k : Int} (h : VOk n s) : VOk n (vHear s k) := by
  unfold vHear; split
  · exact ⟨h.l, h.ag, by simp [h.op], h.me, h.n8⟩
  · exact h
theorem rHear_ok {s : VS} {n : Nat} {k : Int} (h : VOk n s) : VOk n (rHear s k) := by
  unfold rHear; split
  · exact ⟨h.l, h.ag, by simp [h.op], h.me, h.n8⟩
  · exact h
theorem tick_step {z : Bool} {n k c : Nat} {u : VS} (h : k < n) : vTickI z (n - k) k c u = vTickI z (n - (k + 1)) (k + 1) (c + vD1 u k) (vT1 z u k) := by
  rw [show n - k = (n - (k + 1)) + 1 from by omega]; rfl
theorem tick_end {z : Bool} {n k c : Nat} {u : VS} (h : n ≤ k) : vTickI z (n - k) k c u = (c, u) := by rw [show n - k = 0 from by omega]; rfl
theorem vD1_le (u : VS) (k : Nat) : vD1 u k ≤ 1 := by unfold vD1; split <;> omega
theorem vT1_me (z : Bool) (u : VS) (k : Nat) : (vT1 z u k).me = u.me := by unfold vT1; split <;> (try split) <;> rfl
theorem vT1_frame (z : Bool) (u : VS) (k j : Nat) (h : j ≠ k) : (vT1 z u k).l[j]? = u.l[j]? := by
  unfold vT1; split
  · split
    · exact List.getElem?_set_ne (Ne.symm h)
    · rfl
  · rfl
theorem vT1_no {z : Bool} {u : VS} {k : Nat} (h : ¬ oth u k 1) : vT1 z u k = u ∧ vD1 u k = 0 := ⟨if_neg h, if_neg (fun x => h x.1)⟩
theorem vT1_live {z : Bool} {u : VS} {k : Nat} (h : oth u k 1) (h6 : ¬ w1 (ga u k) ≥ 6) : vT1 z u k = ⟨u.me, u.l, u.ag.set k (w1 (ga u k)), u.op⟩ ∧ vD1 u k = 0 := ⟨(if_pos h).trans (if_neg h6), if_neg (fun x => h6 x.2)⟩
theorem vT1_dead {z : Bool} {u : VS} {k : Nat} (h : oth u k 1) (h6 : w1 (ga u k) ≥ 6) : vT1 z u k = ⟨u.me, u.l.set k (2, (gm u k).2.1, ()), u.ag.set k (if z then 0 else w1 (ga u k)), u.op⟩ ∧ vD1 u k = 1 := ⟨(if_pos h).trans (if_pos h6), if_pos ⟨h, h6⟩⟩
theorem vSet_dead {u : VS} {k : Nat} (h : oth u k 1) (h6 : w1 (ga u k) ≥ 6) : vSet ⟨u.me, u.l, u.ag.set k (w1 (ga u k)), u.op⟩ k (2, (gm u k).2.1, ()) = vT1 true u k := by
  rw [(vT1_dead h h6).1]
  unfold vSet
  have h1 : (gm u k).1 = 1 := h.2.2
  rw [if_neg (by rintro ⟨h2, _⟩; have h3 : (gm u k).1 = 2 := h2; omega), List.set_set]
  rfl
theorem mEq_eq {x y : Mb} (h : mEq x y) : x = y := by obtain ⟨a, b, _⟩ := x; obtain ⟨c, d, _⟩ := y; obtain ⟨h1, h2⟩ := h; simp only at h1 h2; rw [h1, h2]
theorem set_same {s : VS} {n k : Nat} {m : Mb} (hok : VOk n s) (hk : k < n) (h : mEq (gm s k) m) : s.l.set k m = s.l := by
  rw [← mEq_eq h]
  have := gm_get hok hk
  obtain ⟨h1, h2⟩ := List.getElem?_eq_some_iff.1 this
  rw [← h2, List.set_getElem_self]
theorem join_drop {L : List Mb} {k : Nat} {c : Bool} {u : VS} {m : Mb} (h : L[k]? = some m) : vJoinI (L.drop k) k c u = vJoinI (L.drop (k + 1)) (k + 1) (c || vC1 u k m) (vJ1 u k m) := by rw [drop_at h]; rfl
theorem join_end {L : List Mb} {k : Nat} {c : Bool} {u : VS} (h : L.length ≤ k) : vJoinI (L.drop k) k c u = (c, u) := by rw [List.drop_of_length_le h]; rfl
theorem vJ_no {u : VS} {k : Nat} {m : Mb} (h : ¬ vJok u k m) : vJ1 u k m = u ∧ vC1 u k m = false := ⟨if_neg h, decide_eq_false (fun x => h x.1)⟩
theorem vJ_yes {u : VS} {k : Nat} {m : Mb} (h : vJok u k m) : vJ1 u k m = vSet u k (vNow u k m) ∧ vC1 u k m = decide (¬ mEq (gm u k) (vNow u k m)) := ⟨if_pos h, by unfold vC1; simp [h]⟩
theorem vSet_me (s : VS) (k : Nat) (m : Mb) : (vSet s k m).me = s.me := by unfold vSet; split <;> rfl
end Go.Sl
