/-
  The pieces of memory, and one rule for each kind of operation that reads, that writes, that calls.
  Conditions: none; it speaks of every program of the model.
-/
import Derived.Test.YtcflbdpjoanbgaaGreatSl1
import Derived.Deep.LoopGhost
namespace Go.Sl
open Go
set_option linter.unusedSimpArgs false
set_option linter.unusedVariables false
set_option linter.unnecessarySimpa false

/-! ### Pieces -/
/-- Block b: a row of these cells, none of them frozen. -/
def Blk (b : Nat) (cs : List Value) (T : TypeId) : HP := fun m => ∃ fr : Nat × Nat, m b = some (.cells cs.toArray T fr) ∧ ∀ i, i < cs.length → ¬ (fr.1 ≤ i ∧ i < fr.2)
/-- All the memory of W. -/
def Old (W : World) : HP := fun m => ∀ b o, W.heap[b]? = some o → m b = some o

theorem Sat.blk {W w : World} {l l' : List HP} {b : Nat} {cs : List Value} {T : TypeId} (h : Sat W l w) (s : Sel (Blk b cs T) l l') :
    ∃ fr : Nat × Nat, w.heap[b]? = some (.cells cs.toArray T fr) ∧ ∀ i, i < cs.length → ¬ (fr.1 ≤ i ∧ i < fr.2) := by
  obtain ⟨_, _, ⟨fr, h1, h2⟩, _, _, hs, _⟩ := (h.sel s).has
  exact ⟨fr, hs _ _ h1, h2⟩

theorem Sat.cell {W w : World} {l l' : List HP} {b : Nat} {cs : List Value} {T : TypeId} (h : Sat W l w) (s : Sel (Blk b cs T) l l') {i : Nat} {v : Value} (hc : cs[i]? = some v) :
    w.cell? ⟨b, i, none⟩ = some v := by
  obtain ⟨fr, h1, _⟩ := h.blk s
  simp [World.cell?, h1, hc]

theorem Sat.cellAdd {W w : World} {l l' : List HP} {b : Nat} {cs : List Value} {T : TypeId} (h : Sat W l w) (s : Sel (Blk b cs T) l l') {j i : Nat} {v : Value} (hc : cs[j + i]? = some v) :
    w.cell? ((⟨b, j, none⟩ : Addr).add i) = some v := by
  have e : (⟨b, j, none⟩ : Addr).add i = ⟨b, j + i, none⟩ := by
    unfold Addr.add; split
    · rename_i h0; subst h0; simp
    · rfl
  rw [e]; exact h.cell s hc

theorem Sat.old {W W' w : World} {l l' : List HP} (h : Sat W l w) (s : Sel (Old W') l l') {b : Nat} {o : Obj} (hb : W'.heap[b]? = some o) : w.heap[b]? = some o := by
  obtain ⟨_, _, h1, _, _, hs, _⟩ := (h.sel s).has
  exact hs _ _ (h1 _ _ hb)

theorem Sat.oldCell {W W' w : World} {l l' : List HP} (h : Sat W l w) (s : Sel (Old W') l l') {a : Addr} {v : Value} (hc : W'.cell? a = some v) : w.cell? a = some v := by
  unfold World.cell? at hc ⊢
  split at hc
  · rename_i c e f hb
    rw [h.old s hb]
    exact hc
  · cases hc

theorem Sat.size {W W' w : World} {l l' : List HP} (h : Sat W l w) (s : Sel (Old W') l l') : W'.heap.size ≤ w.heap.size := by
  rcases Nat.eq_zero_or_pos W'.heap.size with e | e
  · omega
  · have hlt : W'.heap.size - 1 < W'.heap.size := by omega
    have h1 : W'.heap[W'.heap.size - 1]? = some W'.heap[W'.heap.size - 1] := by simp
    have h2 := h.old s h1
    have := (Array.getElem?_eq_some_iff.1 h2).1
    omega

open Go.RowKit in
theorem Sat.below {W w : World} {l l' : List HP} (h : Sat W l w) (s : Sel (Old W) l l') : Below W.heap.size W w := by
  refine ⟨h.os, h.tape, h.output, h.size s, fun k hk => ?_⟩
  have h1 : W.heap[k]? = some W.heap[k] := by simp [hk]
  rw [h1]
  exact h.old s h1

theorem Sat.start (W : World) : Sat W [Old W] W :=
  ⟨rfl, rfl, rfl, fun b => W.heap[b]?, fun _ => none, fun _ _ h => h, trivial, fun _ => .inr rfl, fun _ _ h => h, fun _ _ h => by simp at h⟩

/-- A world that keeps all the old memory keeps what is known. -/
theorem Sat.grow {W w w' : World} {l : List HP} (h : Sat W l w) (ho : w'.os = w.os) (ht : w'.tape = w.tape) (hu : w'.output = w.output) (hk : ∀ (b : Nat) (o : Obj), w.heap[b]? = some o → w'.heap[b]? = some o) : Sat W l w' :=
  ⟨ho.trans h.os, ht.trans h.tape, hu.trans h.output, h.has.mono hk⟩

open Go.RowKit in
theorem Sat.ofBelow {W w w' : World} {l : List HP} (h : Sat W l w) (hb : Below w.heap.size w w') : Sat W l w' :=
  h.grow hb.os hb.tape hb.output fun b o e => by
    have hlt := (Array.getElem?_eq_some_iff.1 e).1
    rw [hb.block b hlt]; exact e

theorem Sat.blkNew {W w : World} {l : List HP} (h : Sat W l w) (cs : Array Value) (vs : List Value) (hc : cs = vs.toArray) (T : TypeId) : Sat W (Blk w.heap.size vs T :: l) (w.alloc (.cells cs T)) :=
  h.alloc fun m h1 _ => ⟨(0, 0), by rw [h1, hc], fun i _ h => by simp at h⟩

theorem frozen_false {b i lo hi : Nat} {w : World} {c : Array Value} {T : TypeId} (h1 : w.heap[b]? = some (.cells c T (lo, hi))) (h2 : ¬ (lo ≤ i ∧ i < hi)) : w.frozen? ⟨b, i, none⟩ = false := by
  simp only [World.frozen?, h1, Bool.and_eq_false_iff, decide_eq_false_iff_not]
  omega

theorem Sat.frozen {W w : World} {l l' : List HP} {b : Nat} {cs : List Value} {T : TypeId} (h : Sat W l w) (s : Sel (Blk b cs T) l l') {i : Nat} (hi : i < cs.length) : w.frozen? ⟨b, i, none⟩ = false := by
  obtain ⟨fr, h1, h2⟩ := h.blk s
  exact frozen_false h1 (h2 i hi)

theorem heap_setCell_at (w : World) (b i : Nat) (v : Value) (x : Nat) : (w.setCell ⟨b, i, none⟩ v).heap[x]? =
    if b = x then (w.heap[x]?).map (fun | .cells c e f => .cells (c.setIfInBounds i v) e f | o => o) else w.heap[x]? := by
  simp only [World.setCell, Array.getElem?_modify]
  split
  · congr 1
  · rfl

theorem Sat.set {W w : World} {l : List HP} {b : Nat} {cs : List Value} {T : TypeId} (h : Sat W (Blk b cs T :: l) w) (i : Nat) (v : Value) :
    Sat W (Blk b (cs.set i v) T :: l) (w.setCell ⟨b, i, none⟩ v) := by
  refine h.write rfl rfl rfl ?_
  intro m ⟨fr, h1, h2⟩ hm
  refine ⟨fun x => if x = b then some (.cells (cs.set i v).toArray T fr) else none, ⟨fr, by simp, by simpa using h2⟩, ?_, ?_, ?_⟩
  · intro x o hx
    by_cases e : x = b
    · subst e
      simp at hx
      subst hx
      rw [heap_setCell_at, if_pos rfl, hm _ _ h1]
      simp
    · simp [e] at hx
  · intro x hx
    by_cases e : x = b
    · subst e; rw [h1] at hx; cases hx
    · left; rw [heap_setCell_at, if_neg (Ne.symm e)]
  · intro x hx
    by_cases e : x = b
    · subst e; rw [h1] at hx; cases hx
    · left; simp [e]

/-- cs with vs stored from place j on. -/
inductive Put : List Value → Nat → List Value → List Value → Prop
  | nil {cs : List Value} : Put cs 0 [] cs
  | cons {c v : Value} {cs vs cs' : List Value} : Put cs 0 vs cs' → Put (c :: cs) 0 (v :: vs) (v :: cs')
  | succ {c : Value} {cs vs cs' : List Value} {j : Nat} : Put cs j vs cs' → Put (c :: cs) (j + 1) vs (c :: cs')
/-- The s cells of cs from place j on are vs. -/
inductive Seg : List Value → Nat → Nat → List Value → Prop
  | nil {cs : List Value} : Seg cs 0 0 []
  | cons {v : Value} {cs vs : List Value} {s : Nat} : Seg cs 0 s vs → Seg (v :: cs) 0 (s + 1) (v :: vs)
  | succ {c : Value} {cs vs : List Value} {j s : Nat} : Seg cs j s vs → Seg (c :: cs) (j + 1) s vs

theorem Seg.length {cs vs : List Value} {j s : Nat} (h : Seg cs j s vs) : vs.length = s := by induction h <;> simp_all
theorem Seg.get {cs vs : List Value} {j s : Nat} (h : Seg cs j s vs) : ∀ i v, vs[i]? = some v → cs[j + i]? = some v := by
  induction h with
  | nil => intro i v h; simp at h
  | cons _ ih => intro i v h; cases i with
    | zero => simpa using h
    | succ i => simpa [Nat.add_comm, Nat.add_left_comm] using ih i v (by simpa using h)
  | succ _ ih => intro i v h; have := ih i v h; rw [show ∀ j : Nat, j + 1 + i = (j + i) + 1 from fun j => by omega]; simpa using this

theorem Put.out {cs vs cs' : List Value} {j : Nat} (h : Put cs j vs cs') : j + vs.length ≤ cs.length ∧ cs' = cs.take j ++ vs ++ cs.drop (j + vs.length) := by
  induction h with
  | nil => simp
  | cons _ ih => obtain ⟨h1, h2⟩ := ih; subst h2; constructor <;> simp at * <;> omega
  | succ _ ih => obtain ⟨h1, h2⟩ := ih; subst h2; refine ⟨by simp; omega, ?_⟩; simp [Nat.add_right_comm]

theorem set_take_drop (cs vs : List Value) (v : Value) (j : Nat) (h : j < cs.length) : (cs.set j v).take (j + 1) ++ vs ++ (cs.set j v).drop (j + 1 + vs.length) = cs.take j ++ (v :: vs) ++ cs.drop (j + (v :: vs).length) := by
  rw [List.take_set, List.drop_set]
  simp only [show j < j + 1 + vs.length from by omega, if_true, List.length_cons]
  rw [show j + (vs.length + 1) = j + 1 + vs.length from by omega]
  congr 1
  rw [List.take_succ_eq_append_getElem h, List.set_append]
  simp [List.length_take, Nat.min_eq_left (Nat.le_of_lt h)]

/-- vs stored cell by cell into the head piece. -/
theorem Sat.store {P : Program} {W : World} {l : List HP} {b : Nat} {T : TypeId} : ∀ (vs : List Value) (cs : List Value) (i j : Nat) (w : World), Sat W (Blk b cs T :: l) w → j + i + vs.length ≤ cs.length → (∀ v ∈ vs, v.oneCell' = true) →
    ∃ w', (storeCells ⟨b, j, none⟩ vs i).run P w = .ok () w' ∧ Sat W (Blk b (cs.take (j + i) ++ vs ++ cs.drop (j + i + vs.length)) T :: l) w'
  | [], cs, i, j, w, h, _, _ => ⟨w, by simp [storeCells], by simpa using h⟩
  | v :: vs, cs, i, j, w, h, hl, h1 => by
    have hlt : j + i < cs.length := by simp at hl; omega
    have hc : w.cell? ⟨b, j + i, none⟩ = some cs[j + i] := h.cell .head (by simp [hlt])
    have hf : w.frozen? ⟨b, j + i, none⟩ = false := h.frozen .head hlt
    have e : (⟨b, j, none⟩ : Addr).add i = ⟨b, j + i, none⟩ := by
      unfold Addr.add; split
      · rename_i h0; subst h0; simp
      · rfl
    obtain ⟨w', hr, hs⟩ := Sat.store (P := P) vs (cs.set (j + i) v) (i + 1) j (w.setCell ⟨b, j + i, none⟩ v) (h.set (j + i) v) (by simp at hl ⊢; omega) (fun u hu => h1 u (by simp [hu]))
    refine ⟨w', ?_, ?_⟩
    · have hv := h1 v (by simp)
      simp only [storeCells, e]
      rw [← hr]
      cases v <;> simp_all [Value.oneCell', Sem.run_bind, Go.store, Sem.run, Result.andThen]
    · rw [show j + (i + 1) = j + i + 1 from by omega] at hs
      rw [set_take_drop cs vs v (j + i) hlt] at hs
      exact hs

end Go.Sl
