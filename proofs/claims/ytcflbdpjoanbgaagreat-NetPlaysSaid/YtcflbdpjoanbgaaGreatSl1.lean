/-
  A small library of rules for walking through the code of a function: the frame as a list of slots (Fits), the memory as a list of pieces that do not overlap (Sat).
  Conditions: none; it speaks of every program of the model.
-/
import Derived.WalkKit
import Derived.OrdersHeld
namespace Go.Sl
open Go
set_option linter.unusedSimpArgs false
set_option linter.unusedVariables false
set_option linter.unnecessarySimpa false

/-! ### The frame -/
def lk : List (Nat × Value) → Nat → Option Value
  | [], _ => none
  | (k, v) :: r, t => bif Nat.beq k t then some v else lk r t

theorem nb_self (d : Nat) : Nat.beq d d = true := Nat.beq_refl d
theorem nb_ne {d t : Nat} (e : ¬ d = t) : Nat.beq d t = false := by
  cases hb : Nat.beq d t with
  | false => rfl
  | true => exact absurd (Nat.eq_of_beq_eq_true hb) e

structure Fits (n : Nat) (a : Act) (L : List (Nat × Value)) : Prop where
  size : a.tmps.size = n
  defers : a.defers = []
  get : ∀ t v, lk L t = some v → a.tmps.getD t undef = v

def ev (L : List (Nat × Value)) : Operand → Option Value
  | .tmp t => lk L t
  | .const v => some v
  | .global g => some (.pointer (some ⟨g, 0, none⟩))
  | .func f => some (.func (.func f) #[] #[])

theorem Fits.ev {n : Nat} {a : Act} {L : List (Nat × Value)} {x : Operand} {v : Value} (hf : Fits n a L) (h : ev L x = some v) : a.eval x = v := by
  cases x <;> first
    | exact hf.get _ _ h
    | simpa [Sl.ev, Act.eval] using h

theorem Fits.put {n d : Nat} {a : Act} {L : List (Nat × Value)} {v : Value} (hf : Fits n a L) (hd : Nat.blt d n = true) : Fits n (a.put (some d) v) ((d, v) :: L) := by
  have hd' : d < n := by simpa [Nat.blt_eq] using hd
  refine ⟨by simp [Act.put, hf.size], hf.defers, fun t u h => ?_⟩
  simp only [lk] at h
  by_cases e : d = t
  · subst e
    rw [nb_self] at h
    cases h
    simp [Act.put, Array.getD, hf.size, hd']
  · have e2 : Nat.beq d t = false := nb_ne e
    rw [e2] at h
    have := hf.get t u h
    show (a.tmps.setIfInBounds d v).getD t undef = u
    rw [Array.getD_eq_getD_getElem?] at this ⊢
    rw [Array.getElem?_setIfInBounds_ne e]
    exact this

theorem Fits.k0 {n : Nat} {a : Act} {L : List (Nat × Value)} (hf : Fits n a L) : Fits n a [] := ⟨hf.size, hf.defers, fun _ _ h => by simp [lk] at h⟩
theorem Fits.ka {n : Nat} {a : Act} {L K : List (Nat × Value)} (hk : Fits n a K) (hf : Fits n a L) (t : Nat) {v : Value} (h : lk L t = some v) : Fits n a ((t, v) :: K) := by
  refine ⟨hf.size, hf.defers, fun s u hs => ?_⟩
  simp only [lk] at hs
  by_cases e : t = s
  · subst e
    rw [nb_self] at hs
    cases hs
    exact hf.get t v h
  · have e2 : Nat.beq t s = false := nb_ne e
    rw [e2] at hs
    exact hk.get s u hs

def numbered : Nat → List Value → List (Nat × Value)
  | _, [] => []
  | k, v :: r => (k, v) :: numbered (k + 1) r

theorem lk_numbered : ∀ (vs : List Value) (k t : Nat) (v : Value), lk (numbered k vs) t = some v → k ≤ t ∧ vs[t - k]? = some v
  | [], k, t, v, h => by simp [numbered, lk] at h
  | u :: r, k, t, v, h => by
    simp only [numbered, lk] at h
    by_cases e : k = t
    · subst e; rw [nb_self] at h; cases h; simp
    · have e2 : Nat.beq k t = false := nb_ne e
      rw [e2] at h
      obtain ⟨h1, h2⟩ := lk_numbered r (k + 1) t v h
      refine ⟨by omega, ?_⟩
      rw [show t - k = (t - (k + 1)) + 1 from by omega]
      simpa using h2

theorem Fits.start (n : Nat) (vs : List Value) (h : Nat.ble vs.length n = true) : Fits n { tmps := vs.toArray ++ Array.replicate (n - vs.toArray.size) undef, defers := [] } (numbered 0 vs) := by
  have h' : vs.length ≤ n := Nat.le_of_ble_eq_true h
  refine ⟨by simp; omega, rfl, fun t v ht => ?_⟩
  obtain ⟨_, h2⟩ := lk_numbered vs 0 t v ht
  simp only [Nat.sub_zero] at h2
  have hlt : t < vs.length := (List.getElem?_eq_some_iff.1 h2).1
  show (vs.toArray ++ Array.replicate (n - vs.toArray.size) undef).getD t undef = v
  rw [Array.getD_eq_getD_getElem?, Array.getElem?_append_left (by simpa using hlt)]
  simp [h2]

def evs (L : List (Nat × Value)) : List Operand → Option (List Value)
  | [] => some []
  | x :: r => match ev L x, evs L r with
    | some v, some vs => some (v :: vs)
    | _, _ => none

theorem Fits.evs {n : Nat} {a : Act} {L : List (Nat × Value)} (hf : Fits n a L) : ∀ {xs : List Operand} {vs : List Value}, evs L xs = some vs → xs.map a.eval = vs
  | [], vs, h => by simp [Sl.evs] at h; simp [h]
  | x :: r, vs, h => by
    simp only [Sl.evs] at h
    split at h
    · rename_i v us h1 h2
      simp at h
      subst h
      simp [hf.ev h1, hf.evs h2]
    · simp at h

/-! ### The memory -/
abbrev PH := Nat → Option Obj
abbrev HP := PH → Prop

def Has : List HP → PH → Prop
  | [], _ => True
  | p :: l, h => ∃ h1 h2 : PH, p h1 ∧ Has l h2 ∧ (∀ b, h1 b = none ∨ h2 b = none) ∧ (∀ b o, h1 b = some o → h b = some o) ∧ (∀ b o, h2 b = some o → h b = some o)

theorem Has.mono : ∀ {l : List HP} {h h' : PH}, (∀ b o, h b = some o → h' b = some o) → Has l h → Has l h'
  | [], _, _, _, _ => trivial
  | _ :: _, _, _, hs, ⟨h1, h2, a, b, c, d, e⟩ => ⟨h1, h2, a, b, c, fun x o q => hs _ _ (d x o q), fun x o q => hs _ _ (e x o q)⟩

theorem Has.drop {p : HP} {l : List HP} {h : PH} : Has (p :: l) h → Has l h
  | ⟨_, _, _, b, _, _, e⟩ => b.mono e

def PH.or (h1 h2 : PH) : PH := fun b => (h1 b).or (h2 b)

theorem Has.swap {p q : HP} {l : List HP} {h : PH} : Has (p :: q :: l) h → Has (q :: p :: l) h
  | ⟨h1, h2, hp, ⟨g1, g2, hq, hl, dg, sg1, sg2⟩, d, s1, s2⟩ => by
    refine ⟨g1, PH.or h1 g2, hq, ⟨h1, g2, hp, hl, ?_, ?_, ?_⟩, ?_, ?_, ?_⟩
    · intro b
      rcases d b with e | e
      · exact .inl e
      · right
        cases hg : g2 b with
        | none => rfl
        | some o => rw [sg2 b o hg] at e; cases e
    · intro b o e; simp [PH.or, e]
    · intro b o e
      simp only [PH.or]
      rcases d b with e1 | e1
      · simp [e1, e]
      · rw [sg2 b o e] at e1; cases e1
    · intro b
      cases hg : g1 b with
      | none => exact .inl rfl
      | some o =>
        right
        simp only [PH.or]
        rcases d b with e1 | e1
        · rcases dg b with e2 | e2
          · rw [hg] at e2; cases e2
          · simp [e1, e2]
        · rw [sg1 b o hg] at e1; cases e1
    · intro b o e; exact s2 b o (sg1 b o e)
    · intro b o e
      simp only [PH.or] at e
      cases hh : h1 b with
      | some u => simp [hh] at e; subst e; exact s1 b u hh
      | none => simp [hh] at e; exact s2 b o (sg2 b o e)

theorem Has.tail {p : HP} {l l' : List HP} (f : ∀ h, Has l h → Has l' h) {h : PH} : Has (p :: l) h → Has (p :: l') h
  | ⟨h1, h2, a, b, c, d, e⟩ => ⟨h1, h2, a, f _ b, c, d, e⟩

theorem Has.head {p q : HP} {l : List HP} (f : ∀ h, p h → q h) {h : PH} : Has (p :: l) h → Has (q :: l) h
  | ⟨h1, h2, a, b, c, d, e⟩ => ⟨h1, h2, f _ a, b, c, d, e⟩

/-- p taken out of l leaves l'. -/
inductive Sel (p : HP) : List HP → List HP → Prop
  | head {l : List HP} : Sel p (p :: l) l
  | tail {q : HP} {l l' : List HP} : Sel p l l' → Sel p (q :: l) (q :: l')

theorem Sel.out {p : HP} {l l' : List HP} (s : Sel p l l') : ∀ h, Has l h → Has (p :: l') h := by
  induction s with
  | head => exact fun _ h => h
  | tail _ ih => exact fun _ h => Has.swap (Has.tail ih h)

theorem Sel.back {p : HP} {l l' : List HP} (s : Sel p l l') : ∀ h, Has (p :: l') h → Has l h := by
  induction s with
  | head => exact fun _ h => h
  | tail _ ih => exact fun _ h => Has.tail ih (Has.swap h)

/-- ps taken out of l, one after the other, leave l'. -/
inductive Sels : List HP → List HP → List HP → Prop
  | nil {l : List HP} : Sels [] l l
  | cons {p : HP} {ps l l' l'' : List HP} : Sel p l l' → Sels ps l' l'' → Sels (p :: ps) l l''

theorem Sels.out {ps l l' : List HP} (s : Sels ps l l') : ∀ h, Has l h → Has (ps ++ l') h := by
  induction s with
  | nil => exact fun _ h => h
  | cons s _ ih => exact fun _ h => Has.tail ih (s.out _ h)

/-- t is made of pieces of l. -/
inductive Sub : List HP → List HP → Prop
  | refl {l : List HP} : Sub l l
  | none {l : List HP} : Sub [] l
  | skip {t : List HP} {p : HP} {l : List HP} : Sub t l → Sub t (p :: l)
  | cons {q : HP} {t l l' : List HP} : Sel q l l' → Sub t l' → Sub (q :: t) l

theorem Sub.out {t l : List HP} (s : Sub t l) : ∀ h, Has l h → Has t h := by
  induction s with
  | refl => exact fun _ h => h
  | none => exact fun _ _ => trivial
  | skip _ ih => exact fun _ h => ih _ h.drop
  | cons s _ ih => exact fun _ h => Has.tail ih (s.out _ h)

/-- Several pieces as one. -/
def All (ps : List HP) : HP := fun h => Has ps h
theorem Has.all : ∀ {ps l : List HP} {h : PH}, Has (ps ++ l) h → Has (All ps :: l) h
  | [], l, h, hh => ⟨fun _ => Option.none, h, trivial, hh, fun _ => .inl rfl, fun _ _ e => by simp at e, fun _ _ e => e⟩
  | p :: ps, l, h, ⟨h1, h2, a, b, c, d, e⟩ => by
    obtain ⟨g1, g2, a', b', c', d', e'⟩ := Has.all (ps := ps) b
    refine ⟨PH.or h1 g1, g2, ⟨h1, g1, a, a', ?_, ?_, ?_⟩, b', ?_, ?_, ?_⟩
    · intro x
      rcases c x with q | q
      · exact .inl q
      · right
        cases hg : g1 x with
        | none => rfl
        | some o => rw [d' x o hg] at q; cases q
    · intro x o q; simp [PH.or, q]
    · intro x o q
      simp only [PH.or]
      rcases c x with r | r
      · simp [r, q]
      · rw [d' x o q] at r; cases r
    · intro x
      simp only [PH.or]
      rcases c' x with r | r
      · rcases c x with q | q
        · left; simp [r, q]
        · right
          cases hg : g2 x with
          | none => rfl
          | some o => rw [e' x o hg] at q; cases q
      · exact .inr r
    · intro x o q
      simp only [PH.or] at q
      cases hh : h1 x with
      | some u => simp [hh] at q; subst q; exact d x u hh
      | none => simp [hh] at q; exact e x o (d' x o q)
    · intro x o q; exact e x o (e' x o q)

theorem Has.unall : ∀ {ps l : List HP} {h : PH}, Has (All ps :: l) h → Has (ps ++ l) h
  | [], l, h, ⟨_, _, _, b, _, _, e⟩ => b.mono e
  | p :: ps, l, h, ⟨h1, h2, ⟨g1, g2, a, b, c, d, e⟩, b', c', d', e'⟩ => by
    refine ⟨g1, PH.or g2 h2, a, Has.unall (ps := ps) ⟨g2, h2, b, b', ?_, ?_, ?_⟩, ?_, ?_, ?_⟩
    · intro x
      rcases c' x with r | r
      · left
        cases hg : g2 x with
        | none => rfl
        | some o => rw [e x o hg] at r; cases r
      · exact .inr r
    · intro x o q; simp [PH.or, q]
    · intro x o q
      simp only [PH.or]
      rcases c' x with r | r
      · have : g2 x = Option.none := by
          cases hg : g2 x with
          | none => rfl
          | some o => rw [e x o hg] at r; cases r
        simp [this, q]
      · rw [r] at q; cases q
    · intro x
      rcases c x with r | r
      · exact .inl r
      · simp only [PH.or, r]
        rcases c' x with q | q
        · left
          cases hg : g1 x with
          | none => rfl
          | some o => rw [d x o hg] at q; cases q
        · right; simp [q]
    · intro x o q; exact d' x o (d x o q)
    · intro x o q
      simp only [PH.or] at q
      cases hh : g2 x with
      | some u => simp [hh] at q; subst q; exact d' x u (e x u hh)
      | none => simp [hh] at q; exact e' x o q

/-- There is such a piece. -/
def Ex {α : Type} (f : α → HP) : HP := fun h => ∃ x, f x h
/-- A piece of nothing, that says p. -/
def Fact (p : Prop) : HP := fun _ => p

theorem Has.ex {α : Type} {f : α → HP} {l : List HP} {h : PH} (x : α) (hh : Has (f x :: l) h) : Has (Ex f :: l) h := Has.head (fun _ q => ⟨x, q⟩) hh
theorem Has.unex {α : Type} {f : α → HP} {l : List HP} {h : PH} : Has (Ex f :: l) h → ∃ x, Has (f x :: l) h
  | ⟨h1, h2, ⟨x, a⟩, r⟩ => ⟨x, h1, h2, a, r⟩
theorem Has.fact {p : Prop} {l : List HP} {h : PH} (hp : p) (hh : Has l h) : Has (Fact p :: l) h := ⟨fun _ => Option.none, h, hp, hh, fun _ => .inl rfl, fun _ _ e => by simp at e, fun _ _ e => e⟩
theorem Has.unfact {p : Prop} {l : List HP} {h : PH} : Has (Fact p :: l) h → p
  | ⟨_, _, a, _⟩ => a

/-- The streams are as in W; the memory holds the pieces l. -/
structure Sat (W : World) (l : List HP) (w : World) : Prop where
  os : w.os = W.os
  tape : w.tape = W.tape
  output : w.output = W.output
  has : Has l (fun b => w.heap[b]?)

theorem Sat.imp {W w : World} {l l' : List HP} (h : Sat W l w) (f : ∀ m, Has l m → Has l' m) : Sat W l' w := ⟨h.os, h.tape, h.output, f _ h.has⟩
theorem Sat.sub {W w : World} {l l' : List HP} (h : Sat W l w) (s : Sub l' l) : Sat W l' w := h.imp s.out
theorem Sat.sels {W w : World} {ps l l' : List HP} (h : Sat W l w) (s : Sels ps l l') : Sat W (ps ++ l') w := h.imp s.out
theorem Sat.sel {W w : World} {p : HP} {l l' : List HP} (h : Sat W l w) (s : Sel p l l') : Sat W (p :: l') w := h.imp s.out
theorem Sat.drew {W w : World} {l : List HP} (h : Sat W l w) : Sat W l w.drew := ⟨h.os, h.tape, h.output, h.has⟩
theorem Sat.ex {W w : World} {α : Type} {f : α → HP} {l : List HP} (x : α) (h : Sat W (f x :: l) w) : Sat W (Ex f :: l) w := h.imp fun _ => Has.ex x
theorem Sat.unex {W w : World} {α : Type} {f : α → HP} {l : List HP} (h : Sat W (Ex f :: l) w) : ∃ x, Sat W (f x :: l) w :=
  let ⟨x, hx⟩ := h.has.unex; ⟨x, h.os, h.tape, h.output, hx⟩
theorem Sat.all {W w : World} {ps l : List HP} (h : Sat W (ps ++ l) w) : Sat W (All ps :: l) w := h.imp fun _ => Has.all
theorem Sat.unall {W w : World} {ps l : List HP} (h : Sat W (All ps :: l) w) : Sat W (ps ++ l) w := h.imp fun _ => Has.unall
theorem Sat.fact {W w : World} {p : Prop} {l : List HP} (hp : p) (h : Sat W l w) : Sat W (Fact p :: l) w := h.imp fun _ => Has.fact hp
theorem Sat.unfact {W w : World} {p : Prop} {l : List HP} (h : Sat W (Fact p :: l) w) : p ∧ Sat W l w := ⟨h.has.unfact, h.imp fun _ => Has.drop⟩
theorem Sat.head {W w : World} {p q : HP} {l : List HP} (f : ∀ h, p h → q h) (h : Sat W (p :: l) w) : Sat W (q :: l) w := h.imp fun _ => Has.head f

/-- A new piece out of a new block. -/
theorem Sat.alloc {W w : World} {l : List HP} {o : Obj} {p : HP} (h : Sat W l w) (hp : ∀ m : PH, m w.heap.size = some o → (∀ b, b ≠ w.heap.size → m b = Option.none) → p m) : Sat W (p :: l) (w.alloc o) := by
  refine ⟨h.os, h.tape, h.output, ?_⟩
  refine ⟨fun b => if b = w.heap.size then some o else Option.none, fun b => w.heap[b]?, hp _ (by simp) (fun b hb => by simp [hb]), h.has, ?_, ?_, ?_⟩
  · intro b
    by_cases e : b = w.heap.size
    · right; simp [e]
    · left; simp [e]
  · intro b u e
    by_cases hb : b = w.heap.size
    · subst hb; simp at e; subst e; show (w.heap.push o)[w.heap.size]? = _; simp
    · simp [hb] at e
  · intro b u e
    have : b < w.heap.size := by
      rcases Nat.lt_or_ge b w.heap.size with q | q
      · exact q
      · simp [Array.getElem?_eq_none q] at e
    show (w.heap.push o)[b]? = _
    rw [Array.getElem?_push, if_neg (by omega)]
    exact e

/-- The head piece is written: another world that differs at most there and above. -/
theorem Sat.write {W w w' : World} {p q : HP} {l : List HP} (h : Sat W (p :: l) w) (hos : w'.os = w.os) (ht : w'.tape = w.tape) (ho : w'.output = w.output)
    (hp : ∀ m : PH, p m → (∀ b o, m b = some o → w.heap[b]? = some o) → ∃ m' : PH, q m' ∧ (∀ b o, m' b = some o → w'.heap[b]? = some o) ∧ (∀ b, m b = Option.none → w.heap[b]? = w'.heap[b]? ∨ w.heap[b]? = Option.none) ∧ (∀ b, m b = Option.none → m' b = Option.none ∨ w.heap[b]? = Option.none)) : Sat W (q :: l) w' := by
  obtain ⟨h1, h2, a, b, c, d, e⟩ := h.has
  obtain ⟨m', hq, hs, hk, hn⟩ := hp h1 a d
  refine ⟨hos.trans h.os, ht.trans h.tape, ho.trans h.output, m', h2, hq, b, ?_, hs, ?_⟩
  · intro x
    rcases c x with r | r
    · rcases hn x r with q | q
      · exact .inl q
      · right
        cases hh : h2 x with
        | none => rfl
        | some o => have := e x o hh; simp only [q] at this; cases this
    · exact .inr r
  · intro x o hx
    have h1x : h1 x = Option.none := by
      rcases c x with r | r
      · exact r
      · rw [hx] at r; cases r
    rcases hk x h1x with q | q
    · exact q.symm.trans (e x o hx)
    · have := e x o hx; simp only [q] at this; cases this

end Go.Sl
