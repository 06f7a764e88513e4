/-
  Messages read: all of one.
  Conditions: none; it speaks of every program of the model.
-/
import Derived.Test.YtcflbdpjoanbgaaGreatMs6
namespace Go.Sl
open Go
set_option linter.unusedSimpArgs false
set_option linter.unusedVariables false

theorem c_joinX {P : Program} {Q : Exit → Act → World → Prop} {a : Act} {w : World} {n : Nat} {c : Code} {L K : List (Nat × Value)} {ms : List (Nat × Nat)} {α : Type} (hk : Keep ms L K) (I : α → List (Nat × Value)) (J : α → World → Prop)
    (h1 : c.wp P (Exit.then (fun a' w' => ∃ x, Fits n a' (I x ++ K) ∧ J x w') Q) a w) (h2 : ∀ x a w, Fits n a (I x ++ K) → J x w → Q .normal a w) : c.wp P Q a w :=
  Code.wp_mono (fun e a' w' hq => by
    cases e with
    | normal => obtain ⟨x, hq⟩ := hq; exact h2 x a' w' hq.1 hq.2
    | exit id => exact hq
    | goto l => exact hq
    | ret => exact hq
    | panic => exact hq
    | outgrown => exact hq) h1
theorem parts_cap {k c : Int} (hc : 10 ≤ c) : partsI (min k c) = partsI k := by
  by_cases h : k ≤ c
  · rw [show min k c = k by omega]
  · rw [show min k c = c by omega]
    unfold partsI
    rw [if_neg (by omega), if_neg (by omega), if_neg (by omega), if_neg (by omega), if_neg (by omega), if_neg (by omega), if_neg (by omega), if_neg (by omega), if_neg (by omega), if_neg (by omega), if_neg (by omega), if_neg (by omega), if_neg (by omega), if_neg (by omega), if_neg (by omega), if_neg (by omega)]
def opt {α : Type} (b : Bool) (f : RS → α × RS) (d : α) (s : RS) : α × RS := match b with | true => f s | false => (d, s)
theorem opt_yes {α : Type} {b : Bool} {f : RS → α × RS} {d : α} {s : RS} (h : b = true) : opt b f d s = f s := by subst h; rfl
theorem opt_no {α : Type} {b : Bool} {f : RS → α × RS} {d : α} {s : RS} (h : b = false) : opt b f d s = (d, s) := by subst h; rfl
theorem inv_opt {α : Type} {b : Bool} {f : RS → α × RS} {d : α} {s : RS} (hf : ∀ s, InvR s → InvR (f s).2) (h : InvR s) : InvR (opt b f d s).2 := by cases b; exact h; exact hf _ h
theorem rest_opt {α : Type} {b : Bool} {f : RS → α × RS} {d : α} {s : RS} (hf : ∀ s, (f s).2.1.length ≤ s.1.length) : (opt b f d s).2.1.length ≤ s.1.length := by cases b; exact Nat.le_refl _; exact hf _
theorem stay_opt {α : Type} {b : Bool} {f : RS → α × RS} {d : α} {s : RS} (hf : ∀ s, ¬ s.2 = 0 → ¬ (f s).2.2 = 0) (h : ¬ s.2 = 0) : ¬ (opt b f d s).2.2 = 0 := by cases b; exact h; exact hf _ h
def manyC {α : Type} (c : Int) (f : RS → α × RS) (s : RS) : List α × RS := rMany f (rCount c s).1 (rCount c s).2
theorem inv_manyC {α : Type} {c : Int} {f : RS → α × RS} (hf : ∀ s, InvR s → InvR (f s).2) (s : RS) (h : InvR s) : InvR (manyC c f s).2 := inv_many hf _ (inv_count h)
theorem rest_manyC {α : Type} {c : Int} {f : RS → α × RS} (hf : ∀ s, (f s).2.1.length ≤ s.1.length) (s : RS) : (manyC c f s).2.1.length ≤ s.1.length := Nat.le_trans (rest_many hf _ _) (rCount_rest _ _)
theorem stay_manyC {α : Type} {c : Int} {f : RS → α × RS} (hf : ∀ s, ¬ s.2 = 0 → ¬ (f s).2.2 = 0) (s : RS) (h : ¬ s.2 = 0) : ¬ (manyC c f s).2.2 = 0 := stay_many hf _ (by rw [rCount_stay h]; exact h)
def allOk {α : Type} (l : List (α × Bool)) : Bool := l.all fun z => z.2
def mK (s : RS) : Int := ((rNum s).1 : Int)
def m1 (s : RS) : RS := (rNum s).2
def m2 (s : RS) : RS := (rNum (m1 s)).2
def m3 (s : RS) : RS := (rNum (m2 s)).2
def mh (i : Nat) (s : RS) : Bool := hasP i (mK s)
def mO (s : RS) : Int × RS := opt (mh 0 s) rInt 0 (m3 s)
def mR (s : RS) : Nat × RS := opt (mh 1 s) rNum 0 (mO s).2
def mY (s : RS) : List UInt8 × RS := opt (mh 2 s) (rText 32) [] (mR s).2
def mB (s : RS) : Nat × RS := opt (mh 3 s) rNum 0 (mY s).2
def mE (s : RS) : List (PEnt × Bool) × RS := opt (mh 4 s) (manyC 256 rEnt) [] (mB s).2
def mD (s : RS) : List (PDig × Bool) × RS := opt (mh 5 s) (manyC 256 rDig) [] (mE s).2
def mM (s : RS) : List (PDot × Bool) × RS := opt (mh 6 s) (manyC 8 rMem) [] (mD s).2
def mX (s : RS) : List PDot × RS := opt (mh 6 s) (manyC 8 rDot) [] (mD s).2
theorem inv_m3 {s : RS} (h : InvR s) : InvR (m3 s) := inv_num (inv_num (inv_num h))
theorem inv_mO {s : RS} (h : InvR s) : InvR (mO s).2 := inv_opt (fun _ => inv_int) (inv_m3 h)
theorem inv_mR {s : RS} (h : InvR s) : InvR (mR s).2 := inv_opt (fun _ => inv_num) (inv_mO h)
theorem inv_mY {s : RS} (h : InvR s) : InvR (mY s).2 := inv_opt (fun _ => inv_text) (inv_mR h)
theorem inv_mB {s : RS} (h : InvR s) : InvR (mB s).2 := inv_opt (fun _ => inv_num) (inv_mY h)
theorem inv_rEnt (s : RS) (h : InvR s) : InvR (rEnt s).2 := inv_ent h
theorem inv_rDig (s : RS) (h : InvR s) : InvR (rDig s).2 := inv_dig h
theorem inv_rMem (s : RS) (h : InvR s) : InvR (rMem s).2 := inv_dot h
theorem inv_mE {s : RS} (h : InvR s) : InvR (mE s).2 := inv_opt (inv_manyC inv_rEnt) (inv_mB h)
theorem inv_mD {s : RS} (h : InvR s) : InvR (mD s).2 := inv_opt (inv_manyC inv_rDig) (inv_mE h)
theorem inv_mM {s : RS} (h : InvR s) : InvR (mM s).2 := inv_opt (inv_manyC inv_rMem) (inv_mD h)
theorem rest_mR (s : RS) : (mR s).2.1.length ≤ s.1.length := Nat.le_trans (rest_opt rNum_rest) (Nat.le_trans (rest_opt rInt_rest) (Nat.le_trans (rNum_rest _) (Nat.le_trans (rNum_rest _) (rNum_rest _))))
theorem rest_mB (s : RS) : (mB s).2.1.length ≤ s.1.length := Nat.le_trans (rest_opt rNum_rest) (Nat.le_trans (rest_opt text_rest) (rest_mR s))
theorem rest_mE (s : RS) : (mE s).2.1.length ≤ s.1.length := Nat.le_trans (rest_opt (rest_manyC ent_rest)) (rest_mB s)
theorem rest_rDig (s : RS) : (rDig s).2.1.length ≤ s.1.length := dig_rest s
theorem rest_mD (s : RS) : (mD s).2.1.length ≤ s.1.length := Nat.le_trans (rest_opt (rest_manyC rest_rDig)) (rest_mE s)
theorem rest_k {α : Type} {c : Int} {f : RS → α × RS} (hf : ∀ s, (f s).2.1.length ≤ s.1.length) (k : Nat) (s : RS) : (rMany f k (rCount c s).2).2.1.length ≤ s.1.length := Nat.le_trans (rest_many hf _ _) (rCount_rest _ _)
theorem inv_k {α : Type} {c : Int} {f : RS → α × RS} (hf : ∀ s, InvR s → InvR (f s).2) (k : Nat) {s : RS} (h : InvR s) : InvR (rMany f k (rCount c s).2).2 := inv_many hf _ (inv_count h)
theorem ok_snoc1 {α : Type} {f : RS → (α × Bool) × RS} {k : Nat} {s : RS} {b : Bool} (h : (b && allOk (rMany f k s).1) = true) : (f (rMany f k s).2).1.2 = (b && allOk (rMany f (k + 1) s).1) := by
  simp only [Bool.and_eq_true] at h
  show _ = (b && ((rMany f k s).1 ++ [(f (rMany f k s).2).1]).all fun z => z.2)
  rw [List.all_append, h.1, show ((rMany f k s).1.all fun z => z.2) = true from h.2]; simp
theorem ok_snoc2 {α : Type} {f : RS → (α × Bool) × RS} {k : Nat} {s : RS} {b : Bool} (h : (b && allOk (rMany f k s).1) = false) : false = (b && allOk (rMany f (k + 1) s).1) := by
  show _ = (b && ((rMany f k s).1 ++ [(f (rMany f k s).2).1]).all fun z => z.2)
  rw [List.all_append, ← Bool.and_assoc, show (b && ((rMany f k s).1.all fun z => z.2)) = false from h]; rfl
def fstOk {α : Type} (l : List (α × Bool)) : List α := l.map fun z => z.1
theorem fst_snoc {α β : Type} {f : RS → (α × Bool) × RS} {k : Nat} {s : RS} {p : β → α} {L : List β} {x : β} (h : L.map p = fstOk (rMany f k s).1) (he : p x = (f (rMany f k s).2).1.1) : (L ++ [x]).map p = fstOk (rMany f (k + 1) s).1 := many_snoc (g := fun z : α × Bool => z.1) h he
theorem raw_snoc {α β : Type} {f : RS → α × RS} {k : Nat} {s : RS} {p : β → α} {g : α → α} {L : List β} {x : β} (h : L.map p = (rMany f k s).1.map g) (he : p x = g (f (rMany f k s).2).1) : (L ++ [x]).map p = (rMany f (k + 1) s).1.map g := many_snoc h he
theorem min00 (c : Int) (h : 0 ≤ c) : min (((0 : Nat) : Nat) : Int) c = 0 := by omega
/-- Digests that a call read itself. -/
def okG2 (L : List DigT) : Prop := ∀ e ∈ L, e.2.1.length = 8 ∧ e.2.2.1.2.2.length ≤ 1000
theorem okG2.snoc {L : List DigT} {x : DigT} (h : okG2 L) (h2 : x.2.1.length = 8 ∧ x.2.2.1.2.2.length ≤ 1000) : okG2 (L ++ [x]) := fun e he => by
  rcases List.mem_append.1 he with h3 | h3
  · exact h e h3
  · simp at h3; subst h3; exact h2
theorem Sat.digL {W w : World} {l l' l'' : List HP} {D T : Nat} {q : Option Addr} {c : Nat} {L : List DigT} (h : Sat W l w) (s : Sel (Rw D 10 q L.length c (L.flatMap digC)) l l') (s2 : Sel (AllG (fun d : DigT => Rw T 2 d.2.2.1.1 d.2.2.1.2.2.length d.2.2.1.2.1 (d.2.2.1.2.2.flatMap dotC)) L) l l'') (hok : okG2 L) (hn : L.length ≤ 1000000) : DigsAt w (q, c, L) := by
  refine ⟨h.slOfRw s, fun e he => ⟨(hok e he).1, ?_⟩, by show L.length ≤ _; omega⟩
  obtain ⟨l3, h3⟩ := h.allGet s2 he
  exact ⟨h3.slOfRw .head, by have := (hok e he).2; omega⟩
end Go.Sl
