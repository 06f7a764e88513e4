/-
  Messages: what lies in memory, what it tells, and what may be.
  Conditions: none; it speaks of every program of the model.
-/
import Derived.Test.YtcflbdpjoanbgaaGreatOp1
import Derived.Test.YtcflbdpjoanbgaaGreatRs1
import Derived.Test.YtcflbdpjoanbgaaGreatWr1
namespace Go.Sl
open Go
set_option linter.unusedSimpArgs false
set_option linter.unusedVariables false

/-! ### As an argument is read -/
abbrev DotT := Int × Int × Unit
abbrev ValT := DotT × Sli UInt8 × Bool × Unit
abbrev SibT := List Int × Sli ValT × Unit
abbrev EntT := List UInt8 × SibT × Unit
abbrev DigT := List UInt8 × List Int × Sli DotT × Unit
abbrev MemT := Int × Int × Unit
abbrev MsgT := Int × Int × Int × Int × Int × List UInt8 × Int × Sli EntT × Sli DigT × Sli MemT × Unit
abbrev slv {β : Type} (x : Sli β) : Value := .slice x.1 x.2.2.length x.2.1
def dotC (x : DotT) : List Value := [.int .i64 x.1, .int .i64 x.2.1]
def valC (x : ValT) : List Value := [.int .i64 x.1.1, .int .i64 x.1.2.1, slv x.2.1, .bool x.2.2.1]
def sibC (x : SibT) : List Value := i64s x.1 ++ [slv x.2.1]
def entC (x : EntT) : List Value := .string (str x.1) :: sibC x.2.1
def digC (x : DigT) : List Value := .string (str x.1) :: (i64s x.2.1 ++ [slv x.2.2.1])
def memC (x : MemT) : List Value := [.int .i64 x.1, .int .i64 x.2.1]
def msgC (x : MsgT) : List Value := [.int .i64 x.1, .int .i64 x.2.1, .int .i64 x.2.2.1, .int .i64 x.2.2.2.1, .int .i64 x.2.2.2.2.1, .string (str x.2.2.2.2.2.1), .int .i64 x.2.2.2.2.2.2.1, slv x.2.2.2.2.2.2.2.1, slv x.2.2.2.2.2.2.2.2.1, slv x.2.2.2.2.2.2.2.2.2.1]

/-! ### What it tells -/
abbrev PDot := Int × Int
abbrev PVal := PDot × List UInt8 × Bool
abbrev PSib := List Int × List PVal
abbrev PEnt := List UInt8 × PSib
abbrev PDig := List UInt8 × List Int × List PDot
structure PMsg where
  kind : Int
  from' : Int
  to : Int
  op : Int
  for' : Int
  key : List UInt8
  bucket : Int
  ents : List PEnt
  digs : List PDig
  mems : List PDot
def pDot (x : DotT) : PDot := (x.1, x.2.1)
def pVal (x : ValT) : PVal := (pDot x.1, x.2.1.2.2, x.2.2.1)
def pSib (x : SibT) : PSib := (x.1, x.2.1.2.2.map pVal)
def pEnt (x : EntT) : PEnt := (x.1, pSib x.2.1)
def pDig (x : DigT) : PDig := (x.1, x.2.1, x.2.2.1.2.2.map pDot)
def pMsg (x : MsgT) : PMsg := ⟨x.1, x.2.1, x.2.2.1, x.2.2.2.1, x.2.2.2.2.1, x.2.2.2.2.2.1, x.2.2.2.2.2.2.1, x.2.2.2.2.2.2.2.1.2.2.map pEnt, x.2.2.2.2.2.2.2.2.1.2.2.map pDig, x.2.2.2.2.2.2.2.2.2.1.2.2.map pDot⟩

/-! ### Where it lies -/
def ValsAt (w : World) (x : Sli ValT) : Prop := SlAt w x.1 x.2.2.length 4 (x.2.2.flatMap valC) ∧ (∀ v ∈ x.2.2, SlAt w v.2.1.1 v.2.1.2.2.length 1 (bvs v.2.1.2.2) ∧ v.2.1.2.2.length ≤ 140737488351232) ∧ x.2.2.length ≤ 2932031007317
def DotsAt (w : World) (x : Sli DotT) : Prop := SlAt w x.1 x.2.2.length 2 (x.2.2.flatMap dotC) ∧ x.2.2.length ≤ 8796093021952
def EntsAt (w : World) (x : Sli EntT) : Prop := SlAt w x.1 x.2.2.length 10 (x.2.2.flatMap entC) ∧ (∀ e ∈ x.2.2, e.2.1.1.length = 8 ∧ ValsAt w e.2.1.2.1) ∧ x.2.2.length ≤ 1353245080300
def DigsAt (w : World) (x : Sli DigT) : Prop := SlAt w x.1 x.2.2.length 10 (x.2.2.flatMap digC) ∧ (∀ e ∈ x.2.2, e.2.1.length = 8 ∧ DotsAt w e.2.2.1) ∧ x.2.2.length ≤ 1353245080300

theorem flat_getM {β : Type} {cells : β → List Value} {sz : Nat} : ∀ {L : List β} {i : Nat} {x : β} {k : Nat} {u : Value}, (∀ b ∈ L, (cells b).length = sz) → L[i]? = some x → (cells x)[k]? = some u → (L.flatMap cells)[i * sz + k]? = some u
  | [], i, x, k, u, _, h, _ => by simp at h
  | b :: L, 0, x, k, u, _, h, hu => by
    simp at h
    subst h
    rw [List.flatMap_cons, Nat.zero_mul, Nat.zero_add, List.getElem?_append_left (List.getElem?_eq_some_iff.1 hu).1]
    exact hu
  | b :: L, i + 1, x, k, u, hlen, h, hu => by
    have h0 := hlen b (by simp)
    rw [List.flatMap_cons, List.getElem?_append_right (by rw [h0, Nat.add_mul]; omega), h0, show (i + 1) * sz + k - sz = i * sz + k from by rw [Nat.add_mul]; omega]
    exact flat_getM (fun c hc => hlen c (by simp [hc])) (by simpa using h) hu
theorem SlAt.elemM {β : Type} {cells : β → List Value} {sz n : Nat} {w : World} {ad : Addr} {L : List β} {i : Nat} {x : β} (h : SlAt w (Option.some ad) n sz (L.flatMap cells)) (hlen : ∀ b ∈ L, (cells b).length = sz) (hx : L[i]? = Option.some x) : AggAt w (ad.add (i * sz)) sz (cells x) :=
  ⟨hlen x (List.mem_of_getElem? hx), fun k u hu => by rw [add_add]; exact h.get (flat_getM hlen hx hu)⟩
theorem i64s_len (l : List Int) : (i64s l).length = l.length := by simp [i64s]
theorem entC_len {e : EntT} (h : e.2.1.1.length = 8) : (entC e).length = 10 := by simp [entC, sibC, i64s_len, h]
theorem digC_len {e : DigT} (h : e.2.1.length = 8) : (digC e).length = 10 := by simp [digC, i64s_len, h]
theorem valC_len (v : ValT) : (valC v).length = 4 := rfl
theorem dotC_len (v : DotT) : (dotC v).length = 2 := rfl
theorem EntsAt.el {w : World} {ad : Addr} {c : Nat} {L : List EntT} {i : Nat} {x : EntT} (h : EntsAt w (some ad, c, L)) (hx : L[i]? = some x) : AggAt w (ad.add (i * 10)) 10 (entC x) := h.1.elemM (fun b hb => entC_len (h.2.1 b hb).1) hx
theorem EntsAt.in {w : World} {q : Option Addr} {c : Nat} {L : List EntT} {i : Nat} {x : EntT} (h : EntsAt w (q, c, L)) (hx : L[i]? = some x) : x.2.1.1.length = 8 ∧ ValsAt w x.2.1.2.1 := h.2.1 x (List.mem_of_getElem? hx)
theorem DigsAt.el {w : World} {ad : Addr} {c : Nat} {L : List DigT} {i : Nat} {x : DigT} (h : DigsAt w (some ad, c, L)) (hx : L[i]? = some x) : AggAt w (ad.add (i * 10)) 10 (digC x) := h.1.elemM (fun b hb => digC_len (h.2.1 b hb).1) hx
theorem DigsAt.in {w : World} {q : Option Addr} {c : Nat} {L : List DigT} {i : Nat} {x : DigT} (h : DigsAt w (q, c, L)) (hx : L[i]? = some x) : x.2.1.length = 8 ∧ DotsAt w x.2.2.1 := h.2.1 x (List.mem_of_getElem? hx)
theorem ValsAt.el {w : World} {ad : Addr} {c : Nat} {L : List ValT} {i : Nat} {x : ValT} (h : ValsAt w (some ad, c, L)) (hx : L[i]? = some x) : AggAt w (ad.add (i * 4)) 4 (valC x) := h.1.elem valC_len hx
theorem ValsAt.in {w : World} {q : Option Addr} {c : Nat} {L : List ValT} {i : Nat} {x : ValT} (h : ValsAt w (q, c, L)) (hx : L[i]? = some x) : SlAt w x.2.1.1 x.2.1.2.2.length 1 (bvs x.2.1.2.2) ∧ x.2.1.2.2.length ≤ 140737488351232 := h.2.1 x (List.mem_of_getElem? hx)
theorem DotsAt.el {w : World} {ad : Addr} {c : Nat} {L : List DotT} {i : Nat} {x : DotT} (h : DotsAt w (some ad, c, L)) (hx : L[i]? = some x) : AggAt w (ad.add (i * 2)) 2 (dotC x) := SlAt.elem h.1 dotC_len hx
/-- A part of an element. -/
theorem AggAt.part {w : World} {ad : Addr} {n m k : Nat} {us vs : List Value} (h : AggAt w ad n us) (hv : vs = (us.drop k).take m) (hk : k + m ≤ n) : AggAt w (ad.add k) m vs := by
  subst hv
  refine ⟨by rw [List.length_take, List.length_drop, h.1]; omega, fun i v hi => ?_⟩
  rw [add_add]
  refine h.2 (k + i) v ?_
  rw [List.getElem?_take] at hi
  split at hi
  · rwa [List.getElem?_drop] at hi
  · cases hi
theorem len8 {v : List Int} (h : v.length = 8) : ∃ s0 s1 s2 s3 s4 s5 s6 s7, v = [s0, s1, s2, s3, s4, s5, s6, s7] := by
  match v, h with
  | [s0, s1, s2, s3, s4, s5, s6, s7], _ => exact ⟨s0, s1, s2, s3, s4, s5, s6, s7, rfl⟩

/-! ### What may be -/
def mayVec (v : List Int) : Bool := v.all fun n => decide (0 ≤ n ∧ n ≤ 1099511627776)
def covers (v : List Int) (d : PDot) : Bool := decide (0 ≤ d.1 ∧ d.1 < 8 ∧ 1 ≤ d.2 ∧ d.2 ≤ v.getD d.1.toNat 0)
def dless (a b : PDot) : Bool := decide (a.1 < b.1 ∨ a.1 = b.1 ∧ a.2 < b.2)
def okV (v : PVal) : Bool := decide (v.2.1.length ≤ 200) && (!v.2.2 || decide (v.2.1.length = 0))
def ordAt (l : List PDot) (j : Nat) (d : PDot) : Bool := decide (j = 0) || match l[j - 1]? with | none => true | some u => dless u d
def dotAt (seen : List Int) (l : List PDot) (j : Nat) : Bool := match l[j]? with | none => true | some d => covers seen d && ordAt l j d
def valAt (l : List PVal) (j : Nat) : Bool := match l[j]? with | none => true | some v => okV v
def okAt (seen : List Int) (l : List PVal) (j : Nat) : Bool := valAt l j && dotAt seen (l.map (·.1)) j
def rall (n : Nat) (g : Nat → Bool) : Bool := (List.range n).all g
theorem rall_step {n : Nat} {g : Nat → Bool} (h : rall n g = true) (h2 : g n = true) : rall (n + 1) g = true := by
  unfold rall at *; rw [List.range_succ, List.all_append, h]; simp [h2]
theorem rall_no {n k : Nat} {g : Nat → Bool} (hk : k < n) (h2 : g k = false) : rall n g = false := by
  unfold rall; rw [List.all_eq_false]; exact ⟨k, List.mem_range.2 hk, by simp [h2]⟩
theorem rall_get {n k : Nat} {g : Nat → Bool} (h : rall n g = true) (hk : k < n) : g k = true := List.all_eq_true.1 h k (List.mem_range.2 hk)
theorem all_step {β : Type} {l : List β} {k : Nat} {x : β} {f : β → Bool} (hx : l[k]? = some x) (h : (l.take k).all f = true) (h2 : f x = true) : (l.take (k + 1)).all f = true := by
  rw [List.take_add_one, hx, List.all_append, h]; simp [h2]
theorem all_no {β : Type} {l : List β} {k : Nat} {x : β} {f : β → Bool} (hx : l[k]? = some x) (h2 : f x = false) : l.all f = false := by
  rw [List.all_eq_false]; exact ⟨x, List.mem_of_getElem? hx, by simp [h2]⟩
theorem all_get {β : Type} {l : List β} {k : Nat} {x : β} {f : β → Bool} (h : l.all f = true) (hx : l[k]? = some x) : f x = true := List.all_eq_true.1 h x (List.mem_of_getElem? hx)
def maySib (s : PSib) : Bool := mayVec s.1 && decide (s.2.length ≤ 16) && rall s.2.length (okAt s.1 s.2)
def mayKey (k : List UInt8) : Bool := decide (1 ≤ k.length ∧ k.length ≤ 32)
def mayEnt (e : PEnt) : Bool := mayKey e.1 && maySib e.2
def mayDig (d : PDig) : Bool := mayKey d.1 && mayVec d.2.1 && decide (d.2.2.length ≤ 16) && rall d.2.2.length (dotAt d.2.1 d.2.2)
def mayMem (m : PDot) : Bool := decide (0 ≤ m.1 ∧ m.1 ≤ 2 ∧ 0 ≤ m.2 ∧ m.2 ≤ 1099511627776)
def partsI (k : Int) : Int := if k = 1 then 17 else if k = 2 then 23 else if k = 3 then 19 else if k = 4 then 5 else if k = 5 then 17 else if k = 6 then 40 else if k = 7 then 56 else if k = 8 ∨ k = 9 then 64 else 0
def hasP (i : Nat) (k : Int) : Bool := (partsI k).toNat.testBit i
theorem partsI_in (k : Int) : partsI k = 17 ∨ partsI k = 23 ∨ partsI k = 19 ∨ partsI k = 5 ∨ partsI k = 40 ∨ partsI k = 56 ∨ partsI k = 64 ∨ partsI k = 0 := by
  obtain ⟨p, hp⟩ : ∃ p, p = partsI k := ⟨_, rfl⟩
  rw [← hp]; unfold partsI at hp
  repeat' split at hp
  all_goals omega
theorem and_parts (k : Int) (i : Nat) (q : Int) (hi : i < 7) (hq : q = 2 ^ i) : IntKind.i64.wrap ((BitVec.ofInt IntKind.i64.bits (partsI k) &&& BitVec.ofInt IntKind.i64.bits q).toNat : Nat) = if hasP i k = true then q else 0 := by
  subst hq; unfold hasP
  rcases partsI_in k with h | h | h | h | h | h | h | h <;> rw [h] <;> (match i, hi with | 0, _ => decide | 1, _ => decide | 2, _ => decide | 3, _ => decide | 4, _ => decide | 5, _ => decide | 6, _ => decide)
def plI : Bool → Int → Int | true, x => x | false, _ => 0
def plB : Bool → List UInt8 → List UInt8 | true, x => x | false, _ => []
def plL {β : Type} : Bool → List β → List β | true, x => x | false, _ => []
def plS {β : Type} : Bool → Sli β → Sli β | true, x => x | false, _ => (none, 0, [])
theorem plS_map {β γ : Type} (f : β → γ) (b : Bool) (x : Sli β) : (plS b x).2.2.map f = plL b (x.2.2.map f) := by cases b <;> rfl
def plP (x : PMsg) : PMsg := ⟨x.kind, x.from', x.to, plI (hasP 0 x.kind) x.op, plI (hasP 1 x.kind) x.for', plB (hasP 2 x.kind) x.key, plI (hasP 3 x.kind) x.bucket, plL (hasP 4 x.kind) x.ents, plL (hasP 5 x.kind) x.digs, plL (hasP 6 x.kind) x.mems⟩
def leastP (k : Int) : Int := if k = 3 then 1 else 0
def mostP (k : Int) : Int := if k = 3 ∨ k = 5 ∨ k = 2 then 1 else 256
def okM (x : PMsg) : Prop := partsI x.kind ≠ 0 ∧ (0 ≤ x.from' ∧ x.from' ≤ 7) ∧ (0 ≤ x.to ∧ x.to ≤ 7) ∧ (0 ≤ x.op ∧ x.op ≤ 1099511627776) ∧ (0 ≤ x.for' ∧ x.for' ≤ 7) ∧ (0 ≤ x.bucket ∧ x.bucket ≤ 3) ∧ x.key.length ≤ 32 ∧ (x.kind = 4 → x.key.length ≠ 0) ∧ (hasP 4 x.kind = true → leastP x.kind ≤ x.ents.length ∧ x.ents.length ≤ mostP x.kind) ∧ x.digs.length ≤ 256 ∧ x.mems.length ≤ 8
instance (x : PMsg) : Decidable (okM x) := by unfold okM; infer_instance
def mayPl (x : PMsg) : Bool := decide (okM x) && (x.ents.all mayEnt && (x.digs.all mayDig && x.mems.all mayMem))
def mayM (x : PMsg) : Bool := mayPl (plP x)
theorem mayPl_no {x : PMsg} (h : ¬ okM x) : mayPl x = false := by unfold mayPl; rw [decide_eq_false h]; rfl
theorem mayPl_ok {x : PMsg} (h : okM x) : mayPl x = (x.ents.all mayEnt && (x.digs.all mayDig && x.mems.all mayMem)) := by unfold mayPl; rw [decide_eq_true h]; rfl

/-! ### As bytes -/
def wputs (most : Int) (s : WS) (l : List (List UInt8)) : WS := l.foldl (wput most) s
theorem wputs_nil (most : Int) (s : WS) : wputs most s [] = s := rfl
theorem wputs_cons (most : Int) (s : WS) (b : List UInt8) (l : List (List UInt8)) : wputs most s (b :: l) = wputs most (wput most s b) l := rfl
theorem wputs_append (most : Int) (s : WS) (l l' : List (List UInt8)) : wputs most s (l ++ l') = wputs most (wputs most s l) l' := List.foldl_append
def vecW (v : List Int) : List (List UInt8) := v.map fun n => numB (zz n)
def dotW (d : PDot) : List (List UInt8) := [numB d.1.toNat, numB (zz d.2)]
def valW (v : PVal) : List (List UInt8) := [numB v.1.1.toNat, numB (zz v.1.2), flagB v.2.2, textB v.2.1]
def sibW (s : PSib) : List (List UInt8) := vecW s.1 ++ numB s.2.length :: s.2.flatMap valW
def entW (e : PEnt) : List (List UInt8) := textB e.1 :: sibW e.2
def digW (d : PDig) : List (List UInt8) := textB d.1 :: (vecW d.2.1 ++ numB d.2.2.length :: d.2.2.flatMap dotW)
def plW : Bool → List (List UInt8) → List (List UInt8) | true, x => x | false, _ => []
def msgW (x : PMsg) : List (List UInt8) := [numB x.kind.toNat, numB x.from'.toNat, numB x.to.toNat] ++ (plW (hasP 0 x.kind) [numB (zz x.op)] ++ (plW (hasP 1 x.kind) [numB x.for'.toNat] ++ (plW (hasP 2 x.kind) [textB x.key] ++ (plW (hasP 3 x.kind) [numB x.bucket.toNat] ++ (plW (hasP 4 x.kind) (numB x.ents.length :: x.ents.flatMap entW) ++ (plW (hasP 5 x.kind) (numB x.digs.length :: x.digs.flatMap digW) ++ plW (hasP 6 x.kind) (numB x.mems.length :: x.mems.flatMap dotW)))))))
def encS (x : PMsg) : WS := wputs 60000 ([], false) (msgW x)
def encB (x : PMsg) : List UInt8 := if mayM x = true then doneB (encS x) else []
def encE (x : PMsg) : Int := if mayM x = true then doneE (encS x) else 1
theorem flat_step {β γ : Type} {l : List β} {k : Nat} {x : β} {f : β → List γ} (hx : l[k]? = some x) : (l.take (k + 1)).flatMap f = (l.take k).flatMap f ++ f x := by
  rw [List.take_add_one, hx, List.flatMap_append]; simp
end Go.Sl
