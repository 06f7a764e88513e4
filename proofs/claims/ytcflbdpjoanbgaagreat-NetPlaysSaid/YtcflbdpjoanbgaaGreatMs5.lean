/-
  Messages copied into memory of their own.
  Conditions: none; it speaks of every program of the model.
-/
import Derived.Test.YtcflbdpjoanbgaaGreatMs4
import Derived.Test.YtcflbdpjoanbgaaGreatRw1
namespace Go.Sl
open Go
set_option linter.unusedSimpArgs false
set_option linter.unusedVariables false

def AllG {β : Type} (f : β → HP) (L : List β) : HP := All (L.map f)
theorem Sat.allNil {β : Type} {W w : World} {l : List HP} (f : β → HP) (h : Sat W l w) : Sat W (AllG f [] :: l) w := Sat.all (ps := []) h
theorem Sat.allSnoc {β : Type} {W w : World} {l : List HP} {f : β → HP} {L : List β} {x : β} (h : Sat W (AllG f L :: f x :: l) w) : Sat W (AllG f (L ++ [x]) :: l) w := by
  refine Sat.all ?_
  have h2 := Sat.unall h
  simpa using h2
theorem Sat.allGet {β : Type} {W w : World} {l l' : List HP} {f : β → HP} {L : List β} {x : β} (h : Sat W l w) (s : Sel (AllG f L) l l') (hx : x ∈ L) : ∃ l'', Sat W (f x :: l'') w := by
  obtain ⟨l'', s2⟩ := sel_mem (l := l') (List.mem_map_of_mem (f := f) hx)
  exact ⟨l'', (Sat.unall (h.sel s)).sel s2⟩
/-- A row of values with their data. -/
def ValR (T B : Nat) (x : Sli ValT) : HP := All [Rw T 4 x.1 x.2.2.length x.2.1 (x.2.2.flatMap valC), Rws B (x.2.2.map fun v => v.2.1)]
def EntR (E T B : Nat) (x : Sli EntT) : HP := All [Rw E 10 x.1 x.2.2.length x.2.1 (x.2.2.flatMap entC), AllG (fun e => ValR T B e.2.1.2.1) x.2.2]
def DigR (D T : Nat) (x : Sli DigT) : HP := All [Rw D 10 x.1 x.2.2.length x.2.1 (x.2.2.flatMap digC), AllG (fun d => Rw T 2 d.2.2.1.1 d.2.2.1.2.2.length d.2.2.1.2.1 (d.2.2.1.2.2.flatMap dotC)) x.2.2]
theorem Sat.valR {W w w0 : World} {l l' : List HP} {T B : Nat} {x y : Sli ValT} (h : Sat W l w) (s : Sel (ValR T B x) l l') (hy : ValsAt w0 y) (he : x.2.2.map pVal = y.2.2.map pVal) : ValsAt w x := by
  have h2 := Sat.unall (h.sel s)
  have hl : x.2.2.length = y.2.2.length := by have := congrArg List.length he; simpa using this
  refine ⟨h2.slOfRw .head, fun v hv => ⟨h2.rws (.tail .head) v.2.1 (List.mem_map.2 ⟨v, hv, rfl⟩), ?_⟩, by rw [hl]; exact hy.2.2⟩
  have h3 : pVal v ∈ y.2.2.map pVal := by rw [← he]; exact List.mem_map.2 ⟨v, hv, rfl⟩
  obtain ⟨u, hu, e⟩ := List.mem_map.1 h3
  have h4 := (hy.2.1 u hu).2
  have h5 : u.2.1.2.2 = v.2.1.2.2 := congrArg (fun z => z.2.1) e
  rw [h5] at h4; exact h4
theorem Sat.entR {W w w0 : World} {l l' : List HP} {E T B : Nat} {x y : Sli EntT} (h : Sat W l w) (s : Sel (EntR E T B x) l l') (hy : EntsAt w0 y) (he : x.2.2.map pEnt = y.2.2.map pEnt) : EntsAt w x := by
  have h2 := Sat.unall (h.sel s)
  have hl : x.2.2.length = y.2.2.length := by have := congrArg List.length he; simpa using this
  refine ⟨h2.slOfRw .head, fun e hm => ?_, by rw [hl]; exact hy.2.2⟩
  have h3 : pEnt e ∈ y.2.2.map pEnt := by rw [← he]; exact List.mem_map.2 ⟨e, hm, rfl⟩
  obtain ⟨u, hu, eu⟩ := List.mem_map.1 h3
  obtain ⟨h4, h5⟩ := hy.2.1 u hu
  have e1 : u.2.1.1 = e.2.1.1 := congrArg (fun z => z.2.1) eu
  have e2 : u.2.1.2.1.2.2.map pVal = e.2.1.2.1.2.2.map pVal := congrArg (fun z => z.2.2) eu
  obtain ⟨l'', h6⟩ := h2.allGet (.tail .head) hm
  exact ⟨by rw [← e1]; exact h4, h6.valR .head h5 e2.symm⟩
theorem Sat.digR {W w w0 : World} {l l' : List HP} {D T : Nat} {x y : Sli DigT} (h : Sat W l w) (s : Sel (DigR D T x) l l') (hy : DigsAt w0 y) (he : x.2.2.map pDig = y.2.2.map pDig) : DigsAt w x := by
  have h2 := Sat.unall (h.sel s)
  have hl : x.2.2.length = y.2.2.length := by have := congrArg List.length he; simpa using this
  refine ⟨h2.slOfRw .head, fun e hm => ?_, by rw [hl]; exact hy.2.2⟩
  have h3 : pDig e ∈ y.2.2.map pDig := by rw [← he]; exact List.mem_map.2 ⟨e, hm, rfl⟩
  obtain ⟨u, hu, eu⟩ := List.mem_map.1 h3
  obtain ⟨h4, h5⟩ := hy.2.1 u hu
  have e1 : u.2.1 = e.2.1 := congrArg (fun z => z.2.1) eu
  have e2 : u.2.2.1.2.2.map pDot = e.2.2.1.2.2.map pDot := congrArg (fun z => z.2.2) eu
  have e3 : u.2.2.1.2.2.length = e.2.2.1.2.2.length := by have := congrArg List.length e2; simpa using this
  obtain ⟨l'', h6⟩ := h2.allGet (.tail .head) hm
  exact ⟨by rw [← e1]; exact h4, h6.slOfRw .head, by rw [← e3]; exact h5.2⟩
theorem Sat.memR {W w w0 : World} {l l' : List HP} {T : Nat} {q : Option Addr} {c : Nat} {L : List DotT} {y : Sli DotT} (h : Sat W l w) (s : Sel (Rw T 2 q L.length c (L.flatMap dotC)) l l') (hy : DotsAt w0 y) (hl : L.length = y.2.2.length) : DotsAt w (q, c, L) := ⟨h.slOfRw s, by show L.length ≤ _; rw [hl]; exact hy.2⟩
theorem map_snoc {β γ : Type} {f : β → γ} {L l : List β} {k : Nat} {x y : β} (h : L.map f = (l.take k).map f) (hx : l[k]? = some x) (he : f y = f x) : (L ++ [y]).map f = (l.take (k + 1)).map f := by
  rw [List.map_append, h, List.take_add_one, hx, List.map_append]; simp [he]
theorem map_len {β γ : Type} {f : β → γ} {L l : List β} (h : L.map f = l.map f) : L.length = l.length := by have := congrArg List.length h; simpa using this
theorem one_val (L : List ValT) : (L.flatMap valC).all (·.oneCell') = true := by rw [List.all_flatMap, List.all_eq_true]; intro v _; rfl
theorem one_dot (L : List DotT) : (L.flatMap dotC).all (·.oneCell') = true := by rw [List.all_flatMap, List.all_eq_true]; intro v _; rfl
/-- Entries that a call made itself. -/
def okL (L : List EntT) : Prop := ∀ e ∈ L, e.2.1.1.length = 8 ∧ e.2.1.2.1.2.2.length ≤ 1000 ∧ ∀ v ∈ e.2.1.2.1.2.2, v.2.1.2.2.length ≤ 1000
theorem okL.snoc {L : List EntT} {x : EntT} (h : okL L) (h2 : x.2.1.1.length = 8 ∧ x.2.1.2.1.2.2.length ≤ 1000 ∧ ∀ v ∈ x.2.1.2.1.2.2, v.2.1.2.2.length ≤ 1000) : okL (L ++ [x]) := fun e he => by
  rcases List.mem_append.1 he with h3 | h3
  · exact h e h3
  · simp at h3; subst h3; exact h2
theorem all_snoc {β : Type} {p : β → Prop} {L : List β} {x : β} (h : ∀ v ∈ L, p v) (h2 : p x) : ∀ v ∈ L ++ [x], p v := fun v hv => by
  rcases List.mem_append.1 hv with h3 | h3
  · exact h v h3
  · simp at h3; subst h3; exact h2
theorem Sat.entL {W w : World} {l l' l'' : List HP} {E T B : Nat} {q : Option Addr} {c : Nat} {L : List EntT} (h : Sat W l w) (s : Sel (Rw E 10 q L.length c (L.flatMap entC)) l l') (s2 : Sel (AllG (fun e : EntT => ValR T B e.2.1.2.1) L) l l'') (hok : okL L) (hn : L.length ≤ 1000000) : EntsAt w (q, c, L) := by
  refine ⟨h.slOfRw s, fun e he => ⟨(hok e he).1, ?_⟩, by show L.length ≤ _; omega⟩
  obtain ⟨l3, h3⟩ := h.allGet s2 he
  have h4 := Sat.unall h3
  exact ⟨h4.slOfRw .head, fun v hv => ⟨h4.rws (.tail .head) v.2.1 (List.mem_map.2 ⟨v, hv, rfl⟩), by have := (hok e he).2.2 v hv; omega⟩, by have := (hok e he).2.1; omega⟩
theorem wrap_tmod (x m base : Int) (hm : 0 < m ∧ m ≤ 1000) (hb : 0 ≤ base ∧ base ≤ 1000) : ∃ n : Nat, base ≤ n ∧ (n : Int) < base + m ∧ IntKind.i64.wrap (base + IntKind.i64.wrap ((IntKind.u64.wrap x).tmod m)) = (n : Int) := by
  have h1 : (IntKind.u64.wrap x).tmod m = (x % 18446744073709551616) % m := by rw [wrapP]; exact Int.tmod_eq_emod_of_nonneg (by omega)
  have h2 := Int.emod_nonneg (x % 18446744073709551616) (show m ≠ 0 by omega)
  have h3 := Int.emod_lt_of_pos (x % 18446744073709551616) hm.1
  have h4 : IntKind.i64.wrap (x % 18446744073709551616 % m) = x % 18446744073709551616 % m := Go.IntWalk.i64_in _ (by omega)
  rw [h1, h4, Go.IntWalk.i64_in _ (by omega)]
  exact ⟨(base + x % 18446744073709551616 % m).toNat, by omega, by omega, by omega⟩
end Go.Sl
