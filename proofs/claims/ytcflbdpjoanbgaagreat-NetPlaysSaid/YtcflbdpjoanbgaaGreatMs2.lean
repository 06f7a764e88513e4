/-
  Rules for messages: elements of array values, tests that are joined again.
  Conditions: none; it speaks of every program of the model.
-/
import Derived.Test.YtcflbdpjoanbgaaGreatMs1
import Derived.Test.YtcflbdpjoanbgaaGreatLp1
namespace Go.Sl
open Go
set_option linter.unusedSimpArgs false
set_option linter.unusedVariables false

theorem c_joinK {P : Program} {Q : Exit → Act → World → Prop} {a : Act} {w : World} {n : Nat} {c : Code} {L K : List (Nat × Value)} {ms : List (Nat × Nat)} (hk : Keep ms L K) (I : List (Nat × Value)) (J : World → Prop)
    (h1 : c.wp P (Exit.then (fun a' w' => Fits n a' (I ++ K) ∧ J w') Q) a w) (h2 : ∀ a w, Fits n a (I ++ K) → J w → Q .normal a w) : c.wp P Q a w :=
  Code.wp_mono (fun e a' w' hq => by
    cases e with
    | normal => exact h2 a' w' hq.1 hq.2
    | exit id => exact hq
    | goto l => exact hq
    | ret => exact hq
    | panic => exact hq
    | outgrown => exact hq) h1
theorem c_split {P : Program} {Q : Exit → Act → World → Prop} {a : Act} {w : World} {n : Nat} {L : List (Nat × Value)} {c : Operand} {x y : Code} {b : Bool} (hf : Fits n a L) (hc : ev L c = some (.bool b)) (h1 : b = true → x.wp P Q a w) (h2 : b = false → y.wp P Q a w) : (Code.cond c x y).wp P Q a w := by
  cases b with
  | true => exact c_true hf hc (h1 rfl)
  | false => exact c_false hf hc (h2 rfl)
theorem rd_indexA {P : Program} {S : World → Prop} {a : Act} {n : Nat} {L : List (Nat × Value)} {o : Oper} {t e : TypeId} {x y : Operand} {m i : Nat} {kd : IntKind} {l : List Value} {v : Value} (hf : Fits n a L) (ho : o.op = .index t x y) (hx : ev L x = some (.agg l.toArray)) (hy : ev L y = some (.int kd (i : Int)))
    (ht : P.underlying t = some (.array m e)) (he : aggO P e = some false) (hz : (P.info? e).map (·.size) = some 1) (h1 : i < m) (hv : l[i]? = some v) : Rd P a o S v := fun w _ => by
  obtain ⟨inf, hi, hz'⟩ := Option.map_eq_some_iff.1 hz
  have h2 : (i : Int) < (m : Int) := by omega
  obtain ⟨h3, h4⟩ := List.getElem?_eq_some_iff.1 hv
  simp [execOp, ho, hf.ev hx, hf.ev hy, Instr.index, asIntOf, run_underlying ht, part, run_isAgg he, sizeOf, typeInfo, hi, hz', h2, h3, h4]
  intro h; omega
theorem has_t {k : Int} {i : Nat} {q : Int} (hq : q ≠ 0) (h : decide (¬ (if hasP i k = true then q else 0) = 0) = true) : hasP i k = true := by
  cases hb : hasP i k with
  | true => rfl
  | false => rw [hb] at h; simp at h
theorem has_f {k : Int} {i : Nat} {q : Int} (hq : q ≠ 0) (h : decide (¬ (if hasP i k = true then q else 0) = 0) = false) : hasP i k = false := by
  cases hb : hasP i k with
  | true => rw [hb] at h; simp at h; exact absurd h hq
  | false => rfl
theorem wrap_pred (j : Nat) (h : j < 9223372036854775807) : IntKind.i64.wrap (((j + 1 : Nat) : Int) - 1) = (j : Int) := by
  rw [show (((j + 1 : Nat) : Int) - 1) = (j : Int) by omega]; exact Go.IntWalk.i64_in _ (by omega)
theorem DotsAt.some {w : World} {q : Option Addr} {c : Nat} {L : List DotT} (h : DotsAt w (q, c, L)) (hn : L.length ≠ 0) : ∃ a, q = Option.some a := SlAt.some h.1 hn
theorem ValsAt.some {w : World} {q : Option Addr} {c : Nat} {L : List ValT} (h : ValsAt w (q, c, L)) (hn : L.length ≠ 0) : ∃ a, q = Option.some a := SlAt.some h.1 hn
theorem EntsAt.some {w : World} {q : Option Addr} {c : Nat} {L : List EntT} (h : EntsAt w (q, c, L)) (hn : L.length ≠ 0) : ∃ a, q = Option.some a := SlAt.some h.1 hn
theorem DigsAt.some {w : World} {q : Option Addr} {c : Nat} {L : List DigT} (h : DigsAt w (q, c, L)) (hn : L.length ≠ 0) : ∃ a, q = Option.some a := SlAt.some h.1 hn
theorem map_get {β γ : Type} {l : List β} {k : Nat} {x : β} (f : β → γ) (h : l[k]? = some x) : (l.map f)[k]? = some (f x) := by simp [h]
/-! ### Dots in order -/
theorem dotAt_eq {seen : List Int} {l : List PDot} {k : Nat} {x : PDot} (hx : l[k]? = some x) : dotAt seen l k = (covers seen x && ordAt l k x) := by unfold dotAt; rw [hx]
theorem ordAt_0 {l : List PDot} {x : PDot} : ordAt l 0 x = true := by simp [ordAt]
theorem ordAt_s {l : List PDot} {j : Nat} {x y : PDot} (hy : l[j]? = some y) : ordAt l (j + 1) x = dless y x := by simp [ordAt, hy]
section
variable {seen : List Int} {l : List DotT} {k j : Nat} {x y : DotT}
theorem dotAt_t0 (hx : l[0]? = some x) (h : covers seen (pDot x) = true) : dotAt seen (l.map pDot) 0 = true := by rw [dotAt_eq (map_get pDot hx), h, ordAt_0]; rfl
theorem dotAt_ts (hx : l[j + 1]? = some x) (hy : l[j]? = some y) (h : covers seen (pDot x) = true) (h2 : dless (pDot y) (pDot x) = true) : dotAt seen (l.map pDot) (j + 1) = true := by rw [dotAt_eq (map_get pDot hx), h, ordAt_s (map_get pDot hy), h2]; rfl
theorem dotAt_f1 (hx : l[k]? = some x) (h : covers seen (pDot x) = false) : dotAt seen (l.map pDot) k = false := by rw [dotAt_eq (map_get pDot hx), h]; rfl
theorem dotAt_f2 (hx : l[j + 1]? = some x) (hy : l[j]? = some y) (h2 : dless (pDot y) (pDot x) = false) : dotAt seen (l.map pDot) (j + 1) = false := by rw [dotAt_eq (map_get pDot hx), ordAt_s (map_get pDot hy), h2, Bool.and_false]
end
section
variable {seen : List Int} {l : List ValT} {k j : Nat} {x y : ValT}
theorem okAt_eq (hx : l[k]? = some x) : okAt seen (l.map pVal) k = (okV (pVal x) && (covers seen (pDot x.1) && ordAt ((l.map pVal).map (·.1)) k (pDot x.1))) := by
  unfold okAt valAt; rw [map_get pVal hx, dotAt_eq (map_get (·.1) (map_get pVal hx))]; rfl
theorem okAt_t0 (hx : l[0]? = some x) (h0 : okV (pVal x) = true) (h : covers seen (pDot x.1) = true) : okAt seen (l.map pVal) 0 = true := by rw [okAt_eq hx, h0, h, ordAt_0]; rfl
theorem okAt_ts (hx : l[j + 1]? = some x) (hy : l[j]? = some y) (h0 : okV (pVal x) = true) (h : covers seen (pDot x.1) = true) (h2 : dless (pDot y.1) (pDot x.1) = true) : okAt seen (l.map pVal) (j + 1) = true := by
  rw [okAt_eq hx, h0, h, ordAt_s (map_get (·.1) (map_get pVal hy))]; show (true && (true && dless (pDot y.1) (pDot x.1))) = true; rw [h2]; rfl
theorem okAt_f0 (hx : l[k]? = some x) (h0 : okV (pVal x) = false) : okAt seen (l.map pVal) k = false := by rw [okAt_eq hx, h0]; rfl
theorem okAt_f1 (hx : l[k]? = some x) (h : covers seen (pDot x.1) = false) : okAt seen (l.map pVal) k = false := by rw [okAt_eq hx, h, Bool.false_and, Bool.and_false]
theorem okAt_f2 (hx : l[j + 1]? = some x) (hy : l[j]? = some y) (h2 : dless (pDot y.1) (pDot x.1) = false) : okAt seen (l.map pVal) (j + 1) = false := by
  rw [okAt_eq hx, ordAt_s (map_get (·.1) (map_get pVal hy))]; show (okV (pVal x) && (covers seen (pDot x.1) && dless (pDot y.1) (pDot x.1))) = false; rw [h2, Bool.and_false, Bool.and_false]
end
theorem okV_t {d : PDot} {bs : List UInt8} {b : Bool} (h : bs.length ≤ 200) (h2 : b = true → bs.length = 0) : okV (d, bs, b) = true := by
  unfold okV; dsimp only; rw [decide_eq_true h]; cases b with
  | false => rfl
  | true => simp [h2 rfl]
theorem okV_f1 {d : PDot} {bs : List UInt8} {b : Bool} (h : ¬ bs.length ≤ 200) : okV (d, bs, b) = false := by unfold okV; dsimp only; rw [decide_eq_false h]; rfl
theorem okV_f2 {d : PDot} {bs : List UInt8} (h : bs.length ≠ 0) : okV (d, bs, true) = false := by
  unfold okV; dsimp only; rw [decide_eq_false h]; simp
theorem maySib_no1 {v : List Int} {l : List PVal} (h : mayVec v = false) : maySib (v, l) = false := by unfold maySib; dsimp only; rw [h]; rfl
theorem maySib_no2 {v : List Int} {l : List PVal} (h : ¬ l.length ≤ 16) : maySib (v, l) = false := by unfold maySib; dsimp only; rw [decide_eq_false h, Bool.and_false]; rfl
theorem maySib_no3 {v : List Int} {l : List ValT} {k : Nat} (hk : k < l.length) (h : okAt v (l.map pVal) k = false) : maySib (v, l.map pVal) = false := by unfold maySib; dsimp only; rw [rall_no (by simpa using hk) h, Bool.and_false]
theorem maySib_yes {v : List Int} {l : List ValT} (h1 : mayVec v = true) (h2 : l.length ≤ 16) (h : rall l.length (okAt v (l.map pVal)) = true) : maySib (v, l.map pVal) = true := by unfold maySib; dsimp only; rw [h1, List.length_map, decide_eq_true h2, h]; rfl
theorem mayDig_no0 {k : List UInt8} {v : List Int} {l : List PDot} (h : mayKey k = false) : mayDig (k, v, l) = false := by unfold mayDig; dsimp only; rw [h]; rfl
theorem mayDig_no1 {k : List UInt8} {v : List Int} {l : List PDot} (h : mayVec v = false) : mayDig (k, v, l) = false := by unfold mayDig; dsimp only; rw [h, Bool.and_false]; rfl
theorem mayDig_no2 {k : List UInt8} {v : List Int} {l : List PDot} (h : ¬ l.length ≤ 16) : mayDig (k, v, l) = false := by unfold mayDig; dsimp only; rw [decide_eq_false h, Bool.and_false]; rfl
theorem mayDig_no3 {k : List UInt8} {v : List Int} {l : List DotT} {j : Nat} (hj : j < l.length) (h : dotAt v (l.map pDot) j = false) : mayDig (k, v, l.map pDot) = false := by unfold mayDig; dsimp only; rw [rall_no (by simpa using hj) h, Bool.and_false]
theorem mayDig_yes {k : List UInt8} {v : List Int} {l : List DotT} (h0 : mayKey k = true) (h1 : mayVec v = true) (h2 : l.length ≤ 16) (h : rall l.length (dotAt v (l.map pDot)) = true) : mayDig (k, v, l.map pDot) = true := by unfold mayDig; dsimp only; rw [h0, h1, List.length_map, decide_eq_true h2, h]; rfl
theorem mayEnt_eq (k : List UInt8) (s : PSib) : mayEnt (k, s) = (mayKey k && maySib s) := rfl
theorem mayKey_t {k : List UInt8} (h : 1 ≤ k.length) (h2 : k.length ≤ 32) : mayKey k = true := decide_eq_true ⟨h, h2⟩
theorem mayKey_f {k : List UInt8} (h : ¬ (1 ≤ k.length ∧ k.length ≤ 32)) : mayKey k = false := decide_eq_false h
theorem plS_at {β : Type} {Q : Sli β → Prop} {b : Bool} {x : Sli β} (h : Q x) (h0 : Q (none, 0, [])) : Q (plS b x) := by cases b <;> assumption
theorem EntsAt.nil (w : World) : EntsAt w (none, 0, []) := ⟨SlAt.nil _ _ _, (fun _ h => by cases h), Nat.zero_le _⟩
theorem DigsAt.nil (w : World) : DigsAt w (none, 0, []) := ⟨SlAt.nil _ _ _, (fun _ h => by cases h), Nat.zero_le _⟩
theorem DotsAt.nil (w : World) : DotsAt w (none, 0, []) := ⟨SlAt.nil _ _ _, Nat.zero_le _⟩
theorem ValsAt.nil (w : World) : ValsAt w (none, 0, []) := ⟨SlAt.nil _ _ _, (fun _ h => by cases h), Nat.zero_le _⟩
theorem DotsAt.len {w : World} {q : Option Addr} {c : Nat} {L : List DotT} (h : DotsAt w (q, c, L)) : L.length ≤ 8796093021952 := h.2
theorem ValsAt.len {w : World} {q : Option Addr} {c : Nat} {L : List ValT} (h : ValsAt w (q, c, L)) : L.length ≤ 2932031007317 := h.2.2
theorem EntsAt.len {w : World} {q : Option Addr} {c : Nat} {L : List EntT} (h : EntsAt w (q, c, L)) : L.length ≤ 1353245080300 := h.2.2
theorem DigsAt.len {w : World} {q : Option Addr} {c : Nat} {L : List DigT} (h : DigsAt w (q, c, L)) : L.length ≤ 1353245080300 := h.2.2
theorem plS_len0 {β : Type} {b : Bool} {x y : Sli β} (h : plS b x = y) (hb : b = false) : y.2.2.length = 0 := by subst hb; subst h; rfl
theorem plS_len {β : Type} {b : Bool} {x y : Sli β} (h : plS b x = y) : y.2.2.length ≤ x.2.2.length := by
  subst h; cases b
  · exact Nat.zero_le _
  · exact Nat.le_refl _
theorem plB_len {b : Bool} {x y : List UInt8} (h : plB b x = y) : y.length ≤ x.length := by
  subst h; cases b
  · exact Nat.zero_le _
  · exact Nat.le_refl _
theorem plP_eq {kd fr tn op fo bk op' fo' bk' : Int} {ky ky' : List UInt8} {es es' : Sli EntT} {ds ds' : Sli DigT} {ms ms' : Sli MemT} (h0 : plI (hasP 0 kd) op = op') (h1 : plI (hasP 1 kd) fo = fo') (h2 : plB (hasP 2 kd) ky = ky') (h3 : plI (hasP 3 kd) bk = bk') (h4 : plS (hasP 4 kd) es = es') (h5 : plS (hasP 5 kd) ds = ds') (h6 : plS (hasP 6 kd) ms = ms') :
    plP ⟨kd, fr, tn, op, fo, ky, bk, es.2.2.map pEnt, ds.2.2.map pDig, ms.2.2.map pDot⟩ = ⟨kd, fr, tn, op', fo', ky', bk', es'.2.2.map pEnt, ds'.2.2.map pDig, ms'.2.2.map pDot⟩ := by
  subst h0; subst h1; subst h2; subst h3; subst h4; subst h5; subst h6
  simp only [plP, plS_map]
theorem mayM_no {x y : PMsg} (h : plP x = y) (h2 : ¬ okM y) : mayM x = false := by unfold mayM; rw [h]; exact mayPl_no h2
theorem mayM_eq {x y : PMsg} (h : plP x = y) (h2 : okM y) : mayM x = (y.ents.all mayEnt && (y.digs.all mayDig && y.mems.all mayMem)) := by unfold mayM; rw [h]; exact mayPl_ok h2
theorem mayM_f1 {x y : PMsg} (h : plP x = y) (h2 : y.ents.all mayEnt = false) : mayM x = false := by unfold mayM mayPl; rw [h, h2, Bool.false_and, Bool.and_false]
theorem mayM_f2 {x y : PMsg} (h : plP x = y) (h2 : y.digs.all mayDig = false) : mayM x = false := by unfold mayM mayPl; rw [h, h2, Bool.false_and, Bool.and_false, Bool.and_false]
theorem mayM_f3 {x y : PMsg} (h : plP x = y) (h2 : y.mems.all mayMem = false) : mayM x = false := by unfold mayM mayPl; rw [h, h2, Bool.and_false, Bool.and_false, Bool.and_false]
theorem mayM_yes {x y : PMsg} (h : plP x = y) (h2 : okM y) (h3 : y.ents.all mayEnt = true) (h4 : y.digs.all mayDig = true) (h5 : y.mems.all mayMem = true) : mayM x = true := by rw [mayM_eq h h2, h3, h4, h5]; rfl
theorem all_done {β γ : Type} {l : List β} {f : β → γ} {g : γ → Bool} (h : ((l.map f).take l.length).all g = true) : (l.map f).all g = true := by rwa [List.take_of_length_le (by simp)] at h
theorem mostP_pos (k : Int) : 1 ≤ mostP k := by unfold mostP; split <;> omega
/-! ### Written -/
theorem wrapN {n : Int} (h : 0 ≤ n) (h2 : n < 18446744073709551616) : IntKind.u64.wrap n = ((n.toNat : Nat) : Int) := by
  rw [show ((n.toNat : Nat) : Int) = n by omega]; exact Go.IntWalk.u64_in _ (by omega)
theorem vecW_step {most : Int} {s : WS} {v : List Int} {k : Nat} {n : Int} (h : v[k]? = some n) : wputs most s (vecW (v.take (k + 1))) = wput most (wputs most s (vecW (v.take k))) (numB (zz n)) := by
  unfold vecW; rw [List.take_add_one, h, List.map_append, wputs_append]; rfl
theorem flatW_step {β : Type} {most : Int} {s : WS} {l : List β} {k : Nat} {x : β} {f : β → List (List UInt8)} (h : l[k]? = some x) : wputs most s ((l.take (k + 1)).flatMap f) = wputs most (wputs most s ((l.take k).flatMap f)) (f x) := by
  rw [flat_step h, wputs_append]
theorem flat_done {β γ δ : Type} {l : List β} {f : β → γ} {g : γ → List δ} : ((l.map f).take l.length).flatMap g = (l.map f).flatMap g := by rw [List.take_of_length_le (by simp)]
theorem vec_in {v : List Int} {k : Nat} {n : Int} (h : mayVec v = true) (hn : v[k]? = some n) : -9223372036854775808 ≤ n ∧ n ≤ 9223372036854775807 := by
  have := of_decide_eq_true (all_get (f := fun n => decide (0 ≤ n ∧ n ≤ 1099511627776)) h hn); omega
theorem maySib_and {v : List Int} {l : List PVal} (h : maySib (v, l) = true) : mayVec v = true ∧ l.length ≤ 16 ∧ rall l.length (okAt v l) = true := by
  unfold maySib at h; simp only [Bool.and_eq_true, decide_eq_true_eq] at h; exact ⟨h.1.1, h.1.2, h.2⟩
theorem mayDig_and {k : List UInt8} {v : List Int} {l : List PDot} (h : mayDig (k, v, l) = true) : mayKey k = true ∧ mayVec v = true ∧ l.length ≤ 16 ∧ rall l.length (dotAt v l) = true := by
  unfold mayDig at h; simp only [Bool.and_eq_true, decide_eq_true_eq] at h; exact ⟨h.1.1.1, h.1.1.2, h.1.2, h.2⟩
theorem mayEnt_and {k : List UInt8} {s : PSib} (h : mayEnt (k, s) = true) : mayKey k = true ∧ maySib s = true := by
  unfold mayEnt at h; simpa using h
theorem mayKey_in {k : List UInt8} (h : mayKey k = true) : 1 ≤ k.length ∧ k.length ≤ 32 := of_decide_eq_true h
theorem mayMem_in {d : PDot} (h : mayMem d = true) : 0 ≤ d.1 ∧ d.1 ≤ 2 ∧ 0 ≤ d.2 ∧ d.2 ≤ 1099511627776 := of_decide_eq_true h
theorem getD_max {v : List Int} (h : mayVec v = true) (j : Nat) : v.getD j 0 ≤ 1099511627776 := by
  rw [List.getD_eq_getElem?_getD]
  cases hn : v[j]? with
  | none => simp
  | some n => exact (of_decide_eq_true (all_get (f := fun n => decide (0 ≤ n ∧ n ≤ 1099511627776)) h hn)).2
theorem covers_in {v : List Int} {d : PDot} (hv : mayVec v = true) (h : covers v d = true) : 0 ≤ d.1 ∧ d.1 < 8 ∧ 1 ≤ d.2 ∧ d.2 ≤ 1099511627776 := by
  have h1 := of_decide_eq_true h
  have := getD_max hv d.1.toNat
  omega
theorem dotAt_in {v : List Int} {l : List PDot} {k : Nat} {x : PDot} (hv : mayVec v = true) (h : rall l.length (dotAt v l) = true) (hx : l[k]? = some x) : 0 ≤ x.1 ∧ x.1 < 8 ∧ 1 ≤ x.2 ∧ x.2 ≤ 1099511627776 := by
  have h1 := rall_get h (List.getElem?_eq_some_iff.1 hx).1
  rw [dotAt_eq hx, Bool.and_eq_true] at h1
  exact covers_in hv h1.1
theorem okAt_in {v : List Int} {l : List PVal} {k : Nat} {x : PVal} (hv : mayVec v = true) (h : rall l.length (okAt v l) = true) (hx : l[k]? = some x) : (0 ≤ x.1.1 ∧ x.1.1 < 8 ∧ 1 ≤ x.1.2 ∧ x.1.2 ≤ 1099511627776) ∧ x.2.1.length ≤ 200 := by
  have h1 := rall_get h (List.getElem?_eq_some_iff.1 hx).1
  unfold okAt valAt at h1
  rw [hx, dotAt_eq (map_get (·.1) hx)] at h1
  simp only [Bool.and_eq_true] at h1
  refine ⟨covers_in hv h1.2.1, ?_⟩
  have h2 := h1.1
  unfold okV at h2
  simp only [Bool.and_eq_true, decide_eq_true_eq] at h2
  exact h2.1
theorem mayM_and {x : PMsg} (h : mayM x = true) : okM (plP x) ∧ (plP x).ents.all mayEnt = true ∧ (plP x).digs.all mayDig = true ∧ (plP x).mems.all mayMem = true := by
  unfold mayM mayPl at h; simp only [Bool.and_eq_true, decide_eq_true_eq] at h; exact ⟨h.1, h.2.1, h.2.2.1, h.2.2.2⟩
theorem kind_in {k : Int} (h : partsI k ≠ 0) : 1 ≤ k ∧ k ≤ 9 := by
  obtain ⟨p, hp⟩ : ∃ p, p = partsI k := ⟨_, rfl⟩
  rw [← hp] at h; unfold partsI at hp
  repeat' split at hp
  all_goals omega
theorem mostP_le (k : Int) : mostP k ≤ 256 := by unfold mostP; split <;> omega
theorem wputs_len {most : Int} (l : List (List UInt8)) : ∀ {s : WS}, (s.1.length : Int) ≤ max 0 most → ((wputs most s l).1.length : Int) ≤ max 0 most := by
  induction l with
  | nil => intro s h; exact h
  | cons b l ih => intro s h; exact ih (s := wput most s b) (wput_len h)
theorem encS_len (x : PMsg) : (encS x).1.length ≤ 60000 := by
  have := wputs_len (most := 60000) (msgW x) (s := ([], false)) (by simp only [List.length_nil]; omega)
  unfold encS; omega
theorem encB_no {x : PMsg} (h : mayM x = false) : encB x = [] := by unfold encB; rw [h]; rfl
theorem encE_no {x : PMsg} (h : mayM x = false) : encE x = 1 := by unfold encE; rw [h]; rfl
theorem encB_yes {x : PMsg} (h : mayM x = true) : encB x = doneB (encS x) := by unfold encB; rw [h]; rfl
theorem encE_yes {x : PMsg} (h : mayM x = true) : encE x = doneE (encS x) := by unfold encE; rw [h]; rfl
/-! ### Arguments -/
theorem slAt_cast {w : World} {q : Option Addr} {n sz : Nat} {ys zs : List Value} (h : SlAt w q n sz ys) (e : ys = zs) : SlAt w q n sz zs := e ▸ h
theorem flat_congr {β γ : Type} {f g : β → List γ} {L : List β} (h : ∀ e, f e = g e) : L.flatMap f = L.flatMap g := by rw [show f = g from funext h]
theorem flat_ints (l : List Int) : l.flatMap (fun n => [Value.int .i64 n]) = i64s l := by
  induction l with
  | nil => rfl
  | cons n l ih => rw [List.flatMap_cons, ih]; rfl
theorem ValsAt.old {W W' w : World} {l l' : List HP} {x : Sli ValT} (h : Sat W l w) (s : Sel (Old W') l l') (hv : ValsAt W' x) : ValsAt w x := ⟨h.slOfOld s hv.1, fun v hm => ⟨h.slOfOld s (hv.2.1 v hm).1, (hv.2.1 v hm).2⟩, hv.2.2⟩
theorem DotsAt.old {W W' w : World} {l l' : List HP} {x : Sli DotT} (h : Sat W l w) (s : Sel (Old W') l l') (hv : DotsAt W' x) : DotsAt w x := ⟨h.slOfOld s hv.1, hv.2⟩
theorem EntsAt.old {W W' w : World} {l l' : List HP} {x : Sli EntT} (h : Sat W l w) (s : Sel (Old W') l l') (hv : EntsAt W' x) : EntsAt w x := ⟨h.slOfOld s hv.1, fun e hm => ⟨(hv.2.1 e hm).1, (hv.2.1 e hm).2.old h s⟩, hv.2.2⟩
theorem DigsAt.old {W W' w : World} {l l' : List HP} {x : Sli DigT} (h : Sat W l w) (s : Sel (Old W') l l') (hv : DigsAt W' x) : DigsAt w x := ⟨h.slOfOld s hv.1, fun e hm => ⟨(hv.2.1 e hm).1, (hv.2.1 e hm).2.old h s⟩, hv.2.2⟩
/-! ### The message that every program must know -/
def awakeP : PMsg := ⟨4, 1, 2, 3, 0, [97], 0, [], [], []⟩
theorem awake_may : mayM awakeP = true := by decide
theorem awake_w : msgW awakeP = [[4], [1], [2], [6], [1, 97]] := by
  have e1 : hasP 0 4 = true := by decide
  have e2 : hasP 1 4 = false := by decide
  have e3 : hasP 2 4 = true := by decide
  have e4 : hasP 3 4 = false := by decide
  have e5 : hasP 4 4 = false := by decide
  have e6 : hasP 5 4 = false := by decide
  have e7 : hasP 6 4 = false := by decide
  simp [msgW, awakeP, e1, e2, e3, e4, e5, e6, e7, plW, zz, textB, numB_lt]
theorem awake_s : encS awakeP = ([4, 1, 2, 6, 1, 97], false) := by unfold encS; rw [awake_w]; decide
theorem awake_b : encB awakeP = [4, 1, 2, 6, 1, 97] := by rw [encB_yes awake_may, awake_s]; rfl
theorem awake_e : encE awakeP = 0 := by rw [encE_yes awake_may, awake_s]; rfl
end Go.Sl
