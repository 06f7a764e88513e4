/-
  Rows of structs: writing an element, or a part of one; reading a part of one.
  Conditions: none; it speaks of every program of the model.
-/
import Derived.Test.YtcflbdpjoanbgaaGreatLp1
import Derived.Test.YtcflbdpjoanbgaaGreatOp1
namespace Go.Sl
open Go
set_option linter.unusedSimpArgs false
set_option linter.unusedVariables false

theorem Sat.rwCell {W w : World} {l : List HP} {T sz len cap b : Nat} {xs : List Value} (h : Sat W (Rw T sz (some ⟨b, 0, none⟩) len cap xs :: l) w) {i : Nat} (hi : i < xs.length) (v : Value) :
    w.cell? ⟨b, i, none⟩ = some xs[i] ∧ w.frozen? ⟨b, i, none⟩ = false ∧ Sat W (Rw T sz (some ⟨b, 0, none⟩) len cap (xs.set i v) :: l) (w.setCell ⟨b, i, none⟩ v) := by
  obtain ⟨hlx, hlc, hcm, _⟩ := h.rwLen .head
  obtain ⟨_, _, ⟨_, _, _, h4⟩, _, _, hs, _⟩ := h.has
  rcases h4 with ⟨hp', _⟩ | ⟨b', sp, hp', hbk, hspl⟩
  · cases hp'
  · cases hp'
    have hw := hs _ _ hbk
    simp only at hw
    have hcell : w.cell? ⟨b, i, none⟩ = some xs[i] := by simp [World.cell?, hw, List.getElem?_append_left hi, hi]
    have hfr : w.frozen? ⟨b, i, none⟩ = false := frozen_false hw (by omega)
    have hset : w.setCell ⟨b, i, none⟩ v = w.setRow b ((xs ++ sp).set i v).toArray := by
      have : ∀ j : Nat, (w.setCell ⟨b, i, none⟩ v).heap[j]? = (w.setRow b ((xs ++ sp).set i v).toArray).heap[j]? := by
        intro j
        rw [heap_setCell_at]
        by_cases e : b = j
        · subst e
          rw [if_pos rfl, setRow_heap w b _ _ _ _ hw, hw]
          simp
        · rw [if_neg e, setRow_other w b j _ (Ne.symm e)]
      have h2 : (w.setCell ⟨b, i, none⟩ v).heap = (w.setRow b ((xs ++ sp).set i v).toArray).heap := Array.ext_getElem? this
      unfold World.setCell World.setRow at *
      simp only [World.mk.injEq, and_true, true_and] at *
      exact h2
    refine ⟨hcell, hfr, ?_⟩
    rw [hset]
    exact h.rwSet rfl (by simp [hlx]) hlc sp (by rw [List.set_append_left _ _ hi]) hspl
theorem Sat.storeRw {P : Program} {W : World} {l : List HP} {T sz len cap b : Nat} : ∀ (vs xs : List Value) (i j : Nat) (w : World), Sat W (Rw T sz (some ⟨b, 0, none⟩) len cap xs :: l) w → j + i + vs.length ≤ xs.length → (∀ v ∈ vs, v.oneCell' = true) →
    ∃ w', (storeCells ⟨b, j, none⟩ vs i).run P w = .ok () w' ∧ Sat W (Rw T sz (some ⟨b, 0, none⟩) len cap (xs.take (j + i) ++ vs ++ xs.drop (j + i + vs.length)) :: l) w'
  | [], xs, i, j, w, h, _, _ => ⟨w, by simp [storeCells], by simpa using h⟩
  | v :: vs, xs, i, j, w, h, hl, h1 => by
    have hlt : j + i < xs.length := by simp at hl; omega
    obtain ⟨hc, hf, h2⟩ := h.rwCell hlt v
    have e : (⟨b, j, none⟩ : Addr).add i = ⟨b, j + i, none⟩ := addr_add b j i
    obtain ⟨w', hr, hs⟩ := Sat.storeRw (P := P) vs (xs.set (j + i) v) (i + 1) j (w.setCell ⟨b, j + i, none⟩ v) h2 (by simp at hl ⊢; omega) (fun u hu => h1 u (by simp [hu]))
    refine ⟨w', ?_, ?_⟩
    · have hv := h1 v (by simp)
      simp only [storeCells, e]
      rw [← hr]
      cases v <;> simp_all [Value.oneCell', Sem.run_bind, Go.store, Sem.run, Result.andThen]
    · rw [show j + (i + 1) = j + i + 1 from by omega] at hs
      rw [set_take_drop xs vs v (j + i) hlt] at hs
      exact hs

theorem flat_put {β : Type} {cells : β → List Value} {sz : Nat} (hlen : ∀ b, (cells b).length = sz) : ∀ (L : List β) (i : Nat) (m m' : β) (off : Nat) (vs : List Value), L[i]? = some m → cells m' = (cells m).take off ++ vs ++ (cells m).drop (off + vs.length) → off + vs.length ≤ sz →
    (L.flatMap cells).take (i * sz + off) ++ vs ++ (L.flatMap cells).drop (i * sz + off + vs.length) = (L.set i m').flatMap cells
  | [], i, m, m', off, vs, h, _, _ => by simp at h
  | x :: L, 0, m, m', off, vs, h, hm, ho => by
    simp only [List.getElem?_cons_zero, Option.some.injEq] at h
    subst h
    have hx := hlen x
    simp only [List.flatMap_cons, List.set_cons_zero, Nat.zero_mul, Nat.zero_add]
    rw [hm, List.take_append_of_le_length (by omega), List.drop_append_of_le_length (by omega)]
    simp only [List.append_assoc]
  | x :: L, i + 1, m, m', off, vs, h, hm, ho => by
    have ih := flat_put hlen L i m m' off vs (by simpa using h) hm ho
    have hx := hlen x
    simp only [List.flatMap_cons, List.set_cons_succ]
    rw [← ih, show (i + 1) * sz + off = (cells x).length + (i * sz + off) from by rw [hx, Nat.add_mul]; omega, List.take_length_add_append, show (cells x).length + (i * sz + off) + vs.length = (cells x).length + (i * sz + off + vs.length) from by omega, List.drop_length_add_append]
    simp only [List.append_assoc]

section
variable {P : Program} {ops : Array Oper} {Q : Exit → Act → World → Prop} {K : Act → World → Prop} {a : Act} {w : World} {n : Nat} {L : List (Nat × Value)} {o : Oper} {W : World} {l l' : List HP} {S : World → Prop}
/-- An element of a row of structs is written, or the part of it from off on. -/
theorem st_storeEl {β : Type} {cells : β → List Value} {t T : TypeId} {x y : Operand} {v : Value} {vs : List Value} {ad A : Addr} {i off sz szt len cap : Nat} {E : List β} {m m' : β} (hf : Fits n a L) (hn : Wn ops a o true) (hS : Sat W l w) (ho : o.op = .store t x y) (hx : ev L x = some (.pointer (some A))) (hy : ev L y = some v) (hc : v.cells = vs.toArray) (hsz : (P.info? t).map (·.size) = some szt) (hl : vs.length = szt) (h1 : vs.all (·.oneCell') = true)
    (s : Sel (Rw T sz (some ad) len cap (E.flatMap cells)) l l') (hlen : ∀ b, (cells b).length = sz) (hA : A = ad.add (i * sz + off)) (hm : E[i]? = some m) (hm' : cells m' = (cells m).take off ++ vs ++ (cells m).drop (off + vs.length)) (ho2 : off + vs.length ≤ sz) (hd : o.dst = none)
    (k : ∀ a' w', Fits n a' L → Sat W (Rw T sz (some ad) len cap ((E.set i m').flatMap cells) :: l') w' → K a' w') : opWp P ops Q o K a w := by
  obtain ⟨inf, hi', hz'⟩ := Option.map_eq_some_iff.1 hsz
  have hS1 := hS.sel s
  obtain ⟨b, rfl⟩ : ∃ b, ad = ⟨b, 0, none⟩ := by
    obtain ⟨_, _, ⟨_, _, _, h4⟩, _⟩ := hS1.has
    rcases h4 with ⟨hp', _⟩ | ⟨b', sp, hp', _⟩
    · cases hp'
    · cases hp'; exact ⟨b', rfl⟩
  rw [addr_add, Nat.zero_add] at hA
  have hil := (List.getElem?_eq_some_iff.1 hm).1
  have hfl := flatMap_len hlen E
  have hle : i * sz + off + vs.length ≤ (E.flatMap cells).length := by
    rw [hfl]
    have : (i + 1) * sz ≤ E.length * sz := Nat.mul_le_mul_right sz hil
    rw [Nat.add_mul] at this
    omega
  obtain ⟨w', hr, hs⟩ := Sat.storeRw (P := P) vs (E.flatMap cells) 0 (i * sz + off) w hS1 (by omega) (by simpa using h1)
  simp only [Nat.add_zero] at hs
  rw [flat_put hlen E i m m' off vs hm hm' ho2] at hs
  refine st_eff0 (w' := w') hf hn ?_ hd fun a' hf' => k a' w' hf' hs
  have e : v.cells.size = inf.size := by rw [hc, hz']; simpa using hl
  have e2 : v.cells.toList = vs := by rw [hc]
  subst hA
  simp [execOp, ho, hf.ev hx, hf.ev hy, Instr.storeAt, Instr.sureAddr, storeVar, sizeOf, typeInfo, hi', e, e2, hr]
end
/-- A part of an element of a row of structs. -/
theorem SlAt.fld {β : Type} {cells : β → List Value} {sz n off : Nat} {w : World} {ad : Addr} {L : List β} {i : Nat} {x : β} {v : Value} (h : SlAt w (Option.some ad) n sz (L.flatMap cells)) (hlen : ∀ b, (cells b).length = sz) (hx : L[i]? = Option.some x) (hk : (cells x)[off]? = Option.some v) : w.cell? ((ad.add (i * sz)).add off) = Option.some v :=
  (h.elem hlen hx).2 off v hk
theorem add_mul_add (ad : Addr) (i sz off : Nat) : (ad.add (i * sz)).add off = ad.add (i * sz + off) := add_add _ _ _
theorem add_mul_zero (ad : Addr) (i sz : Nat) : ad.add (i * sz) = ad.add (i * sz + 0) := rfl

/-- A row of whole numbers. -/
abbrev i64s (l : List Int) : List Value := l.map (Value.int .i64)
theorem i64s_get {l : List Int} {k : Nat} {x : Int} (h : l[k]? = some x) : (i64s l)[k]? = some (.int .i64 x) := by simp [i64s, h]
theorem i64s_set (l : List Int) (k : Nat) (x : Int) : i64s (l.set k x) = (i64s l).set k (.int .i64 x) := by simp [i64s, List.map_set]
theorem i64s_one (l : List Int) : (i64s l).all (·.oneCell') = true := by simp [Value.oneCell']
theorem made_i64 (n : Nat) : (madeCells (Value.int .i64 0).cells (n * 1)).toList = i64s (List.replicate n 0) := by
  apply List.ext_getElem
  · simp [madeCells]
  · intro i h1 h2
    simp [madeCells, Value.cells, Nat.mod_one]
theorem rd_indexAddrA {P : Program} {S : World → Prop} {a : Act} {n : Nat} {L : List (Nat × Value)} {o : Oper} {t e : TypeId} {x y : Operand} {b j k sz i : Nat} {kd : IntKind} (hf : Fits n a L) (ho : o.op = .indexAddr t x y) (hx : ev L x = some (.pointer (some ⟨b, j, none⟩))) (hy : ev L y = some (.int kd (i : Int))) (ht : P.underlying t = some (.array k e)) (hz : (P.info? e).map (·.size) = some sz)
    (h1 : i < k) : Rd P a o S (.pointer (some ⟨b, j + i * sz, none⟩)) := fun w _ => by
  obtain ⟨inf, hi, hz'⟩ := Option.map_eq_some_iff.1 hz
  have h2 : (i : Int) < (k : Int) := by omega
  simp [execOp, ho, hf.ev hx, hf.ev hy, Instr.indexAt, asIntOf, Instr.sureAddr, run_underlying ht, sizeOf, typeInfo, hi, hz', h2, addr_add]
  intro h; omega
end Go.Sl
