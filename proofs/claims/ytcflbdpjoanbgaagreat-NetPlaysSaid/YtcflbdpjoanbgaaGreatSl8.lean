/-
  Making a row, writing one element of a row.
  Conditions: none; it speaks of every program of the model.
-/
import Derived.Test.YtcflbdpjoanbgaaGreatSl7
namespace Go.Sl
open Go
set_option linter.unusedSimpArgs false
set_option linter.unusedVariables false

section
variable {P : Program} {ops : Array Oper} {Q : Exit → Act → World → Prop} {K : Act → World → Prop} {a : Act} {w : World} {n : Nat} {L : List (Nat × Value)} {o : Oper} {W : World} {l l' : List HP} {S : World → Prop}

theorem st_make {t e : TypeId} {x y : Operand} {d len sz by' : Nat} {z : Value} (hf : Fits n a L) (hn : Wn ops a o true) (hS : Sat W l w) (ho : o.op = .makeSlice t x y) (hx : ev L x = some (.int .i64 (len : Int))) (hy : ev L y = some (.int .i64 (len : Int)))
    (ht : P.underlying t = some (.slice e)) (hi : TyB P e z sz by') (hb : len * by' ≤ 281474976710656) (hm : len ≤ maxLen) (hd : o.dst = some d) (hlt : Nat.blt d n = true)
    (k : ∀ b a' w', Fits n a' ((d, .slice (some ⟨b, 0, none⟩) len len) :: L) → Sat W (Rw e sz (some ⟨b, 0, none⟩) len len (madeCells z.cells (len * sz)).toList :: l) w' → K a' w') : opWp P ops Q o K a w := by
  obtain ⟨i, hi1, hi2, hi3, hi4⟩ := hi.out
  have h63' : (len : Int) ≤ 9223372036854775807 := by simp only [maxLen] at hm; omega
  have hb' : (i.bytes : Int) * (len : Int) ≤ 281474976710656 := by
    have h : ((i.bytes * len : Nat) : Int) ≤ 281474976710656 := by rw [hi4, Nat.mul_comm]; omega
    rwa [Int.natCast_mul] at h
  have hr := run_make (P := P) w t e i z ht hi1 hi2 .i64 .i64 len len (by omega) (Int.le_refl _) hb' h63'
  simp only [Int.toNat_natCast] at hr
  rw [hi3] at hr
  refine st_eff (w' := w.alloc (.cells (madeCells z.cells (len * sz)) e)) hf hn (by simp [execOp, ho, hf.ev hx, hf.ev hy, hr]) hd hlt fun a' hf' => k _ a' _ hf' (hS.rwNew rfl (by simp [size_madeCells]) (Nat.le_refl _) hm [] (by simp) (by simp))

theorem st_storeRw {t T : TypeId} {x y : Operand} {v : Value} {ad : Addr} {i len cap : Nat} {xs : List Value} (hf : Fits n a L) (hn : Wn ops a o true) (hS : Sat W l w) (ho : o.op = .store t x y) (hx : ev L x = some (.pointer (some (ad.add i)))) (hy : ev L y = some v) (hc : v.cells = #[v]) (hsz : (P.info? t).map (·.size) = some 1) (h1 : v.oneCell' = true)
    (s : Sel (Rw T 1 (some ad) len cap xs) l l') (hi : i < len) (hd : o.dst = none)
    (k : ∀ a' w', Fits n a' L → Sat W (Rw T 1 (some ad) len cap (xs.set i v) :: l') w' → K a' w') : opWp P ops Q o K a w := by
  obtain ⟨inf, hi', hz'⟩ := Option.map_eq_some_iff.1 hsz
  have hS1 := hS.sel s
  obtain ⟨hlx, hlc, hcm, _⟩ := hS1.rwLen .head
  obtain ⟨_, _, ⟨_, _, _, h4⟩, _, _, hs, _⟩ := hS1.has
  rcases h4 with ⟨hp', _⟩ | ⟨b, sp, hp', hbk, hspl⟩
  · cases hp'
  · cases hp'
    have hw := hs _ _ hbk
    simp only at hw
    have hlt : i < xs.length := by omega
    have hcell : w.cell? ⟨b, i, none⟩ = some xs[i] := by simp [World.cell?, hw, List.getElem?_append_left hlt, hlt]
    have hfr : w.frozen? ⟨b, i, none⟩ = false := frozen_false hw (by omega)
    have hset : w.setCell ⟨b, i, none⟩ v = w.setRow b ((xs ++ sp).set i v).toArray := by
      have : ∀ j : Nat, (w.setCell ⟨b, i, none⟩ v).heap[j]? = (w.setRow b ((xs ++ sp).set i v).toArray).heap[j]? := by
        intro j
        rw [heap_setCell_at]
        by_cases e : b = j
        · subst e
          rw [if_pos rfl, setRow_heap w b _ _ _ _ hw, hw]
          simp
        · rw [if_neg e, setRow_other w b j _ (Ne.symm e)]
      have h2 : (w.setCell ⟨b, i, none⟩ v).heap = (w.setRow b ((xs ++ sp).set i v).toArray).heap := Array.ext_getElem? this
      unfold World.setCell World.setRow at *
      simp only [World.mk.injEq, and_true, true_and] at *
      exact h2
    refine st_eff0 (w' := w.setCell ⟨b, i, none⟩ v) hf hn ?_ hd fun a' hf' => k a' _ hf' ?_
    · have e3 : (⟨b, 0, none⟩ : Addr).add i = ⟨b, i, none⟩ := by rw [addr_add, Nat.zero_add]
      have e4 : (⟨b, i, none⟩ : Addr).add 0 = ⟨b, i, none⟩ := by simp [Addr.add]
      have hst : (storeCells ⟨b, i, none⟩ [v]).run P w = .ok () (w.setCell ⟨b, i, none⟩ v) := by
        simp only [storeCells, e4]
        cases v <;> simp_all [Value.oneCell', Go.store, Sem.run]
      rw [e3] at hx
      simp [execOp, ho, hf.ev hx, hf.ev hy, Instr.storeAt, Instr.sureAddr, storeVar, sizeOf, typeInfo, hi', hz', hc, hst]
    · rw [hset]
      exact hS1.rwSet rfl (by simp [hlx]) hlc sp (by rw [List.set_append_left _ _ hlt]) hspl

end
end Go.Sl
