/-
  Maps from int to uint32 of which each entry is known by its key: make, look up, set.
  Conditions: none; it speaks of every program of the model.
-/
import Derived.Test.YtmjfmcgpmlfnbaaLz1
import Derived.MapKept
import Derived.Carry
namespace Go.Sl
open Go
set_option linter.unusedSimpArgs false
set_option linter.unusedVariables false

/-- A map at r: each key has the value that F tells. -/
def MpP (r : Nat) (F : Int → B32) : HP := fun m => ∃ es clock, m r = some (.map es clock) ∧ ∀ e ∈ es.toList, ∃ i : Int, e.key = .int .i64 i ∧ e.val = u32v (F i)
theorem findNow_mp {F : Int → B32} {a : Int} : ∀ (l : List MapEntry) (i : Nat), (∀ e ∈ l, ∃ i : Int, e.key = .int .i64 i ∧ e.val = u32v (F i)) →
    Instr.findNow (.int .i64) (.int .i64 a) l i = some none ∨ ∃ k e, Instr.findNow (.int .i64) (.int .i64 a) l i = some (some (i + k, e.val)) ∧ l[k]? = some e ∧ e.key = .int .i64 a ∧ e.val = u32v (F a)
  | [], i, _ => .inl rfl
  | e :: l, i, h => by
    obtain ⟨j, hj, hv⟩ := h e List.mem_cons_self
    by_cases hja : a = j
    · subst hja
      refine .inr ⟨0, e, ?_, rfl, hj, hv⟩
      simp [Instr.findNow, hj, Instr.sameNow]
    · have hne : Instr.sameNow (.int .i64) (.int .i64 a) e.key = some false := by simp [hj, Instr.sameNow, hja]
      rcases findNow_mp l (i + 1) (fun e he => h e (List.mem_cons_of_mem _ he)) with h2 | ⟨k, e2, h2, h3, h4, h5⟩
      · exact .inl (by simp only [Instr.findNow, hne]; exact h2)
      · refine .inr ⟨k + 1, e2, ?_, by simpa using h3, h4, h5⟩
        simp only [Instr.findNow, hne]
        rw [h2, show i + 1 + k = i + (k + 1) from by omega]

section
variable {P : Program} {ops : Array Oper} {Q : Exit → Act → World → Prop} {K : Act → World → Prop} {a : Act} {w : World} {n : Nat} {L : List (Nat × Value)} {o : Oper} {W : World} {l l' : List HP} {S : World → Prop}
theorem Sat.mp {r : Nat} {F : Int → B32} (h : Sat W l w) (s : Sel (MpP r F) l l') : ∃ es clock, w.heap[r]? = some (.map es clock) ∧ ∀ e ∈ es.toList, ∃ i : Int, e.key = .int .i64 i ∧ e.val = u32v (F i) := by
  obtain ⟨h1, _, ⟨es, clock, hm, he⟩, _, _, hs, _⟩ := (h.sel s).has
  exact ⟨es, clock, hs _ _ hm, he⟩
theorem run_lookup_mp {t kt et r : Nat} {F : Int → B32} {x : Int} (ht : P.underlying t = some (.map kt et)) (hk : P.underlying kt = some (.int .i64)) (hz : (P.info? et).bind (·.zero) = some (.int .u32 0)) (hS : Sat W l w) (s : Sel (MpP r F) l l') :
    ∃ (c : B32) (b : Bool), (Instr.lookup t (.map (some r)) (.int .i64 x) true).run P w = .ok (.tuple #[u32v c, .bool b]) w ∧ (b = true → c = F x) := by
  obtain ⟨es, clock, hb, he⟩ := hS.mp s
  have hc : ∀ em, (Instr.checkKey em 10000 kt (.int .i64 x)).run P w = .ok () w := fun em => MapKept.run_checkKey (k := .int .i64 x) hk (by simp [MapKept.IsKey]) em 9999
  have hzv : (zeroValue et).run P w = .ok (.int .u32 0) w := by
    cases hi : P.info? et with
    | none => rw [hi] at hz; cases hz
    | some i => rw [hi] at hz; simp only [Option.bind_some] at hz; simp [zeroValue, typeInfo, hi, hz]
  rcases findNow_mp es.toList 0 he (a := x) with h | ⟨k, e, h, h3, h4, h5⟩
  · refine ⟨0#32, false, ?_, fun h => by cases h⟩
    have hf := MapKept.run_findKey (P := P) (w := w) hk h
    simp [Instr.lookup, run_underlying ht, MapKept.run_getObj_map hb, hc, hf, hzv, Result.andThen]
  · refine ⟨F x, true, ?_, fun _ => rfl⟩
    have hf := MapKept.run_findKey (P := P) (w := w) hk h
    simp [Instr.lookup, run_underlying ht, MapKept.run_getObj_map hb, hc, hf, Result.andThen, h5]
theorem run_mapUpdate_mp {t kt et r : Nat} {F : Int → B32} {x : Int} (ht : P.underlying t = some (.map kt et)) (hk : P.underlying kt = some (.int .i64)) (hS : Sat W (MpP r F :: l) w) :
    ∃ w', (Instr.mapUpdate t (.map (some r)) (.int .i64 x) (u32v (F x))).run P w = .ok () w' ∧ Sat W (MpP r F :: l) w' := by
  obtain ⟨es, clock, hb, he⟩ := hS.mp .head
  have hc : (Instr.checkKey false 10000 kt (.int .i64 x)).run P w = .ok () w := MapKept.run_checkKey (k := .int .i64 x) hk (by simp [MapKept.IsKey]) false 9999
  have wr : ∀ es' clock', (∀ e ∈ es'.toList, ∃ i : Int, e.key = .int .i64 i ∧ e.val = u32v (F i)) → Sat W (MpP r F :: l) { w with heap := w.heap.setIfInBounds r (.map es' clock') } := fun es' clock' h' => by
    refine hS.write rfl rfl rfl fun m ⟨es0, c0, hm, _⟩ hs => ?_
    obtain ⟨k1, k2⟩ := MapKept.heap_set (o' := .map es' clock') hb
    refine ⟨fun b => if b = r then some (.map es' clock') else m b, ⟨es', clock', by simp, h'⟩, fun b o hbo => ?_, fun b hbn => ?_, fun b hbn => ?_⟩
    · by_cases h : b = r
      · subst h; simp at hbo; subst hbo; exact k1
      · simp [h] at hbo; rw [k2 b h]; exact hs b o hbo
    · by_cases h : b = r
      · subst h; rw [hm] at hbn; cases hbn
      · exact .inl (k2 b h).symm
    · by_cases h : b = r
      · subst h; rw [hm] at hbn; cases hbn
      · exact .inl (by simp [h, hbn])
  rcases findNow_mp es.toList 0 he (a := x) with h | ⟨k, e, h, h3, h4, h5⟩
  · have hf := MapKept.run_findKey (P := P) (w := w) hk h
    refine ⟨_, ?_, wr (es.push { key := .int .i64 x, val := u32v (F x), born := clock }) (clock + 1) fun e' he' => ?_⟩
    · simp [Instr.mapUpdate, run_underlying ht, MapKept.run_getObj_map hb, hc, hf, MapKept.run_setObj_map _ hb, Result.andThen]
    · rw [Array.toList_push, List.mem_append, List.mem_singleton] at he'
      rcases he' with h | rfl
      · exact he e' h
      · exact ⟨x, rfl, rfl⟩
  · have hf := MapKept.run_findKey (P := P) (w := w) hk h
    have hke : es[0 + k]? = some e := by rw [Nat.zero_add]; simpa using h3
    have hst : (Instr.keyThatStays e.key (.int .i64 x)).run P w = .ok (.int .i64 x) w := by simp [Instr.keyThatStays, h4, Instr.sameBits]
    refine ⟨_, ?_, wr (es.modify (0 + k) fun e => { e with key := .int .i64 x, val := u32v (F x) }) clock fun e' he' => ?_⟩
    · simp only [Nat.zero_add] at hf hke ⊢
      simp [Instr.mapUpdate, run_underlying ht, MapKept.run_getObj_map hb, hc, hf, hke, hst, MapKept.run_setObj_map _ hb, Result.andThen]
    · obtain ⟨j, hj⟩ := List.mem_iff_getElem?.1 he'
      rw [Array.getElem?_toList, Array.getElem?_modify] at hj
      split at hj
      · simp only [Option.map_eq_some_iff] at hj
        obtain ⟨e0, _, rfl⟩ := hj
        exact ⟨x, rfl, rfl⟩
      · exact he e' (List.mem_of_getElem? (i := j) (by rw [Array.getElem?_toList]; exact hj))
theorem st_lookupMp {t kt et : TypeId} {x y : Operand} {r d : Nat} {F : Int → B32} {i : Int} (hf : Fits n a L) (hn : Wn ops a o true) (ho : o.op = .lookup t x y true) (hx : ev L x = some (.map (some r))) (hy : ev L y = some (.int .i64 i)) (ht : P.underlying t = some (.map kt et)) (hk : P.underlying kt = some (.int .i64)) (hz : (P.info? et).bind (·.zero) = some (.int .u32 0)) (hS : Sat W l w) (s : Sel (MpP r F) l l') (hd : o.dst = some d) (hlt : Nat.blt d n = true)
    (k : ∀ (c : B32) (b : Bool) a', (b = true → c = F i) → Fits n a' ((d, .tuple #[u32v c, .bool b]) :: L) → K a' w) : opWp P ops Q o K a w := by
  obtain ⟨c, b, hr, hb⟩ := run_lookup_mp (P := P) ht hk hz hS s (x := i)
  exact st_eff (w' := w) hf hn (by simp [execOp, ho, hf.ev hx, hf.ev hy, hr]) hd hlt fun a' hf' => k c b a' hb hf'
theorem st_makeMapMp {t : TypeId} {d : Nat} (F : Int → B32) (hf : Fits n a L) (hn : Wn ops a o true) (ho : o.op = .makeMap t none) (hS : Sat W l w) (hd : o.dst = some d) (hlt : Nat.blt d n = true)
    (k : ∀ r a' w', Fits n a' ((d, .map (some r)) :: L) → Sat W (MpP r F :: l) w' → K a' w') : opWp P ops Q o K a w := by
  refine st_eff (w' := w.alloc (.map #[] 0)) (v := .map (some w.heap.size)) hf hn (by simp [execOp, ho, Instr.makeMap]) hd hlt fun a' hf' => k w.heap.size a' _ hf' ?_
  exact hS.alloc (p := MpP w.heap.size F) fun m hm _ => ⟨#[], 0, hm, by simp⟩
theorem st_mapUpdateMp {t kt et : TypeId} {x y z : Operand} {r : Nat} {F : Int → B32} {i : Int} {c : B32} (hf : Fits n a L) (hn : Wn ops a o true) (ho : o.op = .mapUpdate t x y z) (hx : ev L x = some (.map (some r))) (hy : ev L y = some (.int .i64 i)) (hz : ev L z = some (u32v c)) (ht : P.underlying t = some (.map kt et)) (hk : P.underlying kt = some (.int .i64)) (hS : Sat W l w) (s : Sel (MpP r F) l l') (hc : c = F i) (hd : o.dst = Option.none)
    (k : ∀ a' w', Fits n a' L → Sat W (MpP r F :: l') w' → K a' w') : opWp P ops Q o K a w := by
  subst hc
  obtain ⟨w', hr, hs⟩ := run_mapUpdate_mp (P := P) ht hk (hS.sel s) (x := i)
  exact st_eff0 (w' := w') hf hn (by simp [execOp, ho, hf.ev hx, hf.ev hy, hf.ev hz, hr]) hd fun a' hf' => k a' w' hf' hs
end
end Go.Sl
