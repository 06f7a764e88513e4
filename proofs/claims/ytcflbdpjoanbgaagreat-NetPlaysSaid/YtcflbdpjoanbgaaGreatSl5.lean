/-
  Rows of cells behind slices: what can be read of them, building, appending, making; texts as bytes.
  Conditions: none; it speaks of every program of the model.
-/
import Derived.Test.YtcflbdpjoanbgaaGreatSl4
namespace Go.Sl
open Go
set_option linter.unusedSimpArgs false
set_option linter.unusedVariables false
set_option linter.unnecessarySimpa false

/-- In w a slice of n elements of sz cells that begins at q reads as ys. -/
def SlAt (w : World) (q : Option Addr) (n sz : Nat) (ys : List Value) : Prop :=
  ys.length = n * sz ∧ (n ≠ 0 → ∃ a, q = some a ∧ ∀ j u, ys[j]? = some u → w.cell? (a.add j) = some u)
/-- The whole block behind a slice that the call made: ys, then room. -/
def Rw (T sz : Nat) (p : Option Addr) (len cap : Nat) (xs : List Value) : HP := fun m =>
  xs.length = len * sz ∧ len ≤ cap ∧ cap ≤ maxLen ∧ ((p = none ∧ cap = 0) ∨ ∃ b spare, p = some ⟨b, 0, none⟩ ∧ m b = some (.cells (xs ++ spare).toArray T (0, 0)) ∧ spare.length = (cap - len) * sz)

theorem SlAt.nil (w : World) (q : Option Addr) (sz : Nat) : SlAt w q 0 sz [] := ⟨by simp, fun h => absurd rfl h⟩
theorem addr_add (b j i : Nat) : (⟨b, j, none⟩ : Addr).add i = ⟨b, j + i, none⟩ := by
  unfold Addr.add; split
  · rename_i h0; subst h0; simp
  · rfl
theorem SlAt.get {w : World} {a : Addr} {n sz : Nat} {ys : List Value} (h : SlAt w (some a) n sz ys) {j : Nat} {u : Value} (hu : ys[j]? = some u) : w.cell? (a.add j) = some u := by
  have hn : n ≠ 0 := by
    intro e
    have h1 := h.1
    rw [e, Nat.zero_mul] at h1
    simp [List.eq_nil_of_length_eq_zero h1] at hu
  obtain ⟨a', ha, h2⟩ := h.2 hn
  cases ha
  exact h2 j u hu
theorem SlAt.some {w : World} {q : Option Addr} {n sz : Nat} {ys : List Value} (h : SlAt w q n sz ys) (hn : n ≠ 0) : ∃ a, q = Option.some a := let ⟨a, ha, _⟩ := h.2 hn; ⟨a, ha⟩

theorem Sat.slOfRw {W w : World} {l l' : List HP} {T sz len cap : Nat} {p : Option Addr} {xs : List Value} (h : Sat W l w) (s : Sel (Rw T sz p len cap xs) l l') : SlAt w p len sz xs := by
  obtain ⟨_, _, ⟨h1, h2, h3, h4⟩, _, _, hs, _⟩ := (h.sel s).has
  refine ⟨h1, fun hn => ?_⟩
  rcases h4 with ⟨_, h5⟩ | ⟨b, spare, hp, hb, hsp⟩
  · omega
  · refine ⟨_, hp, fun j u hu => ?_⟩
    have hb' := hs _ _ hb
    simp only at hb'
    rw [addr_add]
    have hlt : j < xs.length := (List.getElem?_eq_some_iff.1 hu).1
    simp [World.cell?, hb', hu, List.getElem?_append_left hlt]
theorem Sat.rwLen {W w : World} {l l' : List HP} {T sz len cap : Nat} {p : Option Addr} {xs : List Value} (h : Sat W l w) (s : Sel (Rw T sz p len cap xs) l l') : xs.length = len * sz ∧ len ≤ cap ∧ cap ≤ maxLen ∧ (p = none → cap = 0) := by
  obtain ⟨_, _, ⟨h1, h2, h3, h4⟩, _, _, hs, _⟩ := (h.sel s).has
  refine ⟨h1, h2, h3, fun hp => ?_⟩
  rcases h4 with ⟨_, h5⟩ | ⟨b, spare, hp', _⟩
  · exact h5
  · rw [hp] at hp'; cases hp'
theorem Sat.slOfBlk {W w : World} {l l' : List HP} {b n sz : Nat} {cs : List Value} {T : TypeId} (h : Sat W l w) (s : Sel (Blk b cs T) l l') (hl : cs.length = n * sz) : SlAt w (some ⟨b, 0, none⟩) n sz cs :=
  ⟨hl, fun _ => ⟨_, rfl, fun j u hu => h.cellAdd s (by simpa using hu)⟩⟩
theorem Sat.slOfOld {W W' w : World} {l l' : List HP} {q : Option Addr} {n sz : Nat} {ys : List Value} (h : Sat W l w) (s : Sel (Old W') l l') (hv : SlAt W' q n sz ys) : SlAt w q n sz ys :=
  ⟨hv.1, fun hn => let ⟨a, ha, h2⟩ := hv.2 hn; ⟨a, ha, fun j u hu => h.oldCell s (h2 j u hu)⟩⟩

theorem rwNil (T sz : Nat) (m : PH) : Rw T sz none 0 0 [] m := ⟨by simp, by omega, by simp [maxLen], .inl ⟨rfl, rfl⟩⟩
theorem Sat.rwNil {W w : World} {l : List HP} (T sz : Nat) (h : Sat W l w) : Sat W (Rw T sz none 0 0 [] :: l) w :=
  h.imp fun _ hh => ⟨fun _ => none, _, Sl.rwNil T sz _, hh, fun _ => .inl rfl, fun _ _ e => by simp at e, fun _ _ e => e⟩

section
variable {P : Program} {ops : Array Oper} {Q : Exit → Act → World → Prop} {K : Act → World → Prop} {a : Act} {w : World} {n : Nat} {L : List (Nat × Value)} {o : Oper} {W : World} {l l' : List HP} {S : World → Prop}

/-- The type e: its zero's cells, how many, how many bytes. -/
def TyB (P : Program) (e : TypeId) (z : Value) (sz by' : Nat) : Prop := (P.info? e).map (fun i => (i.zero, i.size, i.bytes)) = some (some z, sz, by')
theorem TyB.out {e : TypeId} {z : Value} {sz by' : Nat} (h : TyB P e z sz by') : ∃ i, P.info? e = some i ∧ i.zero = some z ∧ i.size = sz ∧ i.bytes = by' := by
  obtain ⟨i, hi, hz⟩ := Option.map_eq_some_iff.1 h
  simp at hz
  exact ⟨i, hi, hz.1, hz.2.1, hz.2.2⟩

theorem run_firstCells {q : Option Addr} {m c sz : Nat} {ys : List Value} (h : SlAt w q m sz ys) : (Builtin.firstCells sz m (.slice q m c)).run P w = .ok ys.toArray w := by
  by_cases hm : m = 0
  · subst hm
    have : ys = [] := List.eq_nil_of_length_eq_zero (by simpa using h.1)
    subst this
    cases q <;> simp [Builtin.firstCells, loadCells, loadCellsFrom]
  · obtain ⟨ad, rfl, h2⟩ := h.2 hm
    have hr := run_loadCells (P := P) ad w ys 0 #[] (fun j v hj => by rw [Nat.zero_add]; exact h2 j v hj)
    have h1 := h.1
    rw [h1] at hr
    simpa [Builtin.firstCells, loadCells] using hr

theorem Sat.rwNew {p : Option Addr} {T sz len cap : Nat} {xs : List Value} {cs : Array Value} (h : Sat W l w) (hp : p = some ⟨w.heap.size, 0, none⟩) (hx : xs.length = len * sz) (hc : len ≤ cap) (hm : cap ≤ maxLen) (spare : List Value) (hcs : cs = (xs ++ spare).toArray) (hsp : spare.length = (cap - len) * sz) : Sat W (Rw T sz p len cap xs :: l) (w.alloc (.cells cs T)) :=
  h.alloc fun m h1 _ => ⟨hx, hc, hm, .inr ⟨_, spare, hp, by rw [h1, hcs], hsp⟩⟩

theorem Sat.rwSet {p : Option Addr} {T sz len cap len' : Nat} {b : Nat} {xs xs' : List Value} {cs : Array Value} (h : Sat W (Rw T sz p len cap xs :: l) w) (hp : p = some ⟨b, 0, none⟩) (hx : xs'.length = len' * sz) (hc : len' ≤ cap) (spare : List Value) (hcs : cs = (xs' ++ spare).toArray) (hsp : spare.length = (cap - len') * sz) : Sat W (Rw T sz p len' cap xs' :: l) (w.setRow b cs) := by
  refine h.write rfl rfl rfl ?_
  rintro m ⟨h1, h2, h3, h4⟩ hm
  rcases h4 with ⟨hp', _⟩ | ⟨b', sp, hp', hb, hl⟩
  · rw [hp] at hp'; cases hp'
  · rw [hp] at hp'
    cases hp'
    have hw := hm _ _ hb
    refine ⟨fun x => if x = b then some (.cells cs T (0, 0)) else none, ⟨hx, hc, h3, .inr ⟨b, spare, hp, by simp [hcs], hsp⟩⟩, ?_, ?_, ?_⟩
    · intro x o hx'
      by_cases e : x = b
      · subst e; simp at hx'; subst hx'; exact setRow_heap w x _ cs T (0, 0) hw
      · simp [e] at hx'
    · intro x hx'
      by_cases e : x = b
      · subst e; rw [hb] at hx'; cases hx'
      · left; exact (setRow_other w b x cs e).symm
    · intro x hx'
      by_cases e : x = b
      · subst e; rw [hb] at hx'; cases hx'
      · left; simp [e]

theorem grown_bound {need old : Nat} (e : TypeId) (h : need ≤ maxLen) : need ≤ grownCap w need old e ∧ grownCap w need old e ≤ maxLen := ⟨grownCap_ge w need old e, grownCap_le_maxLen w need old e h⟩

/-- append: what is known behind it. -/
theorem run_append_sl {t e ty : TypeId} {z : Value} {sz by' len cap m c : Nat} {p q : Option Addr} {xs ys : List Value} (ht : P.underlying t = some (.slice e)) (hi : TyB P e z sz by') (hzs : z.cells.size = sz) (h0 : 0 < by')
    (hS : Sat W (Rw e sz p len cap xs :: l) w) (hy : SlAt w q m sz ys) (h1 : ys.all (·.oneCell') = true) (hb : (len + m) * by' ≤ 140737488355328) :
    ∃ p' cap' w', (Builtin.append_ #[t, t] ty #[.slice p len cap, .slice q m c]).run P w = .ok (.slice p' (len + m) cap') w' ∧ Sat W (Rw e sz p' (len + m) cap' (xs ++ ys) :: l) w' ∧ (p' = none → len + m = 0) := by
  obtain ⟨i, hi1, hi2, hi3, hi4⟩ := hi.out
  obtain ⟨hlx, hlc, hcm, hpc⟩ := hS.rwLen .head
  have hsl := hS.slOfRw .head
  have hbound : len + m ≤ maxLen := by
    have : len + m ≤ (len + m) * by' := Nat.le_mul_of_pos_right _ h0
    simp only [maxLen]; omega
  have hlen : (xs ++ ys).length = (len + m) * sz := by rw [List.length_append, hlx, hy.1, Nat.add_mul]
  have hnew := run_firstCells (P := P) (c := c) hy
  have hold := run_firstCells (P := P) (c := cap) hsl
  by_cases hroom : len + m ≤ cap
  · cases hp : p with
    | none =>
      have hc0 := hpc hp
      have hl0 : len = 0 := by omega
      have hm0 : m = 0 := by omega
      subst hp; subst hl0; subst hm0; subst hc0
      have e1 : ys = [] := List.eq_nil_of_length_eq_zero (by simpa using hy.1)
      subst e1
      refine ⟨none, 0, w, ?_, by simpa using hS, fun _ => rfl⟩
      simp [Builtin.append_, run_underlying ht, sizeOf, typeInfo, hi1, hi3, Builtin.lenOf, hnew]
    | some ad =>
      subst hp
      obtain ⟨_, _, ⟨_, _, _, h4⟩, _, _, hs, _⟩ := hS.has
      rcases h4 with ⟨hp', _⟩ | ⟨b, sp, hp', hbk, hspl⟩
      · cases hp'
      · cases hp'
        have hw := hs _ _ hbk
        simp only at hw
        have h1' : ∀ u ∈ ys, u.oneCell' = true := by simpa using h1
        have hfit : len * i.size + ys.length ≤ (xs ++ sp).toArray.size := by
          simp only [List.size_toArray, List.length_append, hlx, hspl, hy.1, hi3, ← Nat.add_mul]
          exact Nat.mul_le_mul_right _ (by omega)
        have hst := run_storeCells_at P b (len * i.size) e ys 0 (xs ++ sp).toArray w hw (by simpa using hfit) h1'
        simp only [Nat.add_zero] at hst
        refine ⟨_, _, _, ?_, hS.rwSet (len' := len + m) (cs := ((xs ++ sp).take (len * i.size) ++ ys ++ (xs ++ sp).drop (len * i.size + ys.length)).toArray) rfl hlen hroom (sp.drop ys.length) ?_ ?_, fun h => by cases h⟩
        · simp [Builtin.append_, run_underlying ht, sizeOf, typeInfo, hi1, hi3, Builtin.lenOf, hroom, hnew, Addr.add_lit] at hst ⊢
          simp [hst]
        · rw [hi3, ← hlx]
          congr 1
          rw [List.take_left, List.drop_append]
          simp
        · rw [List.length_drop, hspl, hy.1, ← Nat.sub_mul]
          congr 1
          omega
  · have hlt : cap < len + m := by omega
    have hfit : ¬ (Builtin.nextslicecap (len + m) cap * i.bytes > 281474976710656) := by
      have := growslice_fits hlt (by rw [hi4] at *; exact hb : (len + m) * i.bytes ≤ 140737488355328)
      omega
    have h63 : ¬ (((len + m : Nat) : Int) > IntKind.i64.max ∧ i.bytes = 0) := by
      rw [hi4]; intro h; omega
    obtain ⟨hg1, hg2⟩ := grown_bound (w := w) (old := cap) e hbound
    refine ⟨some ⟨w.heap.size, 0, none⟩, grownCap w (len + m) cap e, w.drew.alloc (.cells (xs.toArray ++ ys.toArray ++ Builtin.zeroCells z.cells (grownCap w (len + m) cap e - (len + m))) e), ?_,
      (((hS.sub (.skip .refl)).drew).rwNew (w := w.drew) rfl hlen hg1 hg2 (Builtin.zeroCells z.cells (grownCap w (len + m) cap e - (len + m))).toList ?_ ?_), fun h => by cases h⟩
    · have hnew' : (Builtin.firstCells i.size m (.slice q m c)).run P w.drew = .ok ys.toArray w.drew := by rw [hi3]; exact run_firstCells (P := P) (w := w.drew) (c := c) hy
      have hold' : (Builtin.firstCells i.size len (.slice p len cap)).run P w.drew = .ok xs.toArray w.drew := by rw [hi3]; exact run_firstCells (P := P) (w := w.drew) (c := cap) hsl
      have hn : ¬ (len + m ≤ cap) := hroom
      have h63' : ¬ (9223372036854775807 < ((len : Int) + (m : Int))) := by simp only [maxLen] at hbound; omega
      have h48' : ¬ (281474976710656 < Builtin.nextslicecap (len + m) cap * i.bytes) := by omega
      simp [Builtin.append_, run_underlying ht, sizeOf, typeInfo, zeroValue, hi1, hi2, Builtin.lenOf, hn, h63', h48', Question.forced, hnew', hold', newRow, grownCap]
      congr 2
      apply Array.ext'
      simp
    · simp
    · rw [Array.length_toList, size_zeroCells, hzs]

theorem st_append {t e : TypeId} {x y : Operand} {z : Value} {sz by' len cap m c d : Nat} {p q : Option Addr} {xs ys : List Value} (hf : Fits n a L) (hn : Wn ops a o true) (ho : o.op = .call { callee := .builtin .append, args := #[x, y], argTypes := #[t, t] }) (hx : ev L x = some (.slice p len cap)) (hy : ev L y = some (.slice q m c))
    (ht : P.underlying t = some (.slice e)) (hi : TyB P e z sz by') (hzs : z.cells.size = sz) (h0 : 0 < by') (hS : Sat W l w) (s : Sel (Rw e sz p len cap xs) l l') (hys : SlAt w q m sz ys) (h1 : ys.all (·.oneCell') = true) (hb : (len + m) * by' ≤ 140737488355328) (hd : o.dst = some d) (hlt : Nat.blt d n = true)
    (k : ∀ p' cap' a' w', Fits n a' ((d, .slice p' (len + m) cap') :: L) → Sat W (Rw e sz p' (len + m) cap' (xs ++ ys) :: l') w' → (p' = none → len + m = 0) → K a' w') : opWp P ops Q o K a w := by
  obtain ⟨p', cap', w', hr, hs, hp⟩ := run_append_sl (P := P) (ty := o.type) (c := c) ht hi hzs h0 (hS.sel s) hys h1 hb
  exact st_eff (w' := w') hf hn (by simp [execOp, ho, resolve, invoke, builtin, hf.ev hx, hf.ev hy, hr]) hd hlt fun a' hf' => k p' cap' a' w' hf' hs hp

/-! ### Building -/
inductive Fill (pl : List (Nat × Nat)) : List Value → List (Nat × Value) → List Value → Prop
  | nil {cs : List Value} : Fill pl cs [] cs
  | cons {cs cs1 cs' vs : List Value} {i off sz : Nat} {v : Value} {r : List (Nat × Value)} : pl[i]? = some (off, sz) → v.cells = vs.toArray → vs.length = sz → Put cs off vs cs1 → Fill pl cs1 r cs' → Fill pl cs ((i, v) :: r) cs'

theorem foldl_put : ∀ (vs cs : List Value) (off k : Nat), off + k + vs.length ≤ cs.length → ((vs.zipIdx k).foldl (fun cs (c, j) => cs.setIfInBounds (off + j) c) cs.toArray) = (cs.take (off + k) ++ vs ++ cs.drop (off + k + vs.length)).toArray
  | [], cs, off, k, _ => by simp
  | v :: vs, cs, off, k, h => by
    have hlt : off + k < cs.length := by simp at h; omega
    have ih := foldl_put vs (cs.set (off + k) v) off (k + 1) (by simp at h ⊢; omega)
    simp only [List.zipIdx_cons, List.foldl_cons, List.setIfInBounds_toArray]
    rw [ih, show off + (k + 1) = off + k + 1 from by omega, set_take_drop cs vs v (off + k) hlt]

theorem Fill.out {pl : List (Nat × Nat)} {cs cs' : List Value} {ps : List (Nat × Value)} (h : Fill pl cs ps cs') (place : Nat → Option (Nat × Nat)) (hp : ∀ i x, pl[i]? = some x → place i = some x) : Instr.fill place cs.toArray ps = some cs'.toArray := by
  induction h with
  | nil => rfl
  | @cons cs cs1 cs' vs i off sz v r hi hv hs hput _ ih =>
    obtain ⟨h1, h2⟩ := hput.out
    simp only [Instr.fill, hp _ _ hi, hv]
    rw [if_neg (by simp; omega)]
    rw [← ih]
    congr 1
    have := foldl_put vs cs off 0 (by omega)
    simp only [Nat.add_zero] at this
    rw [h2, ← this]
    congr 1
    simp [List.zipIdx]

/-- Where the parts of a struct or an array lie. -/
def placesO (P : Program) (t : TypeId) : Option (List (Nat × Nat)) := match P.underlying t with
  | some (.struct fs) => fs.toList.mapM fun f => (P.info? f.type).map fun i => (f.offset, i.size)
  | some (.array k e) => (P.info? e).map fun i => (List.range k).map fun j => (j * i.size, i.size)
  | _ => none

theorem mapM_places : ∀ (fs : List Field) (pl : List (Nat × Nat)) (w : World), (fs.mapM fun f => (P.info? f.type).map fun i => (f.offset, i.size)) = some pl → (fs.mapM fun f => (do pure (f.offset, ← sizeOf f.type) : Sem (Nat × Nat))).run P w = .ok pl w
  | [], pl, w, h => by simp at h; subst h; rfl
  | f :: fs, pl, w, h => by
    simp only [List.mapM_cons] at h
    cases hi : P.info? f.type with
    | none => simp [hi] at h
    | some i =>
      simp only [hi, Option.map_some, Option.pure_def, Option.bind_eq_bind, Option.bind_some] at h
      cases hr : (fs.mapM fun f => (P.info? f.type).map fun i => (f.offset, i.size)) with
      | none => rw [hr] at h; simp at h
      | some r =>
        rw [hr] at h
        simp at h
        subst h
        have ih := mapM_places fs r w hr
        rw [List.mapM_cons, Sem.run_bind, Sem.run_bind]
        simp only [sizeOf, typeInfo, Sem.run_bind, run_program, Result.andThen_ok, hi, Sem.run_pure] at ih ⊢
        rw [ih]
        rfl

def pevs (L : List (Nat × Value)) : List (Nat × Operand) → Option (List (Nat × Value))
  | [] => some []
  | (i, x) :: r => match ev L x, pevs L r with
    | some v, some vs => some ((i, v) :: vs)
    | _, _ => none
theorem Fits.pevs (hf : Fits n a L) : ∀ {xs : List (Nat × Operand)} {vs : List (Nat × Value)}, Sl.pevs L xs = some vs → xs.map (fun (i, x) => (i, a.eval x)) = vs
  | [], vs, h => by simp [Sl.pevs] at h; simp [h]
  | (i, x) :: r, vs, h => by
    simp only [Sl.pevs] at h
    split at h
    · rename_i v us h1 h2
      simp at h
      subst h
      simp [hf.ev h1, hf.pevs h2]
    · simp at h

theorem rd_build {t : TypeId} {parts : List (Nat × Operand)} {ps : List (Nat × Value)} {z : Value} {zs cs : List Value} {pl : List (Nat × Nat)} (hf : Fits n a L) (ho : o.op = .build t parts.toArray) (hp : pevs L parts = some ps) (hz : (P.info? t).bind (·.zero) = some z) (hc : z.cells = zs.toArray) (hpl : placesO P t = some pl) (hfill : Fill pl zs ps cs) : Rd P a o S (.agg cs.toArray) := fun w _ => by
  obtain ⟨i, hi, hz'⟩ := Option.bind_eq_some_iff.1 hz
  have e1 : (parts.toArray.map fun (i, x) => (i, a.eval x)) = ps.toArray := by
    rw [← hf.pevs hp]; simp
  unfold placesO at hpl
  split at hpl
  · rename_i fs hu
    have hm := mapM_places (P := P) fs.toList pl w hpl
    have hf2 := hfill.out (pl[·]?) (fun _ _ h => h)
    have hm2 : (fs.mapM fun f => (do pure (f.offset, ← sizeOf f.type) : Sem (Nat × Nat))).run P w = .ok pl.toArray w := by
      rw [Array.mapM_eq_mapM_toList]
      exact (Sem.run_bind _ _ _ _).trans (by rw [hm, Result.andThen_ok]; rfl)
    simp only [execOp, ho, e1, Instr.build, Sem.run_bind, zeroValue, typeInfo, run_program, Result.andThen_ok, hi, Sem.run_pure, hz', run_underlying hu, hm2, hc]
    simp [hf2]
  · rename_i k e hu
    obtain ⟨ie, hie, hpl'⟩ := Option.map_eq_some_iff.1 hpl
    have hf2 := hfill.out (fun i => some (i * ie.size, ie.size)) (fun j x h => by
      rw [← hpl'] at h
      simp only [List.getElem?_map, Option.map_eq_some_iff] at h
      obtain ⟨y, hy, rfl⟩ := h
      have := List.getElem?_eq_some_iff.1 hy
      obtain ⟨_, rfl⟩ := this
      simp)
    simp only [execOp, ho, e1, Instr.build, Sem.run_bind, zeroValue, typeInfo, run_program, Result.andThen_ok, hi, Sem.run_pure, hz', run_underlying hu, hc, sizeOf, hie]
    simp [hf2]
  · cases hpl

theorem st_buildSlice {t e : TypeId} {len d sz : Nat} {parts : List (Nat × Operand)} {ps : List (Nat × Value)} {z : Value} {zs cs : List Value} {pl : List (Nat × Nat)} (hf : Fits n a L) (hn : Wn ops a o true) (hS : Sat W l w) (ho : o.op = .buildSlice t len parts.toArray) (hp : pevs L parts = some ps) (ht : P.underlying t = some (.slice e)) (hsz : (P.info? e).map (·.size) = some sz)
    (hz : (P.info? e).bind (·.zero) = some z) (h24 : len * sz ≤ 16777216) (hzs : ((Array.range (len * sz)).map (fun j => z.cells[j % z.cells.size]!)) = zs.toArray) (hpl : pl = (List.range len).map fun j => (j * sz, sz)) (hfill : Fill pl zs ps cs) (hd : o.dst = some d) (hlt : Nat.blt d n = true)
    (k : ∀ b a' w', Fits n a' ((d, .slice (some ⟨b, 0, none⟩) len len) :: L) → Sat W (Blk b cs e :: l) w' → K a' w') : opWp P ops Q o K a w := by
  obtain ⟨i, hi, hz'⟩ := Option.bind_eq_some_iff.1 hz
  obtain ⟨i2, hi2, hsz'⟩ := Option.map_eq_some_iff.1 hsz
  rw [hi] at hi2; cases hi2
  have e1 : (parts.toArray.map fun (i, x) => (i, a.eval x)) = ps.toArray := by
    rw [← hf.pevs hp]; simp
  have hf2 := hfill.out (fun i => some (i * sz, sz)) (fun j x h => by
    rw [hpl] at h
    simp only [List.getElem?_map, Option.map_eq_some_iff] at h
    obtain ⟨y, hy, rfl⟩ := h
    have := List.getElem?_eq_some_iff.1 hy
    obtain ⟨_, rfl⟩ := this
    simp)
  refine st_eff (w' := w.alloc (.cells cs.toArray e)) hf hn ?_ hd hlt fun a' hf' => k _ _ _ hf' (hS.blkNew _ _ rfl _)
  have h24' : ¬ (16777216 < len * sz) := by omega
  by_cases h0 : len * sz = 0
  · have hzn : zs = [] := by
      have h1 := congrArg Array.size hzs
      simp [h0] at h1
      exact List.eq_nil_of_length_eq_zero h1.symm
    subst hzn
    have h00 : Array.range 0 = #[] := by simp
    simp only [execOp, ho, e1, Instr.buildSlice, Sem.run_bind, run_underlying ht, Result.andThen_ok, sizeOf, typeInfo, run_program, hi, Sem.run_pure, hsz', h0, if_true]
    simp [h00, hf2, newRow, newObj, Sem.run]
  · simp only [execOp, ho, e1, Instr.buildSlice, Sem.run_bind, run_underlying ht, Result.andThen_ok, sizeOf, typeInfo, run_program, hi, Sem.run_pure, hsz', h0, if_false]
    simp [h24', zeroValue, typeInfo, hi, hz', hzs, hf2, newRow, newObj, Sem.run]

/-! ### Texts and bytes -/
abbrev bv (c : UInt8) : Value := .int .u8 c.toNat
abbrev bvs (bs : List UInt8) : List Value := bs.map bv
theorem bvs_one (bs : List UInt8) : (bvs bs).all (·.oneCell') = true := by simp [Value.oneCell']

theorem foldl_bytes (f : Value → ByteArray → Sem (ForInStep ByteArray)) (hf : ∀ c r, f (bv c) r = pure (.yield (r.push c))) : ∀ (bs : List UInt8) (acc : ByteArray) (w : World), (forIn (bvs bs) acc f).run P w = .ok ⟨acc.data ++ bs.toArray⟩ w
  | [], acc, w => by simp
  | c :: bs, acc, w => by
    have ih := foldl_bytes f hf bs (acc.push c) w
    simp only [bvs, List.map_cons, List.forIn_cons] at ih ⊢
    rw [hf, Sem.run_bind, Sem.run_pure, Result.andThen_ok, ih]
    simp [ByteArray.push]

theorem rd_str {s d e : TypeId} {x : Operand} {q : Option Addr} {m c : Nat} {bs : List UInt8} (hf : Fits n a L) (ho : o.op = .convert s d x) (hx : ev L x = some (.slice q m c)) (hs : P.underlying s = some (.slice e)) (hd : P.underlying d = some .string) (he : P.underlying e = some (.int .u8)) (hv : ∀ w, S w → SlAt w q m 1 (bvs bs)) : Rd P a o S (.string (str bs)) := fun w hS => by
  have h := hv w hS
  cases q with
  | none =>
    have hm : m = 0 := by
      rcases Nat.eq_zero_or_pos m with h' | h'
      · exact h'
      · obtain ⟨_, h2, _⟩ := h.2 (by omega); cases h2
    subst hm
    have : bs = [] := List.eq_nil_of_length_eq_zero (by simpa using h.1)
    subst this
    simp [execOp, ho, hf.ev hx, convert, run_underlying hs, run_underlying hd, run_underlying he, Conv.bytesToString, ByteArray.empty, ByteArray.emptyWithCapacity]
    rfl
  | some ad =>
    have hl : (loadCells ad m).run P w = .ok (bvs bs).toArray w := by
      have h1 := h.1
      simp only [Nat.mul_one] at h1
      have hr := run_loadCells (P := P) ad w (bvs bs) 0 #[] (fun j v hj => by rw [Nat.zero_add]; exact h.get hj)
      rw [h1] at hr
      simpa [loadCells] using hr
    simp only [execOp, ho, hf.ev hx, convert, Sem.run_bind, run_underlying hs, run_underlying hd, run_underlying he, Result.andThen_ok, Conv.bytesToString, hl]
    rw [← Array.forIn_toList, foldl_bytes]
    · simp [ByteArray.empty, ByteArray.emptyWithCapacity]
      rfl
    · intro c r
      simp

theorem rd_indexS {t : TypeId} {x y : Operand} {k : IntKind} {i : Int} {bs : List UInt8} {c : UInt8} (hf : Fits n a L) (ho : o.op = .index t x y) (hx : ev L x = some (.string (str bs))) (hy : ev L y = some (.int k i)) (ht : P.underlying t = some .string) (h0 : 0 ≤ i) (hc : bs[i.toNat]? = some c) : Rd P a o S (.int .u8 c.toNat) := fun w _ => by
  have hc' : (str bs)[i.toNat]? = some c := by
    obtain ⟨h1, h2⟩ := List.getElem?_eq_some_iff.1 hc
    rw [getElem?_pos (str bs) i.toNat (by simpa [ByteArray.size] using h1)]
    simp [ByteArray.getElem_eq_getElem_data, h2]
  simp [execOp, ho, hf.ev hx, hf.ev hy, Instr.index, asIntOf, run_underlying ht, h0, hc']

end
end Go.Sl
