/-
  Messages: when two are the same; arrays and pairs of whole numbers compared.
  Conditions: none; it speaks of every program of the model.
-/
import Derived.Test.YtcflbdpjoanbgaaGreatMs2
import Derived.ChangeKeysEq
namespace Go.Sl
open Go
set_option linter.unusedSimpArgs false
set_option linter.unusedVariables false

section
variable {P : Program}
theorem run_part1 {e : TypeId} (he : aggO P e = some false) {l : List Int} {i : Nat} {n : Int} (h : l[i]? = some n) (w : World) : (part e (i64s l).toArray (i * 1)).run P w = .ok (.int .i64 n) w := by
  simp [part, run_isAgg he, i64s, h]
theorem run_items {e : TypeId} {kd : IntKind} (he : aggO P e = some false) (hu : P.underlying e = some (.int kd)) (d : Nat) (l l' : List Int) (w : World) : ∀ (m i : Nat), l.length = i + m → l'.length = i + m →
    (Op.eqItems (d + 1) e 1 (i64s l).toArray (i64s l').toArray (List.range' i m)).run P w = .ok (decide (l.drop i = l'.drop i)) w
  | 0, i, h, h' => by
    rw [List.drop_of_length_le (by omega), List.drop_of_length_le (by omega)]
    simp [Op.eqItems]
  | m + 1, i, h, h' => by
    have h1 : i < l.length := by omega
    have h1' : i < l'.length := by omega
    have p1 := run_part1 he (List.getElem?_eq_getElem h1) w
    have p2 := run_part1 he (List.getElem?_eq_getElem h1') w
    have p3 := run_equalIn_int w d e .i64 kd l[i] l'[i] hu
    have ih := run_items he hu d l l' w m (i + 1) (by omega) (by omega)
    rw [List.range'_succ]
    simp only [Op.eqItems, Sem.run_bind, p1, p2, p3, Result.andThen_ok]
    rw [List.drop_eq_getElem_cons h1, List.drop_eq_getElem_cons h1']
    by_cases e1 : l[i] = l'[i]
    · simp only [e1, beq_self_eq_true, Bool.not_true, Bool.false_eq_true, if_false, ih, List.cons.injEq, true_and]
    · simp only [beq_eq_false_iff_ne.2 e1, Bool.not_false, if_true, Sem.run_pure, List.cons.injEq, e1, false_and, decide_false]
theorem eq_arr {t e : TypeId} {n : Nat} {kd : IntKind} (hu : P.underlying t = some (.array n e)) (hi : (P.info? e).isSome = true) (hc : P.cellsOf e = 1) (he : aggO P e = some false) (hue : P.underlying e = some (.int kd)) (l l' : List Int) (hl : l.length = n) (hl' : l'.length = n) (w : World) :
    (Op.equal t (.agg (i64s l).toArray) (.agg (i64s l').toArray)).run P w = .ok (decide (l = l')) w := by
  obtain ⟨i, hi⟩ := Option.isSome_iff_exists.1 hi
  show (Op.equalIn (9999 + 1) _ _ _).run _ _ = _
  rw [run_equalIn_array w 9999 _ _ hu hi, hc, List.range_eq_range', run_items he hue 9998 l l' w n 0 (by omega) (by omega)]
  simp
theorem rd_eqlA {a : Act} {n m : Nat} {L : List (Nat × Value)} {o : Oper} {x y : Operand} {t e t' : TypeId} {kd : IntKind} {S : World → Prop} {l l' : List Int} (hf : Fits n a L) (ho : o.op = .binOp .eql t x y t') (hx : ev L x = some (.agg (i64s l).toArray)) (hy : ev L y = some (.agg (i64s l').toArray))
    (hu : P.underlying t = some (.array m e)) (hi : (P.info? e).isSome = true) (hc : P.cellsOf e = 1) (he : aggO P e = some false) (hue : P.underlying e = some (.int kd)) (hg : P.eqGuardType P.depth t = false) (hl : l.length = m) (hl' : l'.length = m) : Rd P a o S (.bool (decide (l = l'))) :=
  rd_eqlBy hf ho hx hy (fun w _ => by simp [eqGuard, program, Sem.run, hg]) fun w _ => run_eqlOf rfl (eq_arr hu hi hc he hue l l' hl hl' w)
theorem rd_neqA {a : Act} {n m : Nat} {L : List (Nat × Value)} {o : Oper} {x y : Operand} {t e t' : TypeId} {kd : IntKind} {S : World → Prop} {l l' : List Int} (hf : Fits n a L) (ho : o.op = .binOp .neq t x y t') (hx : ev L x = some (.agg (i64s l).toArray)) (hy : ev L y = some (.agg (i64s l').toArray))
    (hu : P.underlying t = some (.array m e)) (hi : (P.info? e).isSome = true) (hc : P.cellsOf e = 1) (he : aggO P e = some false) (hue : P.underlying e = some (.int kd)) (hg : P.eqGuardType P.depth t = false) (hl : l.length = m) (hl' : l'.length = m) : Rd P a o S (.bool (decide (¬ l = l'))) :=
  rd_eqlBy hf ho hx hy (fun w _ => by simp [eqGuard, program, Sem.run, hg]) fun w _ => (run_neqOf rfl (eq_arr hu hi hc he hue l l' hl hl' w)).trans (by rw [decide_not])
/-- A struct of two whole numbers. -/
theorem eq_pair {t u v : TypeId} {k1 k2 : IntKind} {f g : Field} (ht : P.underlying t = some (.struct (P.fieldsOf t))) (hp : P.stoodInHeld t = false) (hfl : (P.fieldsOf t).toList = [f, g]) (hf : f.name ≠ "_" ∧ f.type = u ∧ f.offset = 0) (hg : g.name ≠ "_" ∧ g.type = v ∧ g.offset = 1)
    (hau : aggO P u = some false) (hav : aggO P v = some false) (hu : P.underlying u = some (.int k1)) (hv : P.underlying v = some (.int k2)) (s i t' j : Int) (w : World) : (Op.equal t (.agg #[.int .i64 s, .int .i64 i]) (.agg #[.int .i64 t', .int .i64 j])).run P w = .ok (decide ((s, i) = (t', j))) w := by
  show (Op.equalIn (9999 + 1) _ _ _).run _ _ = _
  rw [run_equalIn_struct w 9999 t _ _ ht hp, hfl]
  have h1 : ∀ a b, (Op.equalIn 9999 u (.int .i64 a) (.int .i64 b)).run P w = .ok (a == b) w := fun a b => run_equalIn_int w 9998 u _ _ a b hu
  have h2 : ∀ a b, (Op.equalIn 9999 v (.int .i64 a) (.int .i64 b)).run P w = .ok (a == b) w := fun a b => run_equalIn_int w 9998 v _ _ a b hv
  by_cases e1 : s = t' <;> by_cases e2 : i = j <;> simp [Op.eqFields, part, hf.1, hf.2.1, hf.2.2, hg.1, hg.2.1, hg.2.2, run_isAgg hau, run_isAgg hav, h1, h2, e1, e2]
theorem rd_eqlP {a : Act} {n : Nat} {L : List (Nat × Value)} {o : Oper} {x y : Operand} {t t' : TypeId} {S : World → Prop} {s i t1 j : Int} (hf : Fits n a L) (ho : o.op = .binOp .eql t x y t') (hx : ev L x = some (.agg #[.int .i64 s, .int .i64 i])) (hy : ev L y = some (.agg #[.int .i64 t1, .int .i64 j]))
    (he : ∀ w s i t1 j, (Op.equal t (.agg #[.int .i64 s, .int .i64 i]) (.agg #[.int .i64 t1, .int .i64 j])).run P w = .ok (decide ((s, i) = (t1, j))) w) (hg : P.eqGuardType P.depth t = false) : Rd P a o S (.bool (decide ((s, i) = (t1, j)))) :=
  rd_eqlBy hf ho hx hy (fun w _ => by simp [eqGuard, program, Sem.run, hg]) fun w _ => run_eqlOf rfl (he w s i t1 j)
theorem rd_neqP {a : Act} {n : Nat} {L : List (Nat × Value)} {o : Oper} {x y : Operand} {t t' : TypeId} {S : World → Prop} {s i t1 j : Int} (hf : Fits n a L) (ho : o.op = .binOp .neq t x y t') (hx : ev L x = some (.agg #[.int .i64 s, .int .i64 i])) (hy : ev L y = some (.agg #[.int .i64 t1, .int .i64 j]))
    (he : ∀ w s i t1 j, (Op.equal t (.agg #[.int .i64 s, .int .i64 i]) (.agg #[.int .i64 t1, .int .i64 j])).run P w = .ok (decide ((s, i) = (t1, j))) w) (hg : P.eqGuardType P.depth t = false) : Rd P a o S (.bool (decide (¬ (s, i) = (t1, j)))) :=
  rd_eqlBy hf ho hx hy (fun w _ => by simp [eqGuard, program, Sem.run, hg]) fun w _ => (run_neqOf rfl (he w s i t1 j)).trans (by rw [decide_not])
end

/-! ### Two rows -/
section
variable {β γ : Type} {l m : List β} {f : β → γ} {k : Nat} {x y : β}
theorem eq_step (hx : l[k]? = some x) (hy : m[k]? = some y) (h : (l.take k).map f = (m.take k).map f) (he : f x = f y) : (l.take (k + 1)).map f = (m.take (k + 1)).map f := by
  rw [List.take_add_one, List.take_add_one, hx, hy, List.map_append, List.map_append, h]; simp [he]
theorem eq_no (hx : l[k]? = some x) (hy : m[k]? = some y) (h : ¬ f x = f y) : ¬ l.map f = m.map f := fun e => by
  have h1 := map_get f hx
  have h2 := map_get f hy
  rw [e, h2] at h1
  exact h (Option.some.inj h1).symm
theorem eq_len (h : ¬ l.length = m.length) : ¬ l.map f = m.map f := fun e => h (by have := congrArg List.length e; simpa using this)
theorem eq_done (hl : l.length = m.length) (h : (l.take l.length).map f = (m.take l.length).map f) : l.map f = m.map f := by
  rwa [List.take_length, hl, List.take_length] at h
end

/-! ### Pairs -/
section
variable {α β γ : Type} [DecidableEq α] [DecidableEq β] [DecidableEq γ] {a a' : α} {b b' : β} {c c' : γ}
theorem pair_no1 (h : ¬ a = a') : false = decide ((a, b) = (a', b')) := (decide_eq_false (fun e => h (congrArg Prod.fst e))).symm
theorem pair_last (h : a = a') : decide (b = b') = decide ((a, b) = (a', b')) := by subst h; simp
theorem tri_no2 (h : ¬ b = b') : false = decide ((a, b, c) = (a', b', c')) := (decide_eq_false (fun e => h (congrArg (fun x => x.2.1) e))).symm
theorem tri_no3 (h : ¬ c = c') : false = decide ((a, b, c) = (a', b', c')) := (decide_eq_false (fun e => h (congrArg (fun x => x.2.2) e))).symm
theorem tri_last (h : a = a') (h2 : b = b') : decide (c = c') = decide ((a, b, c) = (a', b', c')) := by subst h; subst h2; simp
theorem tri_mid (h : a = a') (h3 : c = c') : decide (b = b') = decide ((a, b, c) = (a', b', c')) := by subst h; subst h3; simp
end
section
variable {α β γ : Type} {a a' : α} {b b' : β} {c c' : γ}
theorem tri_all (h : a = a') (h2 : b = b') (h3 : c = c') : (a, b, c) = (a', b', c') := by subst h; subst h2; subst h3; rfl
theorem tri_n1 (h : ¬ a = a') : ¬ (a, b) = (a', b') := fun e => h (congrArg Prod.fst e)
theorem tri_n2 (h : ¬ b = b') : ¬ (a, b, c) = (a', b', c') := fun e => h (congrArg (fun x => x.2.1) e)
theorem tri_n3 (h : ¬ c = c') : ¬ (a, b, c) = (a', b', c') := fun e => h (congrArg (fun x => x.2.2) e)
theorem pr_n2 (h : ¬ b = b') : ¬ (a, b) = (a', b') := fun e => h (congrArg Prod.snd e)
theorem pr_all (h : a = a') (h2 : b = b') : (a, b) = (a', b') := by subst h; subst h2; rfl
end
/-! ### The same -/
instance decV : DecidableEq PVal := by infer_instance
instance decS : DecidableEq PSib := by infer_instance
instance decE : DecidableEq PEnt := by infer_instance
instance decG : DecidableEq PDig := by infer_instance
def sameB (x y : PMsg) : Bool := decide (x.kind = y.kind) && (decide (x.from' = y.from') && (decide (x.to = y.to) && (decide (x.op = y.op) && (decide (x.for' = y.for') && (decide (x.key = y.key) && (decide (x.bucket = y.bucket) && (decide (x.ents = y.ents) && (decide (x.digs = y.digs) && decide (x.mems = y.mems)))))))))
theorem sameB_iff {x y : PMsg} : sameB x y = true ↔ x = y := by
  obtain ⟨a1, a2, a3, a4, a5, a6, a7, a8, a9, a10⟩ := x
  obtain ⟨b1, b2, b3, b4, b5, b6, b7, b8, b9, b10⟩ := y
  simp [sameB]
def sameM (x y : PMsg) : Bool := sameB (plP x) (plP y)
theorem sameM_iff {x y : PMsg} : sameM x y = true ↔ plP x = plP y := sameB_iff
theorem sameM_no {x y X Y : PMsg} (hx : plP x = X) (hy : plP y = Y) (h : ¬ X = Y) : sameM x y = false := by
  rw [Bool.eq_false_iff]; intro e; exact h (by rw [← hx, ← hy]; exact sameM_iff.1 e)
theorem sameM_last {x y X Y : PMsg} (hx : plP x = X) (hy : plP y = Y) (h1 : X.kind = Y.kind) (h2 : X.from' = Y.from') (h3 : X.to = Y.to) (h4 : X.op = Y.op) (h5 : X.for' = Y.for') (h6 : X.key = Y.key) (h7 : X.bucket = Y.bucket) (h8 : X.ents = Y.ents) (h9 : X.digs = Y.digs) : sameM x y = decide (X.mems = Y.mems) := by
  unfold sameM sameB; rw [hx, hy, h1, h2, h3, h4, h5, h6, h7, h8, h9]; simp
theorem sameM_refl {x y : PMsg} (h : plP x = plP y) : sameM x y = true := sameM_iff.2 h
theorem sameM_comm (x y : PMsg) : sameM x y = sameM y x := by
  rw [Bool.eq_iff_iff, sameM_iff, sameM_iff]; exact eq_comm
theorem plP_plP (x : PMsg) : plP (plP x) = plP x := by
  unfold plP
  have e1 : ∀ b n, plI b (plI b n) = plI b n := fun b n => by cases b <;> rfl
  have e2 : ∀ b n, plB b (plB b n) = plB b n := fun b n => by cases b <;> rfl
  have e3 : ∀ b (n : List PEnt), plL b (plL b n) = plL b n := fun b n => by cases b <;> rfl
  have e4 : ∀ b (n : List PDig), plL b (plL b n) = plL b n := fun b n => by cases b <;> rfl
  have e5 : ∀ b (n : List PDot), plL b (plL b n) = plL b n := fun b n => by cases b <;> rfl
  simp only [e1, e2, e3, e4, e5]
theorem mayM_pl (x : PMsg) : mayM (plP x) = mayM x := by unfold mayM; rw [plP_plP]
theorem msgW_pl (x : PMsg) : msgW (plP x) = msgW x := by
  obtain ⟨a1, a2, a3, a4, a5, a6, a7, a8, a9, a10⟩ := x
  unfold msgW plP
  dsimp only
  have e1 : ∀ b (g : Int → List (List UInt8)) n, plW b (g (plI b n)) = plW b (g n) := fun b g n => by cases b <;> rfl
  have e2 : ∀ b (g : List UInt8 → List (List UInt8)) n, plW b (g (plB b n)) = plW b (g n) := fun b g n => by cases b <;> rfl
  have e3 : ∀ {β : Type} b (g : List β → List (List UInt8)) n, plW b (g (plL b n)) = plW b (g n) := fun b g n => by cases b <;> rfl
  rw [e1 _ (fun n => [numB (zz n)]), e1 _ (fun n => [numB n.toNat]), e2 _ (fun n => [textB n]), e1 _ (fun n => [numB n.toNat]), e3 _ (fun n => numB n.length :: n.flatMap entW), e3 _ (fun n => numB n.length :: n.flatMap digW), e3 _ (fun n => numB n.length :: n.flatMap dotW)]
theorem enc_pl {x y : PMsg} (h : plP x = plP y) : encB x = encB y ∧ encE x = encE y := by
  have h1 : mayM x = mayM y := by rw [← mayM_pl x, ← mayM_pl y, h]
  have h2 : encS x = encS y := by unfold encS; rw [← msgW_pl x, ← msgW_pl y, h]
  unfold encB encE; rw [h1, h2]; exact ⟨rfl, rfl⟩
end Go.Sl
