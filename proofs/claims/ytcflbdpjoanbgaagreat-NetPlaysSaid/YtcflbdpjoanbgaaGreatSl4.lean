/-
  The rules: how a step stands in a region (in order, in any order), operations that write, calls, control.
  Conditions: none; it speaks of every program of the model.
-/
import Derived.Test.YtcflbdpjoanbgaaGreatSl3
import Derived.Deep.RegionHeld
namespace Go.Sl
open Go
set_option linter.unusedSimpArgs false
set_option linter.unusedVariables false
set_option linter.unnecessarySimpa false

/-- One operation, then K. -/
def opWp (P : Program) (ops : Array Oper) (Q : Exit → Act → World → Prop) (o : Oper) (K : Act → World → Prop) (a : Act) (w : World) : Prop :=
  if Region.wanted o (yielded ops a.tmps) then o.wp P a w K Q ∨ (o.asks P a w ∧ LetsOut Q) else K (a.put o.dst undef) w

/-- Is o carried out? -/
def Wn (ops : Array Oper) (a : Act) (o : Oper) (b : Bool) : Prop := Region.wanted o (yielded ops a.tmps) = b

section
variable {P : Program} {ops : Array Oper} {Q : Exit → Act → World → Prop} {K : Act → World → Prop} {a : Act} {w : World} {n : Nat} {L : List (Nat × Value)} {o : Oper}

theorem Wn.none (h : o.guard = Option.none) : Wn ops a o true := by simp [Wn, Region.wanted, h]
theorem Wn.some {j t : Nat} {c b r : Bool} (hf : Fits n a L) (h : o.guard = Option.some (j, c)) (ht : (ops[j]?).bind (·.dst) = Option.some t) (hv : lk L t = Option.some (.bool b)) (hr : (b == c) = r) : Wn ops a o r := by
  have e := hf.get t _ hv
  have e2 : a.tmps[t]? = Option.some (.bool b) := by
    rw [Array.getD_eq_getD_getElem?] at e
    cases h2 : a.tmps[t]? with
    | none => rw [h2] at e; simp [undef] at e
    | some u => rw [h2] at e; simpa using e
  simp only [Wn, Region.wanted, h, yielded, ht, Option.bind_some, e2]
  rw [← hr]
  cases b <;> cases c <;> rfl

theorem Wn.undef {j t : Nat} {c : Bool} (hf : Fits n a L) (h : o.guard = Option.some (j, c)) (ht : (ops[j]?).bind (·.dst) = Option.some t) (hv : lk L t = Option.some Go.undef) : Wn ops a o false := by
  have e := hf.get t _ hv
  have e2 : ∀ b, a.tmps[t]? ≠ Option.some (.bool b) := by
    intro b h2
    rw [Array.getD_eq_getD_getElem?, h2] at e
    simp [Go.undef] at e
  simp only [Wn, Region.wanted, h, yielded, ht, Option.bind_some]
  rfl

theorem step_l {rest : List Oper} (h : opWp P ops Q o (wpList P ops Q rest) a w) : wpList P ops Q (o :: rest) a w := h
theorem done_l (h : Q .normal a w) : wpList P ops Q [] a w := h

theorem st_skip {d : Nat} (hf : Fits n a L) (hn : Wn ops a o false) (hd : o.dst = Option.some d) (hlt : Nat.blt d n = true) (k : ∀ a', Fits n a' ((d, undef) :: L) → K a' w) : opWp P ops Q o K a w := by
  unfold opWp
  rw [show Region.wanted o (yielded ops a.tmps) = false from hn, hd]
  exact k _ (hf.put hlt)
theorem st_skip0 (hf : Fits n a L) (hn : Wn ops a o false) (hd : o.dst = Option.none) (k : ∀ a', Fits n a' L → K a' w) : opWp P ops Q o K a w := by
  unfold opWp
  rw [show Region.wanted o (yielded ops a.tmps) = false from hn, hd]
  exact k _ hf

theorem opWp_of (hn : Wn ops a o true) (h : o.wp P a w K Q) : opWp P ops Q o K a w := by
  unfold opWp
  rw [show Region.wanted o (yielded ops a.tmps) = true from hn]
  exact .inl h

theorem st_rd {S : World → Prop} {d : Nat} {v : Value} (hf : Fits n a L) (hn : Wn ops a o true) (hr : Rd P a o S v) (hS : S w) (hd : o.dst = Option.some d) (hlt : Nat.blt d n = true) (k : ∀ a', Fits n a' ((d, v) :: L) → K a' w) : opWp P ops Q o K a w :=
  opWp_of hn (by
    unfold Oper.wp
    rw [hr w hS, Oper.upon_value, hd]
    exact k _ (hf.put hlt))

/-- A test: both ways. -/
theorem st_rdB {S : World → Prop} {d : Nat} {p : Prop} [Decidable p] (hf : Fits n a L) (hn : Wn ops a o true) (hr : Rd P a o S (.bool (decide p))) (hS : S w) (hd : o.dst = Option.some d) (hlt : Nat.blt d n = true)
    (kt : p → ∀ a', Fits n a' ((d, .bool true) :: L) → K a' w) (kf : ¬ p → ∀ a', Fits n a' ((d, .bool false) :: L) → K a' w) : opWp P ops Q o K a w := by
  by_cases h : p
  · rw [decide_eq_true h] at hr; exact st_rd hf hn hr hS hd hlt (kt h)
  · rw [decide_eq_false h] at hr; exact st_rd hf hn hr hS hd hlt (kf h)
theorem st_rdb {S : World → Prop} {d : Nat} {b : Bool} (hf : Fits n a L) (hn : Wn ops a o true) (hr : Rd P a o S (.bool b)) (hS : S w) (hd : o.dst = Option.some d) (hlt : Nat.blt d n = true)
    (kt : b = true → ∀ a', Fits n a' ((d, .bool true) :: L) → K a' w) (kf : b = false → ∀ a', Fits n a' ((d, .bool false) :: L) → K a' w) : opWp P ops Q o K a w := by
  cases b with
  | true => exact st_rd hf hn hr hS hd hlt (kt rfl)
  | false => exact st_rd hf hn hr hS hd hlt (kf rfl)

/-! ### Operations that write -/
/-- An operation that leaves v in another world. -/
theorem st_eff {w' : World} {d : Nat} {v : Value} (hf : Fits n a L) (hn : Wn ops a o true) (hr : (execOp a.eval o).run P w = .ok (.value v) w') (hd : o.dst = Option.some d) (hlt : Nat.blt d n = true) (k : ∀ a', Fits n a' ((d, v) :: L) → K a' w') : opWp P ops Q o K a w :=
  opWp_of hn (by
    unfold Oper.wp
    rw [hr, Oper.upon_value, hd]
    exact k _ (hf.put hlt))
theorem st_eff0 {w' : World} (hf : Fits n a L) (hn : Wn ops a o true) (hr : (execOp a.eval o).run P w = .ok .skip w') (hd : o.dst = Option.none) (k : ∀ a', Fits n a' L → K a' w') : opWp P ops Q o K a w :=
  opWp_of hn (by
    unfold Oper.wp
    rw [hr, Oper.upon_skip, hd]
    exact k _ hf)

variable {W : World} {l : List HP}

theorem st_box {t : TypeId} {x : Operand} {d : Nat} {v : Value} {vs : List Value} (hf : Fits n a L) (hn : Wn ops a o true) (hS : Sat W l w) (ho : o.op = .box t x) (hx : ev L x = some v) (hc : v.cells = vs.toArray) (hd : o.dst = Option.some d) (hlt : Nat.blt d n = true)
    (k : ∀ b a' w', Fits n a' ((d, .pointer (some ⟨b, 0, none⟩)) :: L) → Sat W (Blk b vs t :: l) w' → K a' w') : opWp P ops Q o K a w :=
  st_eff (w' := w.alloc (.cells v.cells t)) hf hn (by simp [execOp, ho, hf.ev hx, Instr.box, newVar, newRow, newObj, Sem.run]) hd hlt fun a' hf' => k _ _ _ hf' (hS.blkNew _ _ hc _)

theorem st_alloc {t : TypeId} {d : Nat} {z : Value} {vs : List Value} (hf : Fits n a L) (hn : Wn ops a o true) (hS : Sat W l w) (ho : o.op = .alloc t) (hz : (P.info? t).bind (·.zero) = some z) (hc : z.cells = vs.toArray) (hd : o.dst = Option.some d) (hlt : Nat.blt d n = true)
    (k : ∀ b a' w', Fits n a' ((d, .pointer (some ⟨b, 0, none⟩)) :: L) → Sat W (Blk b vs t :: l) w' → K a' w') : opWp P ops Q o K a w := by
  obtain ⟨i, hi, hz'⟩ := Option.bind_eq_some_iff.1 hz
  exact st_eff (w' := w.alloc (.cells z.cells t)) hf hn (by simp [execOp, ho, Instr.alloc, zeroValue, typeInfo, hi, hz', newVar, newRow, newObj, Sem.run]) hd hlt fun a' hf' => k _ _ _ hf' (hS.blkNew _ _ hc _)

theorem st_store {t U : TypeId} {x y : Operand} {v : Value} {b j sz : Nat} {vs cs cs' : List Value} {l' : List HP} (hf : Fits n a L) (hn : Wn ops a o true) (hS : Sat W l w) (ho : o.op = .store t x y) (hx : ev L x = some (.pointer (some ⟨b, j, none⟩))) (hy : ev L y = some v) (hc : v.cells = vs.toArray) (hsz : (P.info? t).map (·.size) = some sz) (hl : vs.length = sz)
    (h1 : vs.all (·.oneCell') = true) (s : Sel (Blk b cs U) l l') (hp : Put cs j vs cs') (hd : o.dst = Option.none)
    (k : ∀ a' w', Fits n a' L → Sat W (Blk b cs' U :: l') w' → K a' w') : opWp P ops Q o K a w := by
  obtain ⟨i, hi, hz'⟩ := Option.map_eq_some_iff.1 hsz
  obtain ⟨hle, he⟩ := hp.out
  obtain ⟨w', hr, hs⟩ := Sat.store (P := P) vs cs 0 j w (hS.sel s) (by omega) (by simpa using h1)
  simp only [Nat.add_zero] at hs
  rw [← he] at hs
  refine st_eff0 (w' := w') hf hn ?_ hd fun a' hf' => k a' w' hf' hs
  have e : v.cells.size = i.size := by rw [hc, hz']; simpa using hl
  have e2 : v.cells.toList = vs := by rw [hc]
  simp [execOp, ho, hf.ev hx, hf.ev hy, Instr.storeAt, Instr.sureAddr, storeVar, sizeOf, typeInfo, hi, e, e2, hr]

/-! ### Calls -/
/-- Function f has a body, and is entered. -/
def fnB (P : Program) (f : Nat) : Bool := match P.funcs[f]? with
  | some fn => fn.name != "runtime.NumGoroutine" && fn.body.isSome
  | none => false
theorem run_callFunc {f : Nat} {vs : Array Value} (h : fnB P f = true) (w : World) : (callFunc f vs).run P w = .ok (.enter f vs) w := by
  unfold fnB at h
  split at h
  · rename_i fn hfn
    simp only [Bool.and_eq_true, bne_iff_ne, ne_eq] at h
    obtain ⟨h1, h2⟩ := h
    simp [callFunc, program, Sem.run, hfn, h1]
    intro hb
    simp [hb] at h2
  · cases h

/-- The call answers, and Post holds of the answer and of the world behind it. -/
def Ret (Post : Value → World → Prop) : Ending → World → Prop
  | .returned v, w => Post v w
  | _, _ => False

theorem st_call {fx : Operand} {xs : List Operand} {ts : Array TypeId} {f d : Nat} {u c : List Value} {vs : List Value} {Post : Value → World → Prop} (hf : Fits n a L) (hn : Wn ops a o true) (ho : o.op = .call { callee := .value fx, args := xs.toArray, argTypes := ts }) (hfx : ev L fx = some (.func (.func f) u.toArray c.toArray)) (hxs : evs L xs = some vs) (hB : fnB P f = true)
    (h : Calls P f (u ++ vs ++ c).toArray w (Ret Post)) (hd : o.dst = Option.some d) (hlt : Nat.blt d n = true) (k : ∀ v a' w', Post v w' → Fits n a' ((d, v) :: L) → K a' w') : opWp P ops Q o K a w := by
  have e1 : xs.map a.eval = vs := hf.evs hxs
  refine opWp_of hn ?_
  unfold Oper.wp
  have hr : (execOp a.eval o).run P w = .ok (.enter f (u ++ vs ++ c).toArray) w := by
    simp [execOp, ho, resolve, hf.ev hfx, Deferred.ofValue, invoke, run_callFunc hB, e1]
  rw [hr, Oper.upon_enter]
  refine h.mono ?_
  intro e w' he
  cases e with
  | returned v => rw [hd]; exact k v _ w' he (hf.put hlt)
  | panicked ch => exact he.elim
  | outgrown => exact he.elim
theorem st_call0 {fx : Operand} {xs : List Operand} {ts : Array TypeId} {f : Nat} {u c : List Value} {vs : List Value} {Post : Value → World → Prop} (hf : Fits n a L) (hn : Wn ops a o true) (ho : o.op = .call { callee := .value fx, args := xs.toArray, argTypes := ts }) (hfx : ev L fx = some (.func (.func f) u.toArray c.toArray)) (hxs : evs L xs = some vs) (hB : fnB P f = true)
    (h : Calls P f (u ++ vs ++ c).toArray w (Ret Post)) (hd : o.dst = Option.none) (k : ∀ v a' w', Post v w' → Fits n a' L → K a' w') : opWp P ops Q o K a w := by
  have e1 : xs.map a.eval = vs := hf.evs hxs
  refine opWp_of hn ?_
  unfold Oper.wp
  have hr : (execOp a.eval o).run P w = .ok (.enter f (u ++ vs ++ c).toArray) w := by
    simp [execOp, ho, resolve, hf.ev hfx, Deferred.ofValue, invoke, run_callFunc hB, e1]
  rw [hr, Oper.upon_enter]
  refine h.mono ?_
  intro e w' he
  cases e with
  | returned v => rw [hd]; exact k v _ w' he hf
  | panicked ch => exact he.elim
  | outgrown => exact he.elim

theorem split_bool {d : Nat} {b : Bool} (hf : Fits n a L) (hb : lk L d = some (.bool b)) (kt : b = true → Fits n a ((d, .bool true) :: L) → K a w) (kf : b = false → Fits n a ((d, .bool false) :: L) → K a w) : K a w := by
  cases b with
  | true => exact kt rfl (Fits.ka hf hf d hb)
  | false => exact kf rfl (Fits.ka hf hf d hb)

theorem split_dec {d : Nat} {p : Prop} [Decidable p] (hf : Fits n a L) (hb : lk L d = some (.bool (decide p))) (kt : p → Fits n a ((d, .bool true) :: L) → K a w) (kf : ¬ p → Fits n a ((d, .bool false) :: L) → K a w) : K a w := by
  by_cases h : p
  · rw [decide_eq_true h] at hb; exact kt h (Fits.ka hf hf d hb)
  · rw [decide_eq_false h] at hb; exact kf h (Fits.ka hf hf d hb)

theorem loadN_of {w : World} {b j sz : Nat} {cs us : List Value} {U : TypeId} {l' : List HP} (hS : Sat W l w) (s : Sel (Blk b cs U) l l') (hg : Seg cs j sz us) : AggAt w ⟨b, j, none⟩ sz us :=
  ⟨hg.length, fun _ _ hi => hS.cellAdd s (hg.get _ _ hi)⟩
theorem Sat.sub' {w' : World} {l' ls : List HP} (h : Sat W l' w') (_ : Sat W ls w) (s : Sub ls l') : Sat W ls w' := h.sub s
theorem Fits.kb {K : List (Nat × Value)} (hk : Fits n a K) (hf : Fits n a L) (t : Nat) {v v' : Value} (h : lk L t = some v) (e : v = v') : Fits n a ((t, v') :: K) := e ▸ hk.ka hf t h
theorem eq_dt {p : Prop} [Decidable p] (h : p) : true = decide p := (decide_eq_true h).symm
theorem eq_df {p : Prop} [Decidable p] (h : ¬ p) : false = decide p := (decide_eq_false h).symm
theorem int_eq {k : IntKind} {p q : Int} (h : p = q) : Value.int k p = Value.int k q := by rw [h]

/-! ### A region in any order -/
theorem any_begin {S : World → Prop} {id : Nat} {os : List Oper} (hm : P.follows .mixedOrders = true) (hS : S w.drew) (h : wpAnyH P .any os.toArray Q S os.toArray.size (Array.replicate os.toArray.size false) a w.drew) : (Code.region id os.toArray true).wp P Q a w :=
  wp_region_held_drew hm hS fun _ => h
theorem any_take {S : World → Prop} {i fuel d : Nat} {listed : Array Bool} {v : Value} (hf : Fits n a L) (hi : ops[i]? = some o) (hs : Region.noSelect ops = true) (hfr : Region.free .any ops listed i = true) (hr : (Region.ready .any ops listed).contains i = true)
    (hQ : ∀ c a w, Q (.panic c) (a.put o.dst v) w → Q (.panic c) a w) (hn : Wn ops a o true) (hy : Rd P a o S v) (hS : S w) (hd : o.dst = Option.some d) (hlt : Nat.blt d n = true)
    (k : ∀ a', Fits n a' ((d, v) :: L) → wpAnyH P .any ops Q S fuel (listed.setIfInBounds i true) a' w) : wpAnyH P .any ops Q S (fuel + 1) listed a w :=
  wpAnyH_take hi hs hfr hr hQ (.inl ⟨hn, hy⟩) hS (by rw [hd]; exact k _ (hf.put hlt))
theorem any_skip {S : World → Prop} {i fuel d : Nat} {listed : Array Bool} (hf : Fits n a L) (hi : ops[i]? = some o) (hs : Region.noSelect ops = true) (hfr : Region.free .any ops listed i = true) (hr : (Region.ready .any ops listed).contains i = true)
    (hQ : ∀ c a w, Q (.panic c) (a.put o.dst undef) w → Q (.panic c) a w) (hn : Wn ops a o false) (hS : S w) (hd : o.dst = Option.some d) (hlt : Nat.blt d n = true)
    (k : ∀ a', Fits n a' ((d, undef) :: L) → wpAnyH P .any ops Q S fuel (listed.setIfInBounds i true) a' w) : wpAnyH P .any ops Q S (fuel + 1) listed a w :=
  wpAnyH_take hi hs hfr hr hQ (.inr ⟨hn, rfl⟩) hS (by rw [hd]; exact k _ (hf.put hlt))
theorem any_takeB {S : World → Prop} {i fuel d : Nat} {listed : Array Bool} {p : Prop} [Decidable p] (hf : Fits n a L) (hi : ops[i]? = some o) (hs : Region.noSelect ops = true) (hfr : Region.free .any ops listed i = true) (hr : (Region.ready .any ops listed).contains i = true)
    (hQ : ∀ v c a w, Q (.panic c) (a.put o.dst v) w → Q (.panic c) a w) (hn : Wn ops a o true) (hy : Rd P a o S (.bool (decide p))) (hS : S w) (hd : o.dst = Option.some d) (hlt : Nat.blt d n = true)
    (kt : p → ∀ a', Fits n a' ((d, .bool true) :: L) → wpAnyH P .any ops Q S fuel (listed.setIfInBounds i true) a' w) (kf : ¬ p → ∀ a', Fits n a' ((d, .bool false) :: L) → wpAnyH P .any ops Q S fuel (listed.setIfInBounds i true) a' w) : wpAnyH P .any ops Q S (fuel + 1) listed a w := by
  by_cases h : p
  · rw [decide_eq_true h] at hy; exact any_take hf hi hs hfr hr (hQ _) hn hy hS hd hlt (kt h)
  · rw [decide_eq_false h] at hy; exact any_take hf hi hs hfr hr (hQ _) hn hy hS hd hlt (kf h)
theorem any_takeb {S : World → Prop} {i fuel d : Nat} {listed : Array Bool} {b : Bool} (hf : Fits n a L) (hi : ops[i]? = some o) (hs : Region.noSelect ops = true) (hfr : Region.free .any ops listed i = true) (hr : (Region.ready .any ops listed).contains i = true)
    (hQ : ∀ v c a w, Q (.panic c) (a.put o.dst v) w → Q (.panic c) a w) (hn : Wn ops a o true) (hy : Rd P a o S (.bool b)) (hS : S w) (hd : o.dst = Option.some d) (hlt : Nat.blt d n = true)
    (kt : b = true → ∀ a', Fits n a' ((d, .bool true) :: L) → wpAnyH P .any ops Q S fuel (listed.setIfInBounds i true) a' w) (kf : b = false → ∀ a', Fits n a' ((d, .bool false) :: L) → wpAnyH P .any ops Q S fuel (listed.setIfInBounds i true) a' w) : wpAnyH P .any ops Q S (fuel + 1) listed a w := by
  cases b with
  | true => exact any_take hf hi hs hfr hr (hQ _) hn hy hS hd hlt (kt rfl)
  | false => exact any_take hf hi hs hfr hr (hQ _) hn hy hS hd hlt (kf rfl)

theorem any_one {S : World → Prop} {i fuel : Nat} {listed : Array Bool} (hi : ops[i]? = some o) (hr : Region.ready .any ops listed = [i])
    (h : opWp P ops Q o (fun a' w' => S w' ∧ wpAnyH P .any ops Q S fuel (listed.setIfInBounds i true) a' w') a w) : wpAnyH P .any ops Q S (fuel + 1) listed a w :=
  wpAnyH_all hr (by simp) fun j hj => by
    rw [List.mem_singleton.1 hj]
    unfold wpOp
    simp only [hi]
    exact h
theorem any_two {S : World → Prop} {i j fuel : Nat} {o' : Oper} {listed : Array Bool} (hi : ops[i]? = some o) (hj : ops[j]? = some o') (hr : Region.ready .any ops listed = [i, j])
    (h : opWp P ops Q o (fun a' w' => S w' ∧ wpAnyH P .any ops Q S fuel (listed.setIfInBounds i true) a' w') a w)
    (h' : opWp P ops Q o' (fun a' w' => S w' ∧ wpAnyH P .any ops Q S fuel (listed.setIfInBounds j true) a' w') a w) : wpAnyH P .any ops Q S (fuel + 1) listed a w :=
  wpAnyH_all hr (by simp) fun x hx => by
    rcases List.mem_cons.1 hx with rfl | hx
    · unfold wpOp; simp only [hi]; exact h
    · rw [List.mem_singleton.1 hx]; unfold wpOp; simp only [hj]; exact h'
theorem any_done {S : World → Prop} {fuel : Nat} {listed : Array Bool} (hr : Region.ready .any ops listed = []) (h : Q .normal a w) : wpAnyH P .any ops Q S fuel listed a w := wpAnyH_done hr h fuel

/-! ### Control -/
theorem c_region {id : Nat} {os : List Oper} (h : wpList P os.toArray Q os a w) : (Code.region id os.toArray false).wp P Q a w := wp_region_lit h
theorem c_seq {x y : Code} (h : x.wp P (Exit.then (y.wp P Q) Q) a w) : (Code.seq x y).wp P Q a w := wp_seq h
theorem c_true {c : Operand} {x y : Code} (hf : Fits n a L) (hc : ev L c = some (.bool true)) (h : x.wp P Q a w) : (Code.cond c x y).wp P Q a w := wp_cond_true (hf.ev hc) h
theorem c_false {c : Operand} {x y : Code} (hf : Fits n a L) (hc : ev L c = some (.bool false)) (h : y.wp P Q a w) : (Code.cond c x y).wp P Q a w := wp_cond_false (hf.ev hc) h
theorem c_block {id : Nat} {c : Code} (h : c.wp P (Exit.inBlock id Q) a w) : (Code.block id c).wp P Q a w := wp_block h
theorem c_skip (h : Q .normal a w) : Code.skip.wp P Q a w := wp_skip h
theorem c_exit {id : Nat} (h : Q (.exit id) a w) : (Code.exit id).wp P Q a w := wp_exit h
theorem c_ret (h : Q .ret a w) : Code.ret.wp P Q a w := wp_ret h
theorem t_normal {next : Act → World → Prop} (h : next a w) : Exit.then next Q .normal a w := h
theorem t_exit {next : Act → World → Prop} {id : Nat} (h : Q (.exit id) a w) : Exit.then next Q (.exit id) a w := h
theorem t_ret {next : Act → World → Prop} (h : Q .ret a w) : Exit.then next Q .ret a w := h
theorem b_normal {id : Nat} (h : Q .normal a w) : Exit.inBlock id Q .normal a w := h
theorem b_exit {id : Nat} (h : Q .normal a w) : Exit.inBlock id Q (.exit id) a w := by simpa [Exit.inBlock] using h
theorem b_exit' {id id' : Nat} (hne : id' ≠ id) (h : Q (.exit id') a w) : Exit.inBlock id Q (.exit id') a w := by simpa [Exit.inBlock, hne] using h
theorem b_ret {id : Nat} (h : Q .ret a w) : Exit.inBlock id Q .ret a w := h

/-- A loop with an invariant that bears a value, of which a measure goes down round by round. -/
theorem c_loop {α : Type} {c : Code} (I : α → Act → World → Prop) (μ : α → Nat) (x₀ : α) (h₀ : I x₀ a w)
    (round : ∀ x a w, I x a w → c.wp P (Exit.then (fun a' w' => ∃ x', I x' a' w' ∧ μ x' < μ x) Q) a w) : (Code.loop c).wp P Q a w := by
  refine wp_loop_ghost (fun n a w => ∃ x, I x a w ∧ μ x = n) (μ x₀) ⟨x₀, h₀, rfl⟩ ?_
  rintro n a w ⟨x, hI, rfl⟩
  refine Code.wp_mono ?_ (round x a w hI)
  intro e a' w' hq
  cases e with
  | normal => obtain ⟨x', h1, h2⟩ := hq; exact ⟨_, h2, x', h1, rfl⟩
  | exit id => exact hq
  | goto l => exact hq
  | ret => exact hq
  | panic ch => exact hq
  | outgrown => exact hq

/-! ### The begin and the end of a call -/
theorem fn_start {f : Nat} {fn : Func} {c : Code} {vs : List Value} {R : Ending → World → Prop} (m : Nat) (hfn : P.funcs[f]? = some fn) (hb : fn.body = some c) (hm : fn.ntmps = m) (hle : Nat.ble vs.length m = true)
    (h : ∀ a, Fits m a (numbered 0 vs) → c.wp P (bodyPost P fn R) a w) : Calls P f vs.toArray w R := by
  subst hm
  exact calls_of_wp hfn hb (h _ (Fits.start fn.ntmps vs hle))

theorem e_none {fn : Func} {Post : Value → World → Prop} (hf : Fits n a L) (hr : fn.results = #[]) (h : Post (.tuple #[]) w) : bodyPost P fn (Ret Post) .ret a w :=
  bodyPost_ret (results_none hr _ _ _) hf.defers h
theorem e_none' {fn : Func} {Post : Value → World → Prop} (hf : Fits n a L) (hr : fn.results = #[]) (h : Post (.tuple #[]) w) : bodyPost P fn (Ret Post) .normal a w :=
  bodyPost_end (results_none hr _ _ _) hf.defers h
theorem e_one {fn : Func} {Post : Value → World → Prop} {t : Nat} {v : Value} (hf : Fits n a L) (hr : fn.results = #[.tmp t]) (hv : lk L t = some v) (h : Post v w) : bodyPost P fn (Ret Post) .ret a w := by
  refine bodyPost_ret (v := v) ?_ hf.defers h
  have e := hf.get t v hv
  rw [Array.getD_eq_getD_getElem?] at e
  simp [results, hr, e]
/-- What each result is. -/
inductive ResL (P : Program) (a : Act) (w : World) : List ResultVar → List Value → Prop
  | nil : ResL P a w [] []
  | cons {r : ResultVar} {rs : List ResultVar} {v : Value} {vs : List Value} : ((match r with | .tmp t => pure (a.tmps.getD t undef) | .cell b t => (do loadVar t (← asAddr (a.tmps.getD b undef))) : Sem Value).run P w = .ok v w) → ResL P a w rs vs → ResL P a w (r :: rs) (v :: vs)

theorem ResL.run {rs : List ResultVar} {vs : List Value} (h : ResL P a w rs vs) : (rs.mapM (fun r => (match r with | .tmp t => pure (a.tmps.getD t undef) | .cell b t => (do loadVar t (← asAddr (a.tmps.getD b undef))) : Sem Value))).run P w = .ok vs w := by
  induction h with
  | nil => rfl
  | cons h1 _ ih => rw [List.mapM_cons, Sem.run_bind, h1, Result.andThen_ok, Sem.run_bind, ih, Result.andThen_ok]; rfl

theorem ResL.results {fn : Func} {rs : List ResultVar} {vs : List Value} (h : ResL P a w rs vs) (hr : fn.results = rs.toArray) : (results fn a.tmps).run P w = .ok (if h : vs.toArray.size = 1 then vs.toArray[0] else .tuple vs.toArray) w := by
  have h1 := h.run
  have key : ∀ g : ResultVar → Sem Value, (∀ r, g r = (match r with | .tmp t => pure (a.tmps.getD t undef) | .cell b t => (do loadVar t (← asAddr (a.tmps.getD b undef))) : Sem Value)) → (List.toArray <$> rs.mapM g).run P w = .ok vs.toArray w := fun g hg => by
    rw [← funext hg] at h1
    exact (Sem.run_bind _ _ _ _).trans (by rw [h1, Result.andThen_ok]; rfl)
  unfold Go.results
  rw [hr, Sem.run_bind, List.mapM_toArray, key, Result.andThen_ok]
  · rfl
  · intro r; cases r <;> rfl

theorem res_tmp {t : Nat} {rs : List ResultVar} {v : Value} {vs : List Value} (hf : Fits n a L) (hv : lk L t = some v) (h : ResL P a w rs vs) : ResL P a w (.tmp t :: rs) (v :: vs) :=
  .cons (by simp only []; rw [hf.get t v hv]; rfl) h
theorem res_cell1 {t b j : Nat} {ty : TypeId} {rs : List ResultVar} {v : Value} {vs : List Value} (hf : Fits n a L) (hv : lk L t = some (.pointer (some ⟨b, j, none⟩))) (ht : aggO P ty = some false) (hc : w.cell? ⟨b, j, none⟩ = some v) (h : ResL P a w rs vs) : ResL P a w (.cell t ty :: rs) (v :: vs) :=
  .cons (by simp [hf.get t _ hv, asAddr, loadVar, run_isAgg ht, Go.load, Sem.run, hc]) h
theorem res_cellN {t b j : Nat} {ty U : TypeId} {cs : List Value} {ll' : List HP} {rs : List ResultVar} {us : List Value} {vs : List Value} {sz : Nat} (hf : Fits n a L) (hv : lk L t = some (.pointer (some ⟨b, j, none⟩))) (ht : aggO P ty = some true) (hz : (P.info? ty).map (·.size) = some sz) (hS : Sat W l w) (s : Sel (Blk b cs U) l ll') (hg : Seg cs j sz us) (h : ResL P a w rs vs) : ResL P a w (.cell t ty :: rs) (.agg us.toArray :: vs) :=
  .cons (by
    obtain ⟨inf, hi, hz'⟩ := Option.map_eq_some_iff.1 hz
    have hl := hg.length
    have hr := run_loadCells (P := P) ⟨b, j, none⟩ w us 0 #[] (fun k v hk => hS.cellAdd s (by rw [Nat.zero_add]; exact hg.get k v hk))
    simp [hf.get t _ hv, asAddr, loadVar, run_isAgg ht, loadCells, sizeOf, typeInfo, hi, hz', ← hl, hr]) h

theorem e_res1 {fn : Func} {Post : Value → World → Prop} {rs : List ResultVar} {v : Value} (hd : a.defers = []) (hr : fn.results = rs.toArray) (h : ResL P a w rs [v]) (hp : Post v w) : bodyPost P fn (Ret Post) .ret a w :=
  bodyPost_ret (h.results hr) hd hp
theorem e_resN {fn : Func} {Post : Value → World → Prop} {rs : List ResultVar} {v v' : Value} {vs : List Value} (hd : a.defers = []) (hr : fn.results = rs.toArray) (h : ResL P a w rs (v :: v' :: vs)) (hp : Post (.tuple (v :: v' :: vs).toArray) w) : bodyPost P fn (Ret Post) .ret a w :=
  bodyPost_ret (v := .tuple (v :: v' :: vs).toArray) ((h.results hr).trans (by simp)) hd hp

end
end Go.Sl
