/-
  The rules: operations that read (Rd), operations that write, calls, control.
  Conditions: none; it speaks of every program of the model.
-/
import Derived.Test.YtcflbdpjoanbgaaGreatSl2
import Derived.IntWalk
namespace Go.Sl
open Go
set_option linter.unusedSimpArgs false
set_option linter.unusedVariables false
set_option linter.unnecessarySimpa false

theorem beq_eq_decide {α : Type} [DecidableEq α] (p q : α) : (p == q) = decide (p = q) := by
  by_cases h : p = q <;> simp [h]

/-- Operation o leaves v and the world as it is, in every world that meets S. -/
def Rd (P : Program) (a : Act) (o : Oper) (S : World → Prop) (v : Value) : Prop := ∀ w, S w → (execOp a.eval o).run P w = .ok (.value v) w

section reads
variable {P : Program} {S : World → Prop} {a : Act} {n : Nat} {L : List (Nat × Value)} {o : Oper}

theorem rd_move {x : Operand} {v : Value} (hf : Fits n a L) (ho : o.op = .move x) (hx : ev L x = some v) : Rd P a o S v := fun w _ => by
  simp [execOp, ho, hf.ev hx]
theorem rd_assign {x : Operand} {v : Value} (hf : Fits n a L) (ho : o.op = .assign x) (hx : ev L x = some v) : Rd P a o S v := fun w _ => by
  simp [execOp, ho, hf.ev hx]
theorem rd_pick_t {c x y : Operand} {v : Value} (hf : Fits n a L) (ho : o.op = .pick c x y) (hc : ev L c = some (.bool true)) (hx : ev L x = some v) : Rd P a o S v := fun w _ => by
  simp [execOp, ho, hf.ev hx, hf.ev hc, asBool]
theorem rd_pick_f {c x y : Operand} {v : Value} (hf : Fits n a L) (ho : o.op = .pick c x y) (hc : ev L c = some (.bool false)) (hy : ev L y = some v) : Rd P a o S v := fun w _ => by
  simp [execOp, ho, hf.ev hy, hf.ev hc, asBool]
theorem rd_nilCheck {x : Operand} {ad : Addr} (hf : Fits n a L) (ho : o.op = .nilCheck x) (hx : ev L x = some (.pointer (some ad))) : Rd P a o S (.pointer (some ad)) := fun w _ => by
  simp [execOp, ho, hf.ev hx]
theorem rd_not {t : TypeId} {x : Operand} {b : Bool} (hf : Fits n a L) (ho : o.op = .unOp .not t x) (hx : ev L x = some (.bool b)) : Rd P a o S (.bool !b) := fun w _ => by
  simp [execOp, ho, hf.ev hx, Op.unary]
theorem rd_neg {t : TypeId} {x : Operand} {k : IntKind} {p r : Int} (hf : Fits n a L) (ho : o.op = .unOp .neg t x) (hx : ev L x = some (.int k p)) (hw : k.wrap (0 - p) = r) : Rd P a o S (.int k r) := fun w _ => by
  simp [execOp, ho, hf.ev hx, Op.unary, Op.intArith, ← hw]

theorem rd_int {op : BinOp} {t t' : TypeId} {x y : Operand} {k : IntKind} {p q : Int} {v : Value} (hf : Fits n a L) (ho : o.op = .binOp op t x y t') (hx : ev L x = some (.int k p)) (hy : ev L y = some (.int k q))
    (hr : ∀ w, (binOp op t (.int k p) (.int k q)).run P w = .ok v w) : Rd P a o S v := fun w _ => by
  have e : ∀ w, (eqGuard op t x y (.int k p) (.int k q)).run P w = .ok () w := fun w => by
    unfold eqGuard; split <;> simp
  simp [execOp, ho, hf.ev hx, hf.ev hy, e, hr]

theorem rd_add {t t' : TypeId} {x y : Operand} {k : IntKind} {p q r : Int} (hf : Fits n a L) (ho : o.op = .binOp .add t x y t') (hx : ev L x = some (.int k p)) (hy : ev L y = some (.int k q)) (hw : k.wrap (p + q) = r) : Rd P a o S (.int k r) :=
  rd_int hf ho hx hy fun w => by simp [binOp, Op.intArith, hw]
theorem rd_sub {t t' : TypeId} {x y : Operand} {k : IntKind} {p q r : Int} (hf : Fits n a L) (ho : o.op = .binOp .sub t x y t') (hx : ev L x = some (.int k p)) (hy : ev L y = some (.int k q)) (hw : k.wrap (p - q) = r) : Rd P a o S (.int k r) :=
  rd_int hf ho hx hy fun w => by simp [binOp, Op.intArith, hw]
theorem rd_mul {t t' : TypeId} {x y : Operand} {k : IntKind} {p q r : Int} (hf : Fits n a L) (ho : o.op = .binOp .mul t x y t') (hx : ev L x = some (.int k p)) (hy : ev L y = some (.int k q)) (hw : k.wrap (p * q) = r) : Rd P a o S (.int k r) :=
  rd_int hf ho hx hy fun w => by simp [binOp, Op.intArith, hw]
theorem rd_quo {t t' : TypeId} {x y : Operand} {k : IntKind} {p q r : Int} (hf : Fits n a L) (ho : o.op = .binOp .quo t x y t') (hx : ev L x = some (.int k p)) (hy : ev L y = some (.int k q)) (h0 : q ≠ 0) (hw : k.wrap (p.tdiv q) = r) : Rd P a o S (.int k r) :=
  rd_int hf ho hx hy fun w => by simp [binOp, Op.intDiv, h0, hw]
theorem rd_rem {t t' : TypeId} {x y : Operand} {k : IntKind} {p q r : Int} (hf : Fits n a L) (ho : o.op = .binOp .rem t x y t') (hx : ev L x = some (.int k p)) (hy : ev L y = some (.int k q)) (h0 : q ≠ 0) (hw : p.tmod q = r) : Rd P a o S (.int k r) :=
  rd_int hf ho hx hy fun w => by simp [binOp, Op.intDiv, h0, hw]
theorem rd_and {t t' : TypeId} {x y : Operand} {k : IntKind} {p q r : Int} (hf : Fits n a L) (ho : o.op = .binOp .and t x y t') (hx : ev L x = some (.int k p)) (hy : ev L y = some (.int k q)) (hw : k.wrap ((BitVec.ofInt k.bits p &&& BitVec.ofInt k.bits q).toNat : Nat) = r) : Rd P a o S (.int k r) :=
  rd_int hf ho hx hy fun w => by simp [binOp, Op.intBits]; exact hw
theorem rd_or {t t' : TypeId} {x y : Operand} {k : IntKind} {p q r : Int} (hf : Fits n a L) (ho : o.op = .binOp .or t x y t') (hx : ev L x = some (.int k p)) (hy : ev L y = some (.int k q)) (hw : k.wrap ((BitVec.ofInt k.bits p ||| BitVec.ofInt k.bits q).toNat : Nat) = r) : Rd P a o S (.int k r) :=
  rd_int hf ho hx hy fun w => by simp [binOp, Op.intBits]; exact hw
theorem rd_xor {t t' : TypeId} {x y : Operand} {k : IntKind} {p q r : Int} (hf : Fits n a L) (ho : o.op = .binOp .xor t x y t') (hx : ev L x = some (.int k p)) (hy : ev L y = some (.int k q)) (hw : k.wrap ((BitVec.ofInt k.bits p ^^^ BitVec.ofInt k.bits q).toNat : Nat) = r) : Rd P a o S (.int k r) :=
  rd_int hf ho hx hy fun w => by simp [binOp, Op.intBits]; exact hw
theorem rd_andNot {t t' : TypeId} {x y : Operand} {k : IntKind} {p q r : Int} (hf : Fits n a L) (ho : o.op = .binOp .andNot t x y t') (hx : ev L x = some (.int k p)) (hy : ev L y = some (.int k q)) (hw : k.wrap ((BitVec.ofInt k.bits p &&& ~~~ BitVec.ofInt k.bits q).toNat : Nat) = r) : Rd P a o S (.int k r) :=
  rd_int hf ho hx hy fun w => by rw [← hw]; simp [binOp, Op.intBits]
theorem rd_bitnot {t : TypeId} {x : Operand} {k : IntKind} {p r : Int} (hf : Fits n a L) (ho : o.op = .unOp .xor t x) (hx : ev L x = some (.int k p)) (hw : k.wrap ((BitVec.ofInt k.bits (if k.signed then -1 else k.max) ^^^ BitVec.ofInt k.bits p).toNat : Nat) = r) : Rd P a o S (.int k r) := fun w _ => by
  simp [execOp, ho, hf.ev hx, Op.unary, Op.intBits]; exact hw

theorem rd_shiftop {op : BinOp} {t t' : TypeId} {x y : Operand} {k k' : IntKind} {p q : Int} {v : Value} (hf : Fits n a L) (ho : o.op = .binOp op t x y t') (hne : op ≠ .eql ∧ op ≠ .neq) (hx : ev L x = some (.int k p)) (hy : ev L y = some (.int k' q))
    (hr : ∀ w, (binOp op t (.int k p) (.int k' q)).run P w = .ok v w) : Rd P a o S v := fun w _ => by
  have e : ∀ w, (eqGuard op t x y (.int k p) (.int k' q)).run P w = .ok () w := fun w => by
    unfold eqGuard; split <;> simp
  simp [execOp, ho, hf.ev hx, hf.ev hy, e, hr]
theorem rd_shl {t t' : TypeId} {x y : Operand} {k k' : IntKind} {p q r : Int} (hf : Fits n a L) (ho : o.op = .binOp .shl t x y t') (hx : ev L x = some (.int k p)) (hy : ev L y = some (.int k' q)) (h0 : 0 ≤ q) (hw : k.wrap (p * 2 ^ (min q.toNat k.bits)) = r) : Rd P a o S (.int k r) :=
  rd_shiftop hf ho (by simp) hx hy fun w => by simp [binOp, Op.shift, show ¬ q < 0 from by omega, hw]
theorem rd_shr {t t' : TypeId} {x y : Operand} {k k' : IntKind} {p q r : Int} (hf : Fits n a L) (ho : o.op = .binOp .shr t x y t') (hx : ev L x = some (.int k p)) (hy : ev L y = some (.int k' q)) (h0 : 0 ≤ q) (hw : p.fdiv (2 ^ (min q.toNat k.bits)) = r) : Rd P a o S (.int k r) :=
  rd_shiftop hf ho (by simp) hx hy fun w => by simp [binOp, Op.shift, show ¬ q < 0 from by omega, hw]

theorem rd_eql {t t' : TypeId} {x y : Operand} {k : IntKind} {p q : Int} (hf : Fits n a L) (ho : o.op = .binOp .eql t x y t') (hx : ev L x = some (.int k p)) (hy : ev L y = some (.int k q)) : Rd P a o S (.bool (decide (p = q))) :=
  rd_int hf ho hx hy fun w => by simp [binOp, Op.intCmp]; exact beq_eq_decide p q
theorem rd_neq {t t' : TypeId} {x y : Operand} {k : IntKind} {p q : Int} (hf : Fits n a L) (ho : o.op = .binOp .neq t x y t') (hx : ev L x = some (.int k p)) (hy : ev L y = some (.int k q)) : Rd P a o S (.bool (decide (p ≠ q))) :=
  rd_int hf ho hx hy fun w => by simp [binOp, Op.intCmp, bne, beq_eq_decide]
theorem rd_lss {t t' : TypeId} {x y : Operand} {k : IntKind} {p q : Int} (hf : Fits n a L) (ho : o.op = .binOp .lss t x y t') (hx : ev L x = some (.int k p)) (hy : ev L y = some (.int k q)) : Rd P a o S (.bool (decide (p < q))) :=
  rd_int hf ho hx hy fun w => by simp [binOp, Op.intCmp]
theorem rd_leq {t t' : TypeId} {x y : Operand} {k : IntKind} {p q : Int} (hf : Fits n a L) (ho : o.op = .binOp .leq t x y t') (hx : ev L x = some (.int k p)) (hy : ev L y = some (.int k q)) : Rd P a o S (.bool (decide (p ≤ q))) :=
  rd_int hf ho hx hy fun w => by simp [binOp, Op.intCmp]
theorem rd_gtr {t t' : TypeId} {x y : Operand} {k : IntKind} {p q : Int} (hf : Fits n a L) (ho : o.op = .binOp .gtr t x y t') (hx : ev L x = some (.int k p)) (hy : ev L y = some (.int k q)) : Rd P a o S (.bool (decide (q < p))) :=
  rd_int hf ho hx hy fun w => by simp [binOp, Op.intCmp]
theorem rd_geq {t t' : TypeId} {x y : Operand} {k : IntKind} {p q : Int} (hf : Fits n a L) (ho : o.op = .binOp .geq t x y t') (hx : ev L x = some (.int k p)) (hy : ev L y = some (.int k q)) : Rd P a o S (.bool (decide (q ≤ p))) :=
  rd_int hf ho hx hy fun w => by simp [binOp, Op.intCmp]

/-- An equality of values that are no numbers, by its own run. -/
theorem rd_eqlBy {op : BinOp} {t t' : TypeId} {x y : Operand} {u v : Value} {b : Bool} (hf : Fits n a L) (ho : o.op = .binOp op t x y t') (hx : ev L x = some u) (hy : ev L y = some v)
    (hg : ∀ w, S w → (eqGuard op t x y u v).run P w = .ok () w) (hr : ∀ w, S w → (binOp op t u v).run P w = .ok (.bool b) w) : Rd P a o S (.bool b) := fun w hS => by
  simp [execOp, ho, hf.ev hx, hf.ev hy, hg w hS, hr w hS]

theorem eqGuard_plain {op : BinOp} {t : TypeId} {x y : Operand} {u v : Value} (hu : ∀ cs, u ≠ .agg cs) (hn : u ≠ .nilIface) (w : World) : (eqGuard op t x y u v).run P w = .ok () w := by
  cases op <;> first
    | rfl
    | (cases u <;> first
        | rfl
        | exact absurd rfl (hu _)
        | exact absurd rfl hn)

theorem run_equal {t : TypeId} {u v : Value} {b : Bool} {w : World} (h : ∀ d, (Op.equalIn (d + 1) t u v).run P w = .ok b w) : (Op.equal t u v).run P w = .ok b w := h 9999
theorem run_eqlOf {t : TypeId} {u v : Value} {b : Bool} {w : World} (hb : binOp .eql t u v = (do pure (.bool (← Op.equal t u v)))) (h : (Op.equal t u v).run P w = .ok b w) : (binOp .eql t u v).run P w = .ok (.bool b) w := by
  rw [hb, Sem.run_bind, h, Result.andThen_ok]; rfl
theorem run_neqOf {t : TypeId} {u v : Value} {b : Bool} {w : World} (hb : binOp .neq t u v = (do pure (.bool (!(← Op.equal t u v))))) (h : (Op.equal t u v).run P w = .ok b w) : (binOp .neq t u v).run P w = .ok (.bool (!b)) w := by
  rw [hb, Sem.run_bind, h, Result.andThen_ok]; rfl

theorem eq_bool {t : TypeId} {p q : Bool} (ht : P.underlying t = some .bool) (w : World) : (Op.equal t (.bool p) (.bool q)).run P w = .ok (p == q) w :=
  run_equal fun d => by unfold Op.equalIn; simp only [Sem.run_bind, run_underlying ht, Result.andThen_ok]; rfl
theorem eq_nilP {t e : TypeId} {p : Option Addr} (ht : P.underlying t = some (.pointer e)) (w : World) : (Op.equal t (.pointer p) (.pointer none)).run P w = .ok p.isNone w :=
  run_equal fun d => by unfold Op.equalIn; simp only [Sem.run_bind, run_underlying ht, Result.andThen_ok]; cases p <;> rfl
theorem eq_nilS {t e : TypeId} {p : Option Addr} {k c k' c' : Nat} (ht : P.underlying t = some (.slice e)) (w : World) : (Op.equal t (.slice p k c) (.slice none k' c')).run P w = .ok p.isNone w :=
  run_equal fun d => by unfold Op.equalIn; simp only [Sem.run_bind, run_underlying ht, Result.andThen_ok]; cases p <;> rfl
theorem eq_nilF {t : TypeId} {fn : Fn} {u c : Array Value} {ps rs : Array TypeId} {vr : Bool} (ht : P.underlying t = some (.func ps rs vr)) (w : World) : (Op.equal t (.func fn u c) .nilFunc).run P w = .ok false w :=
  run_equal fun d => by unfold Op.equalIn; simp only [Sem.run_bind, run_underlying ht, Result.andThen_ok]; rfl
theorem eq_nilF' {t : TypeId} {ps rs : Array TypeId} {vr : Bool} (ht : P.underlying t = some (.func ps rs vr)) (w : World) : (Op.equal t .nilFunc .nilFunc).run P w = .ok true w :=
  run_equal fun d => by unfold Op.equalIn; simp only [Sem.run_bind, run_underlying ht, Result.andThen_ok]; rfl

theorem rd_eqlBool {t t' : TypeId} {x y : Operand} {p q : Bool} (hf : Fits n a L) (ho : o.op = .binOp .eql t x y t') (hx : ev L x = some (.bool p)) (hy : ev L y = some (.bool q)) (ht : P.underlying t = some .bool) : Rd P a o S (.bool (decide (p = q))) :=
  rd_eqlBy hf ho hx hy (fun w _ => eqGuard_plain (by simp) (by simp) w) fun w _ => run_eqlOf rfl ((eq_bool ht w).trans (by cases p <;> cases q <;> rfl))
theorem rd_neqBool {t t' : TypeId} {x y : Operand} {p q : Bool} (hf : Fits n a L) (ho : o.op = .binOp .neq t x y t') (hx : ev L x = some (.bool p)) (hy : ev L y = some (.bool q)) (ht : P.underlying t = some .bool) : Rd P a o S (.bool (decide (p ≠ q))) :=
  rd_eqlBy hf ho hx hy (fun w _ => eqGuard_plain (by simp) (by simp) w) fun w _ => (run_neqOf rfl (eq_bool ht w)).trans (by cases p <;> cases q <;> rfl)
theorem rd_eqlNilP {t t' e : TypeId} {x y : Operand} {p : Option Addr} (hf : Fits n a L) (ho : o.op = .binOp .eql t x y t') (hx : ev L x = some (.pointer p)) (hy : ev L y = some (.pointer none)) (ht : P.underlying t = some (.pointer e)) : Rd P a o S (.bool p.isNone) :=
  rd_eqlBy hf ho hx hy (fun w _ => eqGuard_plain (by simp) (by simp) w) fun w _ => run_eqlOf (by cases p <;> rfl) (eq_nilP ht w)
theorem rd_neqNilP {t t' e : TypeId} {x y : Operand} {p : Option Addr} (hf : Fits n a L) (ho : o.op = .binOp .neq t x y t') (hx : ev L x = some (.pointer p)) (hy : ev L y = some (.pointer none)) (ht : P.underlying t = some (.pointer e)) : Rd P a o S (.bool (!p.isNone)) :=
  rd_eqlBy hf ho hx hy (fun w _ => eqGuard_plain (by simp) (by simp) w) fun w _ => run_neqOf (by cases p <;> rfl) (eq_nilP ht w)
theorem rd_eqlNilS {t t' e : TypeId} {x y : Operand} {p : Option Addr} {k c k' c' : Nat} (hf : Fits n a L) (ho : o.op = .binOp .eql t x y t') (hx : ev L x = some (.slice p k c)) (hy : ev L y = some (.slice none k' c')) (ht : P.underlying t = some (.slice e)) : Rd P a o S (.bool p.isNone) :=
  rd_eqlBy hf ho hx hy (fun w _ => eqGuard_plain (by simp) (by simp) w) fun w _ => run_eqlOf rfl (eq_nilS ht w)
theorem rd_neqNilS {t t' e : TypeId} {x y : Operand} {p : Option Addr} {k c k' c' : Nat} (hf : Fits n a L) (ho : o.op = .binOp .neq t x y t') (hx : ev L x = some (.slice p k c)) (hy : ev L y = some (.slice none k' c')) (ht : P.underlying t = some (.slice e)) : Rd P a o S (.bool (!p.isNone)) :=
  rd_eqlBy hf ho hx hy (fun w _ => eqGuard_plain (by simp) (by simp) w) fun w _ => run_neqOf rfl (eq_nilS ht w)
theorem rd_eqlNilF {t t' : TypeId} {x y : Operand} {fn : Fn} {u c : Array Value} {ps rs : Array TypeId} {vr : Bool} (hf : Fits n a L) (ho : o.op = .binOp .eql t x y t') (hx : ev L x = some (.func fn u c)) (hy : ev L y = some .nilFunc) (ht : P.underlying t = some (.func ps rs vr)) : Rd P a o S (.bool false) :=
  rd_eqlBy hf ho hx hy (fun w _ => eqGuard_plain (by simp) (by simp) w) fun w _ => run_eqlOf rfl (eq_nilF ht w)
theorem rd_eqlNilF' {t t' : TypeId} {x y : Operand} {ps rs : Array TypeId} {vr : Bool} (hf : Fits n a L) (ho : o.op = .binOp .eql t x y t') (hx : ev L x = some .nilFunc) (hy : ev L y = some .nilFunc) (ht : P.underlying t = some (.func ps rs vr)) : Rd P a o S (.bool true) :=
  rd_eqlBy hf ho hx hy (fun w _ => eqGuard_plain (by simp) (by simp) w) fun w _ => run_eqlOf rfl (eq_nilF' ht w)

/-- A text, by its bytes. -/
abbrev str (bs : List UInt8) : ByteArray := ⟨bs.toArray⟩
theorem str_toList (bs : List UInt8) : (str bs).toList = bs := by
  simp [str]
theorem rd_eqlS {t t' : TypeId} {x y : Operand} {p q : List UInt8} (hf : Fits n a L) (ho : o.op = .binOp .eql t x y t') (hx : ev L x = some (.string (str p))) (hy : ev L y = some (.string (str q))) : Rd P a o S (.bool (decide (p = q))) :=
  rd_eqlBy hf ho hx hy (fun w _ => eqGuard_plain (by simp) (by simp) w) fun w _ => by simp [binOp, Op.stringOp]; by_cases h : p = q <;> simp [h]
theorem rd_neqS {t t' : TypeId} {x y : Operand} {p q : List UInt8} (hf : Fits n a L) (ho : o.op = .binOp .neq t x y t') (hx : ev L x = some (.string (str p))) (hy : ev L y = some (.string (str q))) : Rd P a o S (.bool (decide (p ≠ q))) :=
  rd_eqlBy hf ho hx hy (fun w _ => eqGuard_plain (by simp) (by simp) w) fun w _ => by simp [binOp, Op.stringOp]; by_cases h : p = q <;> simp [h]

theorem rd_convInt {s d : TypeId} {x : Operand} {k k' : IntKind} {p r : Int} {sd : TypeDesc} (hf : Fits n a L) (ho : o.op = .convert s d x) (hx : ev L x = some (.int k' p)) (hs : P.underlying s = some sd) (hd : P.underlying d = some (.int k)) (hw : k.wrap p = r) : Rd P a o S (.int k r) := fun w _ => by
  simp [execOp, ho, hf.ev hx, convert, run_underlying hs, run_underlying hd, Conv.intToInt, hw]

theorem rd_len {x : Operand} {t e : TypeId} {p : Option Addr} {k c : Nat} (hf : Fits n a L) (ho : o.op = .call { callee := .builtin .len, args := #[x], argTypes := #[t] }) (hx : ev L x = some (.slice p k c)) (ht : P.underlying t = some (.slice e)) : Rd P a o S (.int .i64 (k : Int)) := fun w _ => by
  simp [execOp, ho, resolve, invoke, builtin, hf.ev hx, Builtin.len_, run_underlying ht, goInt]
theorem rd_cap {x : Operand} {t e : TypeId} {p : Option Addr} {k c : Nat} (hf : Fits n a L) (ho : o.op = .call { callee := .builtin .cap, args := #[x], argTypes := #[t] }) (hx : ev L x = some (.slice p k c)) (ht : P.underlying t = some (.slice e)) : Rd P a o S (.int .i64 (c : Int)) := fun w _ => by
  simp [execOp, ho, resolve, invoke, builtin, hf.ev hx, Builtin.cap_, run_underlying ht, goInt]
theorem rd_lenS {x : Operand} {t : TypeId} {p : List UInt8} (hf : Fits n a L) (ho : o.op = .call { callee := .builtin .len, args := #[x], argTypes := #[t] }) (hx : ev L x = some (.string (str p))) (ht : P.underlying t = some .string) : Rd P a o S (.int .i64 (p.length : Int)) := fun w _ => by
  have e : (str p).size = p.length := by simp [ByteArray.size]
  simp [execOp, ho, resolve, invoke, builtin, hf.ev hx, Builtin.len_, run_underlying ht, goInt, e]
theorem rd_min {x y : Operand} {ts : Array TypeId} {k : IntKind} {p q : Int} (hf : Fits n a L) (ho : o.op = .call { callee := .builtin .min, args := #[x, y], argTypes := ts }) (hx : ev L x = some (.int k p)) (hy : ev L y = some (.int k q)) : Rd P a o S (.int k (min p q)) := fun w _ => by
  simp [execOp, ho, resolve, invoke, builtin, hf.ev hx, hf.ev hy, Builtin.min_, Builtin.min2]
  omega
theorem rd_max {x y : Operand} {ts : Array TypeId} {k : IntKind} {p q : Int} (hf : Fits n a L) (ho : o.op = .call { callee := .builtin .max, args := #[x, y], argTypes := ts }) (hx : ev L x = some (.int k p)) (hy : ev L y = some (.int k q)) : Rd P a o S (.int k (max p q)) := fun w _ => by
  simp [execOp, ho, resolve, invoke, builtin, hf.ev hx, hf.ev hy, Builtin.max_, Builtin.max2]
  omega

theorem rd_extract {x : Operand} {i : Nat} {vs : List Value} {v : Value} (hf : Fits n a L) (ho : o.op = .extract x i) (hx : ev L x = some (.tuple vs.toArray)) (hv : vs[i]? = some v) : Rd P a o S v := fun w _ => by
  simp [execOp, ho, hf.ev hx, Instr.extract, hv]
theorem rd_makeFunc {fn : Fn} {xs ys : Array Operand} {us vs : List Value} (hf : Fits n a L) (ho : o.op = .makeFunc fn xs ys) (hx : evs L xs.toList = some us) (hy : evs L ys.toList = some vs) : Rd P a o S (.func fn us.toArray vs.toArray) := fun w _ => by
  have e1 : xs.map a.eval = us.toArray := by rw [← hf.evs hx]; apply Array.toList_inj.1; rw [Array.toList_map]
  have e2 : ys.map a.eval = vs.toArray := by rw [← hf.evs hy]; apply Array.toList_inj.1; rw [Array.toList_map]
  simp [execOp, ho, Instr.makeFunc, e1, e2]

/-- Field f of struct type s begins at cell off. -/
def fieldB (P : Program) (s f off : Nat) : Bool :=
  match P.underlying s with
  | some (.struct fs) => match fs[f]? with
    | some fd => match P.info? fd.type with
      | some i => fd.offset == off && i.size != 0
      | none => false
    | none => false
  | _ => false
theorem rd_fieldAddr {s f off : Nat} {x : Operand} {ad : Addr} (hf : Fits n a L) (ho : o.op = .fieldAddr s x f) (hx : ev L x = some (.pointer (some ad))) (hb : fieldB P s f off = true) : Rd P a o S (.pointer (some (ad.add off))) := fun w _ => by
  unfold fieldB at hb
  split at hb
  · rename_i fs hs
    split at hb
    · rename_i fd hfd
      split at hb
      · rename_i i hi
        simp at hb
        obtain ⟨h1, h2⟩ := hb
        subst h1
        simp [execOp, ho, hf.ev hx, Instr.fieldAt, run_underlying hs, hfd, Instr.sureAddr, fieldPlace, sizeOf, typeInfo, hi, h2]
      · cases hb
    · cases hb
  · cases hb
theorem rd_fieldAddrB {s f off b j : Nat} {x : Operand} (hf : Fits n a L) (ho : o.op = .fieldAddr s x f) (hx : ev L x = some (.pointer (some ⟨b, j, none⟩))) (hb : fieldB P s f off = true) {r : Nat} (hr : j + off = r) : Rd P a o S (.pointer (some ⟨b, r, none⟩)) := by
  have h := rd_fieldAddr (S := S) hf ho hx hb
  have e : (⟨b, j, none⟩ : Addr).add off = ⟨b, r, none⟩ := by
    unfold Addr.add; split
    · rename_i h0; subst h0; rw [← hr, Nat.add_zero]
    · simp [hr]
  rwa [e] at h

theorem rd_indexAddr {t e : TypeId} {x y : Operand} {ad : Addr} {k c sz : Nat} {kd : IntKind} {i : Int} (hf : Fits n a L) (ho : o.op = .indexAddr t x y) (hx : ev L x = some (.slice (some ad) k c)) (hy : ev L y = some (.int kd i)) (ht : P.underlying t = some (.slice e)) (hz : (P.info? e).map (·.size) = some sz)
    (h0 : 0 ≤ i) (h1 : i < k) : Rd P a o S (.pointer (some (ad.add (i.toNat * sz)))) := fun w _ => by
  obtain ⟨inf, hi, hz'⟩ := Option.map_eq_some_iff.1 hz
  simp [execOp, ho, hf.ev hx, hf.ev hy, Instr.indexAt, asIntOf, run_underlying ht, sizeOf, typeInfo, hi, hz', h0, h1]

/-- Is the type a struct or an array? -/
def aggO (P : Program) (t : TypeId) : Option Bool := (P.underlying t).map fun d => match d with | .struct _ | .array _ _ => true | _ => false
theorem run_isAgg {t : TypeId} {g : Bool} (h : aggO P t = some g) (w : World) : (isAgg t).run P w = .ok g w := by
  obtain ⟨d, hd, hg⟩ := Option.map_eq_some_iff.1 h
  unfold isAgg
  rw [← hg]
  simp only [Sem.run_bind, run_underlying hd, Result.andThen_ok]
  cases d <;> rfl

theorem rd_load1 {t : TypeId} {x : Operand} {ad : Addr} {v : Value} (hf : Fits n a L) (ho : o.op = .load t x) (hx : ev L x = some (.pointer (some ad))) (ht : aggO P t = some false) (hv : ∀ w, S w → w.cell? ad = some v) : Rd P a o S v := fun w hS => by
  simp [execOp, ho, hf.ev hx, Instr.loadAt, Instr.sureAddr, loadVar, run_isAgg ht, Go.load, Sem.run, hv w hS]

theorem run_loadCells (ad : Addr) (w : World) : ∀ (vs : List Value) (i : Nat) (acc : Array Value), (∀ j v, vs[j]? = some v → w.cell? (ad.add (i + j)) = some v) → (loadCellsFrom ad i vs.length acc).run P w = .ok (acc ++ vs.toArray) w
  | [], i, acc, _ => by simp [loadCellsFrom]
  | v :: vs, i, acc, h => by
    have h0 : w.cell? (ad.add i) = some v := h 0 v rfl
    have ih := run_loadCells ad w vs (i + 1) (acc.push v) (fun j u hj => by rw [show i + 1 + j = i + (j + 1) from by omega]; exact h (j + 1) u (by simpa using hj))
    simp only [List.length_cons, loadCellsFrom, Sem.run_bind, Go.load, Sem.run, h0, Result.andThen_ok, ih]
    simp
/-- The sz cells from ad on are vs. -/
def AggAt (w : World) (ad : Addr) (sz : Nat) (vs : List Value) : Prop := vs.length = sz ∧ ∀ i v, vs[i]? = some v → w.cell? (ad.add i) = some v
theorem rd_loadN {t : TypeId} {x : Operand} {ad : Addr} {sz : Nat} {vs : List Value} (hf : Fits n a L) (ho : o.op = .load t x) (hx : ev L x = some (.pointer (some ad))) (ht : aggO P t = some true) (hz : (P.info? t).map (·.size) = some sz) (hv : ∀ w, S w → AggAt w ad sz vs) : Rd P a o S (.agg vs.toArray) := fun w hS => by
  obtain ⟨inf, hi, hz'⟩ := Option.map_eq_some_iff.1 hz
  obtain ⟨hl, hv'⟩ := hv w hS
  have h := run_loadCells (P := P) ad w vs 0 #[] (fun j v hj => by simp only [Nat.zero_add]; exact hv' j v hj)
  simp [execOp, ho, hf.ev hx, Instr.loadAt, Instr.sureAddr, loadVar, run_isAgg ht, loadCells, sizeOf, typeInfo, hi, hz', ← hl, h]

theorem rd_sliceLH {t e : TypeId} {x lo hi : Operand} {p : Option Addr} {k c sz : Nat} {k1 k2 : IntKind} {i j : Int} (hf : Fits n a L) (ho : o.op = .slice t x (some lo) (some hi) none) (hx : ev L x = some (.slice p k c)) (hl : ev L lo = some (.int k1 i)) (hh : ev L hi = some (.int k2 j)) (ht : P.underlying t = some (.slice e)) (hz : (P.info? e).map (·.size) = some sz)
    (h0 : 0 ≤ i) (h1 : i ≤ j) (h2 : j ≤ c) : Rd P a o S (.slice (if c = i.toNat then p else p.map (·.add (i.toNat * sz))) (j.toNat - i.toNat) (c - i.toNat)) := fun w _ => by
  obtain ⟨inf, hi', hz'⟩ := Option.map_eq_some_iff.1 hz
  have e2 : 0 ≤ j := by omega
  simp [execOp, ho, hf.ev hx, hf.ev hl, hf.ev hh, Instr.sliceAt, Instr.slice, Instr.sliceBounds, Instr.sliceBound, asIntOf, run_underlying ht, sizeOf, typeInfo, hi', hz', h0, h2, e2]
  intro h
  omega
theorem rd_sliceH {t e : TypeId} {x hi : Operand} {p : Option Addr} {k c : Nat} {k2 : IntKind} {j : Int} {sz : Nat} (hf : Fits n a L) (ho : o.op = .slice t x none (some hi) none) (hx : ev L x = some (.slice p k c)) (hh : ev L hi = some (.int k2 j)) (ht : P.underlying t = some (.slice e)) (hz : (P.info? e).map (·.size) = some sz)
    (h0 : 0 ≤ j) (h2 : j ≤ c) : Rd P a o S (.slice p j.toNat c) := fun w _ => by
  obtain ⟨inf, hi', _⟩ := Option.map_eq_some_iff.1 hz
  have e : (if c = 0 then p else Option.map (fun x => Addr.add x 0) p) = p := by
    split
    · rfl
    · cases p <;> simp [Addr.add]
  simp [execOp, ho, hf.ev hx, hf.ev hh, Instr.sliceAt, Instr.slice, Instr.sliceBounds, Instr.sliceBound, asIntOf, run_underlying ht, sizeOf, typeInfo, hi', h0, h2, e]
theorem rd_sliceL {t e : TypeId} {x lo : Operand} {p : Option Addr} {k c sz : Nat} {k1 : IntKind} {i : Int} (hf : Fits n a L) (ho : o.op = .slice t x (some lo) none none) (hx : ev L x = some (.slice p k c)) (hl : ev L lo = some (.int k1 i)) (ht : P.underlying t = some (.slice e)) (hz : (P.info? e).map (·.size) = some sz)
    (h0 : 0 ≤ i) (h1 : i ≤ k) : Rd P a o S (.slice (if c = i.toNat then p else p.map (·.add (i.toNat * sz))) (k - i.toNat) (c - i.toNat)) := fun w _ => by
  obtain ⟨inf, hi', hz'⟩ := Option.map_eq_some_iff.1 hz
  simp [execOp, ho, hf.ev hx, hf.ev hl, Instr.sliceAt, Instr.slice, Instr.sliceBounds, Instr.sliceBound, asIntOf, run_underlying ht, sizeOf, typeInfo, hi', hz', h0, h1]
theorem rd_slice3 {t e : TypeId} {x lo hi mx : Operand} {p : Option Addr} {k c sz : Nat} {k1 k2 k3 : IntKind} {i j m : Int} (hf : Fits n a L) (ho : o.op = .slice t x (some lo) (some hi) (some mx)) (hx : ev L x = some (.slice p k c)) (hl : ev L lo = some (.int k1 i)) (hh : ev L hi = some (.int k2 j)) (hm : ev L mx = some (.int k3 m)) (ht : P.underlying t = some (.slice e)) (hz : (P.info? e).map (·.size) = some sz)
    (h0 : 0 ≤ i) (h1 : i ≤ j) (h2 : j ≤ m) (h3 : m ≤ c) : Rd P a o S (.slice (if m.toNat = i.toNat then p else p.map (·.add (i.toNat * sz))) (j.toNat - i.toNat) (m.toNat - i.toNat)) := fun w _ => by
  obtain ⟨inf, hi', hz'⟩ := Option.map_eq_some_iff.1 hz
  have e2 : 0 ≤ j := by omega
  have e3 : 0 ≤ m := by omega
  simp [execOp, ho, hf.ev hx, hf.ev hl, hf.ev hh, hf.ev hm, Instr.sliceAt, Instr.slice, Instr.sliceBounds, Instr.sliceBound, asIntOf, run_underlying ht, sizeOf, typeInfo, hi', hz', h0, h3, e2, e3]
  rw [if_pos (by omega), if_pos (by omega)]

end reads
end Go.Sl
