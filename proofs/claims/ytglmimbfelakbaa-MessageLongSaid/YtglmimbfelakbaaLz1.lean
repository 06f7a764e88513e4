/-
  The plain law of package lazy: tables that are made once, sums, mixes; calls of functions that have no body.
  Conditions: none; it speaks of every program of the model.
-/
import Derived.Test.YtglmimbfelakbaaRs1
namespace Go.Sl
open Go
set_option linter.unusedSimpArgs false
set_option linter.unusedVariables false

section
variable {P : Program} {ops : Array Oper} {Q : Exit → Act → World → Prop} {K : Act → World → Prop} {a : Act} {w : World} {n : Nat} {L : List (Nat × Value)} {o : Oper} {W : World} {l l' : List HP} {S : World → Prop}
/-- A call that answers at once and leaves all as it was. -/
theorem rd_ext {fx : Operand} {xs : List Operand} {ts : Array TypeId} {f : Nat} {vs : List Value} {v : Value} (hf : Fits n a L) (ho : o.op = .call { callee := .value fx, args := xs.toArray, argTypes := ts }) (hfx : ev L fx = some (.func (.func f) #[] #[])) (hxs : evs L xs = some vs)
    (h : ∀ w, S w → (callFunc f vs.toArray).run P w = .ok (.value v) w) : Rd P a o S v := fun w hS => by
  have e1 : xs.map a.eval = vs := hf.evs hxs
  have h2 := h w hS
  simp [execOp, ho, resolve, hf.ev hfx, Deferred.ofValue, invoke, e1, h2]
/-- A call that answers at once and leaves another world. -/
theorem st_ext {fx : Operand} {xs : List Operand} {ts : Array TypeId} {f d : Nat} {vs : List Value} {v : Value} {w' : World} (hf : Fits n a L) (hn : Wn ops a o true) (ho : o.op = .call { callee := .value fx, args := xs.toArray, argTypes := ts }) (hfx : ev L fx = some (.func (.func f) #[] #[])) (hxs : evs L xs = some vs)
    (h : (callFunc f vs.toArray).run P w = .ok (.value v) w') (hd : o.dst = some d) (hlt : Nat.blt d n = true) (k : ∀ a', Fits n a' ((d, v) :: L) → K a' w') : opWp P ops Q o K a w := by
  have e1 : xs.map a.eval = vs := hf.evs hxs
  refine st_eff (w' := w') hf hn ?_ hd hlt k
  simp [execOp, ho, resolve, hf.ev hfx, Deferred.ofValue, invoke, e1, h]
end

/-! ### Numbers of 32 bits -/
abbrev B32 := BitVec 32
abbrev u32v (c : B32) : Value := .int .u32 (c.toNat : Nat)
def u32s (l : List B32) : List Value := l.map u32v
theorem u32s_len (l : List B32) : (u32s l).length = l.length := by simp [u32s]
theorem u32s_one (l : List B32) : (u32s l).all (·.oneCell') = true := by simp [u32s, Value.oneCell']
theorem u32s_get {l : List B32} {k : Nat} {c : B32} (h : l[k]? = some c) : (u32s l)[k]? = some (u32v c) := by simp [u32s, h]
theorem n32_ofi (n : Int) : IntKind.u32.wrap n = ((BitVec.ofInt 32 n).toNat : Nat) := by
  rw [BitVec.toNat_ofInt]
  have : IntKind.u32.wrap n = n % 4294967296 := by rw [IntKind.wrap_u32]
  rw [this]
  omega
theorem n64_of32 (c : B32) : IntKind.i64.wrap ((c.toNat : Nat) : Int) = ((c.toNat : Nat) : Int) := by have := c.isLt; rw [IntKind.wrap_i64]; omega
theorem n8_of32 (c : B32) : IntKind.u8.wrap ((c.toNat : Nat) : Int) = ((UInt8.ofNat c.toNat).toNat : Nat) := n8_wrap _
theorem n32_mulv (a b : B32) : IntKind.u32.wrap ((a.toNat : Int) * (b.toNat : Int)) = ((a * b).toNat : Nat) := n32_mul a b rfl
theorem n32_eq {a : B32} {k : Nat} (hk : k < 4294967296) : ((a.toNat : Nat) : Int) = (k : Int) ↔ a = BitVec.ofNat 32 k := by
  constructor
  · intro h; apply BitVec.eq_of_toNat_eq; rw [BitVec.toNat_ofNat]; omega
  · intro h; subst h; rw [BitVec.toNat_ofNat]; omega
theorem b32_inj {a b : B32} : ((a.toNat : Nat) : Int) = ((b.toNat : Nat) : Int) ↔ a = b := ⟨fun h => BitVec.eq_of_toNat_eq (by omega), fun h => by rw [h]⟩

/-- One step of an entry. -/
def eStep (c : B32) : B32 := if c &&& 1#32 = 1#32 then (c >>> 1) ^^^ 0xedb88320#32 else c >>> 1
def eSteps : Nat → B32 → B32
  | 0, c => c
  | r + 1, c => eSteps r (eStep c)
def entB (i : Nat) : B32 := eSteps 8 (BitVec.ofNat 32 i)
/-- A sum over a table. -/
def sIdx (c : B32) (x : UInt8) : Nat := ((c ^^^ BitVec.ofNat 32 x.toNat) &&& 0xff#32).toNat
def sStep (tv : Nat → B32) (c : B32) (x : UInt8) : B32 := tv (sIdx c x) ^^^ (c >>> 8)
def sFold (tv : Nat → B32) (c : B32) (b : List UInt8) : B32 := b.foldl (sStep tv) c
def sumB (tv : Nat → B32) (b : List UInt8) : B32 := ~~~ (sFold tv 0xffffffff#32 b)
def polyL : List B32 := (List.range 256).map entB
def crcB (b : List UInt8) : B32 := sumB (fun i => polyL.getD i 0#32) b
def mStep (c : B32) (x : UInt8) : B32 := (c ^^^ BitVec.ofNat 32 x.toNat) * 0x01000193#32
def mFold (c : B32) (b : List UInt8) : B32 := b.foldl mStep c
def mEnd (c : B32) : B32 := ((c ^^^ (c >>> 15)) * 0x85ebca6b#32) ^^^ (((c ^^^ (c >>> 15)) * 0x85ebca6b#32) >>> 13)
def mixB (b : List UInt8) : B32 := mEnd (mFold 0x811c9dc5#32 b)
theorem sIdx_lt (c : B32) (x : UInt8) : sIdx c x < 256 := by
  unfold sIdx
  have := @Nat.and_le_right (c ^^^ BitVec.ofNat 32 x.toNat).toNat (0xff#32).toNat
  rw [BitVec.toNat_and]
  have h2 : (0xff#32).toNat = 255 := rfl
  omega
theorem n32_conv8' (c : UInt8) : IntKind.u32.wrap (c.toNat : Int) = (((BitVec.ofNat 32 c.toNat).toNat : Nat) : Int) := by
  have := c.toNat_lt
  rw [BitVec.toNat_ofNat, show IntKind.u32.wrap (c.toNat : Int) = (c.toNat : Int) % 4294967296 from by rw [IntKind.wrap_u32]]
  omega
/-- The reference's way to the place. -/
theorem sIdx_ref (c : B32) (x : UInt8) : (UInt8.ofNat c.toNat ^^^ x).toNat = sIdx c x := by
  unfold sIdx
  rw [UInt8.toNat_xor, BitVec.toNat_and, BitVec.toNat_xor, BitVec.toNat_ofNat]
  have hx := x.toNat_lt
  rw [Nat.mod_eq_of_lt (show x.toNat < 2 ^ 32 by omega), show (255#32).toNat = 2 ^ 8 - 1 from rfl, Nat.and_two_pow_sub_one_eq_mod, Nat.xor_mod_two_pow]
  rw [Nat.mod_eq_of_lt (show x.toNat < 2 ^ 8 by omega)]
  simp

/-! ### Tables -/
/-- Where a maker stands behind k calls. -/
def mst {σ : Type} (g : σ → Nat → σ) (s : σ) : Nat → σ
  | 0 => s
  | k + 1 => g (mst g s k) k
def tvals {σ : Type} (f : σ → Nat → B32) (g : σ → Nat → σ) (s : σ) (n : Nat) : List B32 := (List.range n).map fun i => f (mst g s i) i
theorem tvals_len {σ : Type} (f : σ → Nat → B32) (g : σ → Nat → σ) (s : σ) (n : Nat) : (tvals f g s n).length = n := by simp [tvals]
theorem tvals_succ {σ : Type} (f : σ → Nat → B32) (g : σ → Nat → σ) (s : σ) (n : Nat) : tvals f g s (n + 1) = tvals f g s n ++ [f (mst g s n) n] := by simp [tvals, List.range_succ]
theorem tvals_get {σ : Type} (f : σ → Nat → B32) (g : σ → Nat → σ) (s : σ) {n i : Nat} (h : i < n) : (tvals f g s n)[i]? = some (f (mst g s i) i) := by simp [tvals, h]
theorem mst_unit (g : Unit → Nat → Unit) (s : Unit) (k : Nat) : mst g s k = () := rfl
/-- A table: not made yet, or made. T is the type of tables, U that of numbers, F the maker. -/
def TbP (T U p n : Nat) (F : Value) (vals : List B32) (d : Bool) : HP := if d = true then Ex (fun x : Option Addr × Nat => All [Blk p [.int .i64 (n : Nat), F, .int .u32 1, .int .i32 0, .int .u32 0, .int .i64 (n : Nat), .slice x.1 n x.2] T, Rw U 1 x.1 n x.2 (u32s vals)]) else Blk p [.int .i64 (n : Nat), F, .int .u32 0, .int .i32 0, .int .u32 0, .int .i64 0, .slice none 0 0] T
theorem tb_f {T U p n : Nat} {F : Value} {vals : List B32} : TbP T U p n F vals false = Blk p [.int .i64 (n : Nat), F, .int .u32 0, .int .i32 0, .int .u32 0, .int .i64 0, .slice none 0 0] T := if_neg (by decide)
theorem tb_t {T U p n : Nat} {F : Value} {vals : List B32} : TbP T U p n F vals true = Ex (fun x : Option Addr × Nat => All [Blk p [.int .i64 (n : Nat), F, .int .u32 1, .int .i32 0, .int .u32 0, .int .i64 (n : Nat), .slice x.1 n x.2] T, Rw U 1 x.1 n x.2 (u32s vals)]) := if_pos rfl
theorem tb_open {W w : World} {l : List HP} {T U p n : Nat} {F : Value} {vals : List B32} (h : Sat W (TbP T U p n F vals true :: l) w) : ∃ q cap, Sat W (Blk p [.int .i64 (n : Nat), F, .int .u32 1, .int .i32 0, .int .u32 0, .int .i64 (n : Nat), .slice q n cap] T :: Rw U 1 q n cap (u32s vals) :: l) w := by
  rw [tb_t] at h
  obtain ⟨⟨q, cap⟩, h⟩ := h.unex
  exact ⟨q, cap, h.unall⟩
theorem tb_shut {W w : World} {l : List HP} {T U p n cap : Nat} {q : Option Addr} {F : Value} {vals : List B32} (h : Sat W (Blk p [.int .i64 (n : Nat), F, .int .u32 1, .int .i32 0, .int .u32 0, .int .i64 (n : Nat), .slice q n cap] T :: Rw U 1 q n cap (u32s vals) :: l) w) : Sat W (TbP T U p n F vals true :: l) w := by
  rw [tb_t]
  exact Sat.ex (q, cap) (Sat.all h)
def inT (n : Nat) (i : Int) : Prop := 0 ≤ i ∧ i < n
instance (n : Nat) (i : Int) : Decidable (inT n i) := by unfold inT; infer_instance
def tAt (n : Nat) (vals : List B32) (i : Int) : B32 := if inT n i then vals.getD i.toNat 0#32 else 0#32
abbrev pf : Unit → Nat → B32 := fun _ i => entB i
abbrev pg : Unit → Nat → Unit := fun _ _ => ()
theorem poly_vals : tvals pf pg () 256 = polyL := rfl
theorem tAt_nat {n : Nat} {vals : List B32} (h : vals.length = n) (i : Nat) : tAt n vals (i : Int) = vals.getD i 0#32 := by
  unfold tAt
  by_cases hi : i < n
  · rw [if_pos (show inT n i from by unfold inT; omega), Int.toNat_natCast]
  · rw [if_neg (show ¬ inT n i from by unfold inT; omega), List.getD_eq_getElem?_getD, List.getElem?_eq_none (by omega)]; rfl
theorem polyL_len : polyL.length = 256 := by simp [polyL]
theorem sum_poly (b : List UInt8) : sumB (fun i => tAt 256 (tvals pf pg () 256) (i : Int)) b = crcB b := by
  have e : (fun i : Nat => tAt 256 (tvals pf pg () 256) (i : Int)) = fun i => polyL.getD i 0#32 := funext fun i => by rw [poly_vals, tAt_nat polyL_len]
  rw [e]
  rfl
theorem n32_nat (i : Nat) : IntKind.u32.wrap (i : Int) = ((BitVec.ofNat 32 i).toNat : Nat) := by
  rw [BitVec.toNat_ofNat, show IntKind.u32.wrap (i : Int) = (i : Int) % 4294967296 from by rw [IntKind.wrap_u32]]
  omega
theorem eSteps_succ (k : Nat) (c : B32) (h : k < 8) : eSteps (8 - k) c = eSteps (8 - (k + 1)) (eStep c) := by rw [show 8 - k = (8 - (k + 1)) + 1 from by omega]; rfl
theorem crc_awake : crcB [49, 50, 51, 52, 53, 54, 55, 56, 57] = 0xcbf43926#32 := by decide +kernel
theorem sFold_snoc (tv : Nat → B32) (c : B32) (b : List UInt8) (x : UInt8) : sFold tv c (b ++ [x]) = sStep tv (sFold tv c b) x := by simp [sFold]
theorem mFold_snoc (c : B32) (b : List UInt8) (x : UInt8) : mFold c (b ++ [x]) = mStep (mFold c b) x := by simp [mFold]
end Go.Sl
