/-
  Records with a head: the plain law; rows of rows; append where there is room; append of zeros.
  Conditions: none; it speaks of every program of the model.
-/
import Derived.Test.YtglmimbfelakbaaLz2
import Derived.Test.YtglmimbfelakbaaOp1
import Derived.Test.YtglmimbfelakbaaLp1
namespace Go.Sl
open Go
set_option linter.unusedSimpArgs false
set_option linter.unusedVariables false

section
variable {P : Program} {ops : Array Oper} {Q : Exit → Act → World → Prop} {K : Act → World → Prop} {a : Act} {w : World} {n : Nat} {L : List (Nat × Value)} {o : Oper} {W : World} {l l' : List HP} {S : World → Prop}
/-- append, where there is room. -/
theorem run_append_fit {t e ty : TypeId} {z : Value} {sz by' len cap m c : Nat} {p q : Option Addr} {xs ys : List Value} (ht : P.underlying t = some (.slice e)) (hi : TyB P e z sz by')
    (hS : Sat W (Rw e sz p len cap xs :: l) w) (hy : SlAt w q m sz ys) (h1 : ys.all (·.oneCell') = true) (hroom : len + m ≤ cap) :
    ∃ w', (Builtin.append_ #[t, t] ty #[.slice p len cap, .slice q m c]).run P w = .ok (.slice p (len + m) cap) w' ∧ Sat W (Rw e sz p (len + m) cap (xs ++ ys) :: l) w' := by
  obtain ⟨i, hi1, hi2, hi3, hi4⟩ := hi.out
  obtain ⟨hlx, hlc, hcm, hpc⟩ := hS.rwLen .head
  have hlen : (xs ++ ys).length = (len + m) * sz := by rw [List.length_append, hlx, hy.1, Nat.add_mul]
  have hnew := run_firstCells (P := P) (c := c) hy
  cases hp : p with
  | none =>
    have hc0 := hpc hp
    have hl0 : len = 0 := by omega
    have hm0 : m = 0 := by omega
    subst hp; subst hl0; subst hm0; subst hc0
    have e1 : ys = [] := List.eq_nil_of_length_eq_zero (by simpa using hy.1)
    subst e1
    refine ⟨w, ?_, by simpa using hS⟩
    simp [Builtin.append_, run_underlying ht, sizeOf, typeInfo, hi1, hi3, Builtin.lenOf, hnew]
  | some ad =>
    subst hp
    obtain ⟨_, _, ⟨_, _, _, h4⟩, _, _, hs, _⟩ := hS.has
    rcases h4 with ⟨hp', _⟩ | ⟨b, sp, hp', hbk, hspl⟩
    · cases hp'
    · cases hp'
      have hw := hs _ _ hbk
      simp only at hw
      have h1' : ∀ u ∈ ys, u.oneCell' = true := by simpa using h1
      have hfit : len * i.size + ys.length ≤ (xs ++ sp).toArray.size := by
        simp only [List.size_toArray, List.length_append, hlx, hspl, hy.1, hi3, ← Nat.add_mul]
        exact Nat.mul_le_mul_right _ (by omega)
      have hst := run_storeCells_at P b (len * i.size) e ys 0 (xs ++ sp).toArray w hw (by simpa using hfit) h1'
      simp only [Nat.add_zero] at hst
      refine ⟨_, ?_, hS.rwSet (len' := len + m) (cs := ((xs ++ sp).take (len * i.size) ++ ys ++ (xs ++ sp).drop (len * i.size + ys.length)).toArray) rfl hlen hroom (sp.drop ys.length) ?_ ?_⟩
      · simp [Builtin.append_, run_underlying ht, sizeOf, typeInfo, hi1, hi3, Builtin.lenOf, hroom, hnew, Addr.add_lit] at hst ⊢
        simp [hst]
      · rw [hi3, ← hlx]
        congr 1
        rw [List.take_left, List.drop_append]
        simp
      · rw [List.length_drop, hspl, hy.1, ← Nat.sub_mul]
        congr 1
        omega
theorem st_appendF {t e : TypeId} {x y : Operand} {z : Value} {sz by' len cap m c d : Nat} {p q : Option Addr} {xs ys : List Value} (hf : Fits n a L) (hn : Wn ops a o true) (ho : o.op = .call { callee := .builtin .append, args := #[x, y], argTypes := #[t, t] }) (hx : ev L x = some (.slice p len cap)) (hy : ev L y = some (.slice q m c))
    (ht : P.underlying t = some (.slice e)) (hi : TyB P e z sz by') (hzs : z.cells.size = sz) (h0 : 0 < by') (hS : Sat W l w) (s : Sel (Rw e sz p len cap xs) l l') (hys : SlAt w q m sz ys) (h1 : ys.all (·.oneCell') = true) (hb : len + m ≤ cap) (hd : o.dst = some d) (hlt : Nat.blt d n = true)
    (k : ∀ p' cap' a' w', Fits n a' ((d, .slice p' (len + m) cap') :: L) → Sat W (Rw e sz p' (len + m) cap' (xs ++ ys) :: l') w' → cap' = cap → K a' w') : opWp P ops Q o K a w := by
  obtain ⟨w', hr, hs⟩ := run_append_fit (P := P) (ty := o.type) (c := c) ht hi (hS.sel s) hys h1 hb
  exact st_eff (w' := w') hf hn (by simp [execOp, ho, resolve, invoke, builtin, hf.ev hx, hf.ev hy, hr]) hd hlt fun a' hf' => k p cap a' w' hf' hs rfl
/-- append(nothing, zeros). -/
theorem run_append_zeros {t ti e ty : TypeId} {z : Value} {sz by' m : Nat} (ht : P.underlying t = some (.slice e)) (hti : P.underlying ti = some (.int .i64)) (hi : TyB P e z sz by') (hzs : z.cells.size = sz) (h0 : 0 < by') (hS : Sat W l w) (hm : 0 < m) (hb : m * by' ≤ 281474976710656) :
    ∃ p' cap' w', (Builtin.append_ #[t, ti] ty #[.slice none 0 0, .int .i64 (m : Nat)]).run P w = .ok (.slice p' m cap') w' ∧ Sat W (Rw e sz p' m cap' (Builtin.zeroCells z.cells m).toList :: l) w' := by
  obtain ⟨i, hi1, hi2, hi3, hi4⟩ := hi.out
  have hmb : m ≤ m * by' := Nat.le_mul_of_pos_right _ h0
  obtain ⟨hg1, hg2⟩ := grown_bound (w := w) (old := 0) e (show m ≤ maxLen by simp only [maxLen]; omega)
  have hw : IntKind.i64.wrap (m : Int) = (m : Int) := Go.IntWalk.i64_in _ (by omega)
  refine ⟨some ⟨w.heap.size, 0, none⟩, grownCap w m 0 e, w.drew.alloc (.cells (Builtin.zeroCells z.cells m ++ Builtin.zeroCells z.cells (grownCap w m 0 e - m)) e), ?_,
    hS.drew.rwNew (w := w.drew) rfl (by rw [Array.length_toList, size_zeroCells, hzs]) hg1 hg2 (Builtin.zeroCells z.cells (grownCap w m 0 e - m)).toList ?_ ?_⟩
  · have hm0 : m ≠ 0 := by omega
    have hmi : ¬ ((m : Int) < 0) := by omega
    have hb' : ¬ (281474976710656 < (m : Int) * (by' : Int)) := by have : ((m : Int) * (by' : Int)) = ((m * by' : Nat) : Int) := by simp
                                                                   omega
    have hsz : 0 < by' := h0
    have h63' : ¬ (9223372036854775807 < (m : Int)) := by omega
    have h48' : ¬ (281474976710656 < Builtin.nextslicecap m 0 * by') := by rw [nextslicecap_zero hm]; omega
    have hn : ¬ (m ≤ 0) := by omega
    by_cases hz0 : sz = 0
    · have e0 : Builtin.zeroCells z.cells m = #[] := Array.eq_empty_of_size_eq_zero (by rw [size_zeroCells, hzs, hz0]; omega)
      have e1 : Builtin.zeroCells z.cells (grownCap w m 0 e - m) = #[] := Array.eq_empty_of_size_eq_zero (by rw [size_zeroCells, hzs, hz0]; omega)
      simp [Builtin.append_, run_underlying ht, run_underlying hti, sizeOf, typeInfo, zeroValue, hi1, hi2, hi3, hi4, asInt, asIntOf, hw, hmi, hb', hm0, h63', h48', Question.forced, run_firstCells_none, newRow, grownCap, hz0, e0] at e1 ⊢
    · simp [Builtin.append_, run_underlying ht, run_underlying hti, sizeOf, typeInfo, zeroValue, hi1, hi2, hi3, hi4, asInt, asIntOf, hw, hmi, hb', hm0, h63', h48', Question.forced, run_firstCells_none, newRow, grownCap, hz0]
      exact fun h => absurd h (Nat.mul_ne_zero hm0 hz0)
  · simp
  · rw [Array.length_toList, size_zeroCells, hzs]
theorem st_appendN {t ti e : TypeId} {x y : Operand} {z : Value} {sz by' m d : Nat} (hf : Fits n a L) (hn : Wn ops a o true) (ho : o.op = .call { callee := .builtin .append, args := #[x, y], argTypes := #[t, ti] }) (hx : ev L x = some (.slice none 0 0)) (hy : ev L y = some (.int .i64 (m : Nat)))
    (ht : P.underlying t = some (.slice e)) (hti : P.underlying ti = some (.int .i64)) (hi : TyB P e z sz by') (hzs : z.cells.size = sz) (h0 : 0 < by') (hS : Sat W l w) (hm : 0 < m) (hb : m * by' ≤ 281474976710656) (hd : o.dst = some d) (hlt : Nat.blt d n = true)
    (k : ∀ p' cap' a' w', Fits n a' ((d, .slice p' m cap') :: L) → Sat W (Rw e sz p' m cap' (Builtin.zeroCells z.cells m).toList :: l) w' → K a' w') : opWp P ops Q o K a w := by
  obtain ⟨p', cap', w', hr, hs⟩ := run_append_zeros (P := P) (ty := o.type) ht hti hi hzs h0 hS hm hb
  exact st_eff (w' := w') hf hn (by simp [execOp, ho, resolve, invoke, builtin, hf.ev hx, hf.ev hy, hr]) hd hlt fun a' hf' => k p' cap' a' w' hf' hs
end

/-! ### Rows of rows -/
abbrev sval (x : Sli UInt8) : Value := .slice x.1 x.2.2.length x.2.1
abbrev byts (L : List (Sli UInt8)) : List (List UInt8) := L.map (·.2.2)
theorem svs_one (L : List (Sli UInt8)) : (L.map sval).all (·.oneCell') = true := by simp [Value.oneCell']
/-- The rows that L tells stand there. -/
structure BB (w : World) (q : Option Addr) (L : List (Sli UInt8)) : Prop where
  at' : SlAt w q L.length 1 (L.map sval)
  row : ∀ x ∈ L, SlAt w x.1 x.2.2.length 1 (bvs x.2.2)
theorem BB.get {w : World} {ad : Addr} {L : List (Sli UInt8)} (h : BB w (some ad) L) {k : Nat} {x : Sli UInt8} (hx : L[k]? = some x) : w.cell? (ad.add k) = some (sval x) := h.at'.get (by simp [hx])
theorem BB.sl {w : World} {q : Option Addr} {L : List (Sli UInt8)} (h : BB w q L) {k : Nat} {x : Sli UInt8} (hx : L[k]? = some x) : SlAt w x.1 x.2.2.length 1 (bvs x.2.2) := h.row x (List.mem_of_getElem? hx)
/-- Rows of their own. -/
def Rws (B : Nat) (L : List (Sli UInt8)) : HP := All (L.map fun x => Rw B 1 x.1 x.2.2.length x.2.1 (bvs x.2.2))
theorem Sat.rwsNil {W w : World} {l : List HP} (B : Nat) (h : Sat W l w) : Sat W (Rws B [] :: l) w := Sat.all (ps := []) h
theorem Sat.rwsSnoc {W w : World} {l : List HP} {B : Nat} {L : List (Sli UInt8)} {q : Option Addr} {n cap : Nat} {bs : List UInt8} (h : Sat W (Rws B L :: Rw B 1 q n cap (bvs bs) :: l) w) (hn : n = bs.length) : Sat W (Rws B (L ++ [(q, cap, bs)]) :: l) w := by
  subst hn
  refine Sat.all ?_
  have h2 := Sat.unall h
  simpa using h2
theorem sel_mem {p : HP} : ∀ {ps l : List HP}, p ∈ ps → ∃ l', Sel p (ps ++ l) l'
  | q :: ps, l, h => by
    rcases List.mem_cons.1 h with rfl | h
    · exact ⟨_, .head⟩
    · obtain ⟨l', s⟩ := sel_mem (l := l) h; exact ⟨_, .tail s⟩
theorem Sat.rws {W w : World} {l l' : List HP} {B : Nat} {L : List (Sli UInt8)} (h : Sat W l w) (s : Sel (Rws B L) l l') : ∀ x ∈ L, SlAt w x.1 x.2.2.length 1 (bvs x.2.2) := fun x hx => by
  obtain ⟨l'', s2⟩ := sel_mem (l := l') (List.mem_map_of_mem (f := fun x : Sli UInt8 => Rw B 1 x.1 x.2.2.length x.2.1 (bvs x.2.2)) hx)
  exact (Sat.unall (h.sel s)).slOfRw s2
theorem Sat.bb {W w : World} {l l' l'' : List HP} {B T : Nat} {q : Option Addr} {n cap : Nat} {L : List (Sli UInt8)} (h : Sat W l w) (s : Sel (Rw T 1 q n cap (L.map sval)) l l') (s2 : Sel (Rws B L) l l'') (hn : n = L.length) : BB w q L := ⟨hn ▸ h.slOfRw s, h.rws s2⟩
theorem BB.ofArg {W w : World} {P : Program} {e by2 : Nat} {l l' : List HP} {q : Option Addr} {L : List (Sli UInt8)} {ok : UInt8 → Prop} (h : Sat W l w) (s : Sel (Old W) l l') (h1 : SlAt W q L.length 1 (L.flatMap fun x : Sli UInt8 => [sval x])) (h2 : ∀ x ∈ L, Sli.ok P W e 1 by2 (fun c : UInt8 => [bv c]) ok x) : BB w q L :=
  ⟨h.slOfOld s (by rw [flat_one] at h1; exact h1), fun x hx => h.slOfOld s (by have := (h2 x hx).1; rwa [flat_bv] at this)⟩
theorem BB.sub {w : World} {q q' : Option Addr} {L M : List (Sli UInt8)} (h : BB w q L) (hm : SlAt w q' M.length 1 (M.map sval)) (hs : ∀ x ∈ M, x ∈ L) : BB w q' M := ⟨hm, fun x hx => h.row x (hs x hx)⟩
theorem byts_get {L : List (Sli UInt8)} {k : Nat} {x : Sli UInt8} (h : L[k]? = some x) : (byts L)[k]? = some x.2.2 := by simp [byts, h]
theorem flat_take {L : List (Sli UInt8)} {k : Nat} {x : Sli UInt8} (h : L[k]? = some x) : (byts (L.take (k + 1))).flatten = (byts (L.take k)).flatten ++ x.2.2 := by rw [take_succ_get h]; simp [byts]
theorem flat_take_le (L : List (Sli UInt8)) (k : Nat) : (byts (L.take k)).flatten.length ≤ (byts L).flatten.length := by
  conv => rhs; rw [← List.take_append_drop k L]
  simp only [byts, List.map_append, List.flatten_append, List.length_append]; omega

/-! ### Words -/
def w32 (c : B32) : List UInt8 := [UInt8.ofNat (c >>> 24).toNat, UInt8.ofNat (c >>> 16).toNat, UInt8.ofNat (c >>> 8).toNat, UInt8.ofNat c.toNat]
def n4 (x y z u : UInt8) : B32 := BitVec.ofNat 32 x.toNat <<< 24 ||| BitVec.ofNat 32 y.toNat <<< 16 ||| BitVec.ofNat 32 z.toNat <<< 8 ||| BitVec.ofNat 32 u.toNat
def num32 : List UInt8 → B32
  | x :: y :: z :: u :: _ => n4 x y z u
  | _ => 0#32
theorem num32_w32 (c : B32) (r : List UInt8) : num32 (w32 c ++ r) = c := by
  show n4 _ _ _ _ = c
  unfold n4
  simp only [UInt8.toNat_ofNat']
  apply BitVec.eq_of_getLsbD_eq
  intro i hi
  have := c.isLt
  simp only [BitVec.getLsbD_or, BitVec.getLsbD_shiftLeft, BitVec.getLsbD_ofNat, BitVec.toNat_ushiftRight, Nat.testBit_mod_two_pow, Nat.testBit_shiftRight, show ∀ j, c.toNat.testBit j = c.getLsbD j from fun _ => rfl]
  by_cases h8 : i < 8
  · simp [h8, hi, show i < 24 by omega, show i < 16 by omega]
  by_cases h16 : i < 16
  · simp [h8, h16, hi, show i < 24 by omega, show i - 8 < 8 by omega, show i - 8 < 32 by omega, show 8 + (i - 8) = i by omega]
  by_cases h24 : i < 24
  · simp [h8, h16, h24, hi, show ¬ i - 8 < 8 by omega, show i - 16 < 8 by omega, show i - 16 < 32 by omega, show 16 + (i - 16) = i by omega]
  · simp [h8, h16, h24, hi, show ¬ i - 8 < 8 by omega, show ¬ i - 16 < 8 by omega, show i - 24 < 8 by omega, show i - 24 < 32 by omega, show 24 + (i - 24) = i by omega]
theorem n32_shl (a : B32) {q : Int} (k : Nat) (hq : q = k) (hk : k ≤ 32) : IntKind.u32.wrap ((a.toNat : Int) * 2 ^ (min q.toNat IntKind.u32.bits)) = ((a <<< k).toNat : Nat) := by
  subst hq
  rw [Int.toNat_natCast, show min k IntKind.u32.bits = k from Nat.min_eq_left hk, BitVec.toNat_shiftLeft, Nat.shiftLeft_eq, show IntKind.u32.wrap ((a.toNat : Int) * 2 ^ k) = ((a.toNat : Int) * 2 ^ k) % 4294967296 from by rw [IntKind.wrap_u32]]
  have : ((a.toNat : Int) * 2 ^ k) = ((a.toNat * 2 ^ k : Nat) : Int) := by simp
  rw [this]; omega
theorem w32_len (c : B32) : (w32 c).length = 4 := rfl
theorem num32_at {b : List UInt8} {x y z u : UInt8} (h0 : b[0]? = some x) (h1 : b[1]? = some y) (h2 : b[2]? = some z) (h3 : b[3]? = some u) : num32 b = n4 x y z u := by
  match b, h0, h1, h2, h3 with
  | _ :: _ :: _ :: _ :: _, h0, h1, h2, h3 => simp at h0 h1 h2 h3; subst h0; subst h1; subst h2; subst h3; rfl

/-! ### Records -/
def frB (r : List UInt8) : List UInt8 := w32 (BitVec.ofNat 32 r.length) ++ (w32 (crcB r) ++ r)
theorem frB_len (r : List UInt8) : (frB r).length = r.length + 8 := by simp [frB, w32_len]; omega
def tkE (b : List UInt8) : Nat := if b.length < 8 then 2 else if 60000 < (num32 b).toNat then 4 else if b.length < (num32 b).toNat + 8 then 2 else if crcB ((b.drop 8).take (num32 b).toNat) = num32 (b.drop 4) then 0 else 3
def tkR (b : List UInt8) : List UInt8 := if tkE b = 0 then (b.drop 8).take (num32 b).toNat else []
def tkN (b : List UInt8) : Nat := if tkE b = 0 then (num32 b).toNat + 8 else 0
theorem tk_short {b : List UInt8} (h : b.length < 8) : tkE b = 2 := by simp [tkE, h]
theorem tk_long {b : List UInt8} (h : 8 ≤ b.length) (h2 : 60000 < (num32 b).toNat) : tkE b = 4 := by simp [tkE, Nat.not_lt.2 h, h2]
theorem tk_short2 {b : List UInt8} (h : 8 ≤ b.length) (h2 : (num32 b).toNat ≤ 60000) (h3 : b.length < (num32 b).toNat + 8) : tkE b = 2 := by simp [tkE, Nat.not_lt.2 h, Nat.not_lt.2 h2, h3]
theorem tk_form {b : List UInt8} (h : 8 ≤ b.length) (h2 : (num32 b).toNat ≤ 60000) (h3 : (num32 b).toNat + 8 ≤ b.length) (h4 : ¬ crcB ((b.drop 8).take (num32 b).toNat) = num32 (b.drop 4)) : tkE b = 3 := by simp [tkE, Nat.not_lt.2 h, Nat.not_lt.2 h2, Nat.not_lt.2 h3, h4]
theorem tk_ok {b : List UInt8} (h : 8 ≤ b.length) (h2 : (num32 b).toNat ≤ 60000) (h3 : (num32 b).toNat + 8 ≤ b.length) (h4 : crcB ((b.drop 8).take (num32 b).toNat) = num32 (b.drop 4)) : tkE b = 0 := by simp [tkE, Nat.not_lt.2 h, Nat.not_lt.2 h2, Nat.not_lt.2 h3, h4]
theorem tk_no {b : List UInt8} {e : Nat} (h : tkE b = e) (he : e ≠ 0) : tkR b = [] ∧ tkN b = 0 := by simp [tkR, tkN, h, he]
theorem tk_yes {b : List UInt8} (h : tkE b = 0) : tkR b = (b.drop 8).take (num32 b).toNat ∧ tkN b = (num32 b).toNat + 8 := by simp [tkR, tkN, h]
theorem tk_bound {b : List UInt8} (h : tkE b = 0) : 8 ≤ tkN b ∧ tkN b ≤ b.length ∧ (tkR b).length + 8 = tkN b ∧ (tkR b).length ≤ 60000 := by
  obtain ⟨h1, h2⟩ := tk_yes h
  rw [h1, h2, List.length_take, List.length_drop]
  unfold tkE at h
  split at h
  · cases h
  split at h
  · cases h
  split at h
  · cases h
  omega
theorem tkE_le (b : List UInt8) : tkE b = 0 ∨ tkE b = 2 ∨ tkE b = 3 ∨ tkE b = 4 := by unfold tkE; (repeat' split) <;> simp
theorem tk_fr {r : List UInt8} (h : r.length ≤ 60000) (s : List UInt8) : tkE (frB r ++ s) = 0 ∧ tkR (frB r ++ s) = r ∧ tkN (frB r ++ s) = r.length + 8 := by
  have hn : num32 (frB r ++ s) = BitVec.ofNat 32 r.length := by unfold frB; rw [List.append_assoc]; exact num32_w32 _ _
  have hN : (num32 (frB r ++ s)).toNat = r.length := by rw [hn, BitVec.toNat_ofNat]; omega
  have hd : (frB r ++ s).drop 8 = r ++ s := by simp [frB, w32]
  have h4 : num32 ((frB r ++ s).drop 4) = crcB r := by
    rw [show (frB r ++ s).drop 4 = w32 (crcB r) ++ (r ++ s) by simp [frB, w32]]; exact num32_w32 _ _
  have hl : (frB r ++ s).length = r.length + 8 + s.length := by rw [List.length_append, frB_len]
  have e0 : tkE (frB r ++ s) = 0 := tk_ok (by omega) (by omega) (by omega) (by rw [hd, hN, h4, List.take_left])
  obtain ⟨h1, h2⟩ := tk_yes e0
  exact ⟨e0, by rw [h1, hd, hN, List.take_left], by rw [h2, hN]⟩
/-- All records, one behind the other. -/
def allF : Nat → List UInt8 → List (List UInt8) × Nat × Nat
  | 0, _ => ([], 0, 0)
  | f + 1, b => if tkE b = 0 then (tkR b :: (allF f (b.drop (tkN b))).1, tkN b + (allF f (b.drop (tkN b))).2.1, (allF f (b.drop (tkN b))).2.2) else ([], 0, if tkE b = 2 then 0 else tkE b)
def allB (b : List UInt8) : List (List UInt8) × Nat × Nat := allF (b.length + 1) b
theorem allF_more : ∀ (f g : Nat) (b : List UInt8), b.length < f → b.length < g → allF f b = allF g b
  | f + 1, g + 1, b, hf, hg => by
    unfold allF
    by_cases h : tkE b = 0
    · have hb := tk_bound h
      rw [if_pos h, if_pos h, allF_more f g (b.drop (tkN b)) (by rw [List.length_drop]; omega) (by rw [List.length_drop]; omega)]
    · rw [if_neg h, if_neg h]
theorem allB_ok {b : List UInt8} (h : tkE b = 0) : allB b = (tkR b :: (allB (b.drop (tkN b))).1, tkN b + (allB (b.drop (tkN b))).2.1, (allB (b.drop (tkN b))).2.2) := by
  have hb := tk_bound h
  have e : allB (b.drop (tkN b)) = allF b.length (b.drop (tkN b)) := allF_more _ _ _ (by omega) (by rw [List.length_drop]; omega)
  rw [e]
  unfold allB
  conv => lhs; unfold allF
  rw [if_pos h]
theorem allB_no {b : List UInt8} (h : tkE b ≠ 0) : allB b = ([], 0, if tkE b = 2 then 0 else tkE b) := by unfold allB allF; rw [if_neg h]
theorem allB_nil : allB [] = ([], 0, 0) := by rw [allB_no (by rw [tk_short (by simp)]; decide), tk_short (by simp)]; rfl
theorem allB_fr {r : List UInt8} (h : r.length ≤ 60000) (s : List UInt8) : allB (frB r ++ s) = (r :: (allB s).1, r.length + 8 + (allB s).2.1, (allB s).2.2) := by
  obtain ⟨e, hr, hn⟩ := tk_fr h s
  rw [allB_ok e, hr, hn, show (frB r ++ s).drop (r.length + 8) = s by rw [← frB_len]; exact List.drop_left]
def frs (l : List (List UInt8)) : List UInt8 := (l.map frB).flatten
theorem frs_snoc (l : List (List UInt8)) (r : List UInt8) : frs (l ++ [r]) = frs l ++ frB r := by simp [frs]
theorem frs_append (l m : List (List UInt8)) : frs (l ++ m) = frs l ++ frs m := by simp [frs]
theorem allB_frs : ∀ (l : List (List UInt8)) (s : List UInt8), (∀ r ∈ l, r.length ≤ 60000) → allB (frs l ++ s) = (l ++ (allB s).1, (frs l).length + (allB s).2.1, (allB s).2.2)
  | [], s, _ => by simp [frs]
  | r :: l, s, h => by
    have e : frs (r :: l) ++ s = frB r ++ (frs l ++ s) := by simp [frs]
    rw [e, allB_fr (h r List.mem_cons_self), allB_frs l s fun x hx => h x (List.mem_cons_of_mem _ hx)]
    have e2 : (frs (r :: l)).length = r.length + 8 + (frs l).length := by simp [frs, frB_len]
    rw [e2]
    simp [Nat.add_assoc]
theorem allB_frs0 (l : List (List UInt8)) (h : ∀ r ∈ l, r.length ≤ 60000) : allB (frs l) = (l, (frs l).length, 0) := by
  have := allB_frs l [] h
  rw [List.append_nil, allB_nil] at this
  simpa using this
/-- small -/
def smallL (L : List (Sli UInt8)) : List (Sli UInt8) := (L.take 20).filter fun x => decide (x.2.2.length ≤ 500)
theorem smallL_get {L : List (Sli UInt8)} {k : Nat} {x : Sli UInt8} (h : L[k]? = some x) : smallL (L.take (k + 1)) = if k < 20 ∧ x.2.2.length ≤ 500 then smallL (L.take k) ++ [x] else smallL (L.take k) := by
  unfold smallL
  rw [List.take_take, List.take_take]
  by_cases hk : k < 20
  · rw [show min 20 (k + 1) = k + 1 by omega, show min 20 k = k by omega, take_succ_get h, List.filter_append]
    by_cases h5 : x.2.2.length ≤ 500
    · rw [if_pos ⟨hk, h5⟩]; simp [h5]
    · rw [if_neg (fun h => h5 h.2)]; simp [h5]
  · rw [show min 20 (k + 1) = 20 by omega, show min 20 k = 20 by omega, if_neg (fun h => hk h.1)]
theorem smallL_len (L : List (Sli UInt8)) : (smallL L).length ≤ 20 := Nat.le_trans (List.length_filter_le _ _) (by rw [List.length_take]; omega)
theorem smallL_mem {L : List (Sli UInt8)} {x : Sli UInt8} (h : x ∈ smallL L) : x ∈ L ∧ x.2.2.length ≤ 500 := by
  unfold smallL at h
  obtain ⟨h1, h2⟩ := List.mem_filter.1 h
  exact ⟨List.mem_of_mem_take h1, by simpa using h2⟩
theorem byts_small {L : List (Sli UInt8)} : ∀ r ∈ byts (smallL L), r.length ≤ 500 := fun r hr => by
  obtain ⟨x, hx, rfl⟩ := List.mem_map.1 hr
  exact (smallL_mem hx).2
theorem frs_len_le : ∀ (l : List (List UInt8)) (n : Nat), (∀ r ∈ l, r.length ≤ n) → (frs l).length ≤ l.length * (n + 8)
  | [], _, _ => by simp [frs]
  | r :: l, n, h => by
    have h1 := frs_len_le l n fun x hx => h x (List.mem_cons_of_mem _ hx)
    have h2 := h r List.mem_cons_self
    have e2 : (frs (r :: l)).length = r.length + 8 + (frs l).length := by simp [frs, frB_len]
    rw [e2, List.length_cons, Nat.succ_mul]
    omega
theorem smallFr (L : List (Sli UInt8)) (k : Nat) : (frs ((byts (smallL L)).take k)).length ≤ 10160 := by
  have h1 := frs_len_le ((byts (smallL L)).take k) 500 fun r hr => byts_small r (List.mem_of_mem_take hr)
  have h2 : ((byts (smallL L)).take k).length ≤ 20 := by rw [List.length_take, List.length_map]; have := smallL_len L; omega
  have := Nat.mul_le_mul_right 508 h2
  omega
theorem subv {w : World} {q : Option Addr} {b : List UInt8} {c : Nat} (i : Int) (h : SlAt w q b.length 1 (bvs b)) (h1 : i.toNat ≤ b.length) (hc : b.length ≤ c) : SlAt w (if c = i.toNat then q else q.map (·.add (i.toNat * 1))) (b.drop i.toNat).length 1 (bvs (b.drop i.toNat)) := by
  have h2 := h.drop h1 hc
  rw [Nat.mul_one] at h2
  rw [bvs_drop, List.length_drop, Nat.mul_one]
  exact h2
theorem subv2 {w : World} {q : Option Addr} {b : List UInt8} {c : Nat} (i : Int) (m : Nat) (h : SlAt w q b.length 1 (bvs b)) (h1 : i.toNat ≤ b.length) (hc : b.length ≤ c) : SlAt w (if c = i.toNat then q else q.map (·.add (i.toNat * 1))) ((b.drop i.toNat).take m).length 1 (bvs ((b.drop i.toNat).take m)) := by
  have h2 := (subv i h h1 hc).take (k := min m (b.drop i.toNat).length) (Nat.min_le_right _ _)
  have e : (b.drop i.toNat).take m = (b.drop i.toNat).take (min m (b.drop i.toNat).length) := by rw [List.take_eq_take_iff]; simp
  rw [e, bvs_take, List.length_take, Nat.min_assoc, Nat.min_self]
  exact h2
theorem subv3 {w : World} {q : Option Addr} {b : List UInt8} {c m' : Nat} (i : Int) (m : Nat) (h : SlAt w q b.length 1 (bvs b)) (h1 : i.toNat ≤ b.length) (hc : b.length ≤ c) (hm : m' = ((b.drop i.toNat).take m).length) : SlAt w (if c = i.toNat then q else q.map (·.add (i.toNat * 1))) m' 1 (bvs ((b.drop i.toNat).take m)) := by
  rw [hm]; exact subv2 i m h h1 hc
theorem BB.four {w : World} {q : Option Addr} {x y z u : Sli UInt8} (h : SlAt w q 4 1 [sval x, sval y, sval z, sval u]) (h1 : SlAt w x.1 x.2.2.length 1 (bvs x.2.2)) (h2 : SlAt w y.1 y.2.2.length 1 (bvs y.2.2)) (h3 : SlAt w z.1 z.2.2.length 1 (bvs z.2.2)) (h4 : SlAt w u.1 u.2.2.length 1 (bvs u.2.2)) : BB w q [x, y, z, u] :=
  ⟨h, fun v hv => by
    simp at hv
    rcases hv with rfl | rfl | rfl | rfl
    · exact h1
    · exact h2
    · exact h3
    · exact h4⟩
theorem byts_snoc (L : List (Sli UInt8)) (x : Sli UInt8) : byts (L ++ [x]) = byts L ++ [x.2.2] := by simp [byts]
theorem allB_next {b : List UInt8} {at' : Nat} {l : List (List UInt8)} (h : allB b = (l ++ (allB (b.drop at')).1, at' + (allB (b.drop at')).2.1, (allB (b.drop at')).2.2)) (he : tkE (b.drop at') = 0) : allB b = ((l ++ [tkR (b.drop at')]) ++ (allB (b.drop (at' + tkN (b.drop at')))).1, (at' + tkN (b.drop at')) + (allB (b.drop (at' + tkN (b.drop at')))).2.1, (allB (b.drop (at' + tkN (b.drop at')))).2.2) := by
  have h2 := allB_ok he
  rw [List.drop_drop] at h2
  rw [h2] at h
  rw [h]
  simp [Nat.add_assoc]
theorem allB_stop {b : List UInt8} {at' : Nat} {l : List (List UInt8)} (h : allB b = (l ++ (allB (b.drop at')).1, at' + (allB (b.drop at')).2.1, (allB (b.drop at')).2.2)) (he : tkE (b.drop at') ≠ 0) : allB b = (l, at', if tkE (b.drop at') = 2 then 0 else tkE (b.drop at')) := by
  rw [allB_no he] at h
  rw [h]
  simp
theorem byts_ext {La Lb : List (Sli UInt8)} (hl : La.length = Lb.length) {k : Nat} (hk : La.length ≤ k) (h : (byts La).take k = (byts Lb).take k) : byts La = byts Lb := by
  rwa [List.take_of_length_le (by simp [byts]; omega), List.take_of_length_le (by simp [byts]; omega)] at h
theorem byts_ne {La Lb : List (Sli UInt8)} {k : Nat} {x y : Sli UInt8} (hx : La[k]? = some x) (hy : Lb[k]? = some y) (h : x.2.2 ≠ y.2.2) : byts La ≠ byts Lb := fun e => h (by
  have h1 := byts_get hx
  rw [e, byts_get hy] at h1
  exact (Option.some.inj h1).symm)
theorem byts_take {La Lb : List (Sli UInt8)} {k : Nat} {x y : Sli UInt8} (hx : La[k]? = some x) (hy : Lb[k]? = some y) (h : (byts La).take k = (byts Lb).take k) (h2 : x.2.2 = y.2.2) : (byts La).take (k + 1) = (byts Lb).take (k + 1) := by
  rw [take_succ_get (byts_get hx), take_succ_get (byts_get hy), h, h2]
theorem byts_len (L : List (Sli UInt8)) : (byts L).length = L.length := by simp [byts]
/-! ### Put, told at once -/
def putB (b r : List UInt8) : List UInt8 := if r.length ≤ 60000 then b ++ frB r else []
def putE (r : List UInt8) : Nat := if r.length ≤ 60000 then 0 else 4
theorem put_yes {b r : List UInt8} (h : r.length ≤ 60000) : putB b r = b ++ frB r ∧ putE r = 0 := ⟨if_pos h, if_pos h⟩
theorem put_no {b r : List UInt8} (h : 60000 < r.length) : putB b r = [] ∧ putE r = 4 := ⟨if_neg (by omega), if_neg (by omega)⟩
theorem tk_fr0 {r : List UInt8} (h : r.length ≤ 60000) : tkE (frB r) = 0 ∧ tkR (frB r) = r ∧ tkN (frB r) = r.length + 8 := by
  have := tk_fr h []
  rwa [List.append_nil] at this
theorem num32_take {b : List UInt8} {k : Nat} (h : 4 ≤ k) : num32 (b.take k) = num32 b := by
  obtain ⟨j, rfl⟩ : ∃ j, k = j + 4 := ⟨k - 4, by omega⟩
  match b with
  | [] => rfl
  | [_] => rfl
  | [_, _] => rfl
  | [_, _, _] => rfl
  | _ :: _ :: _ :: _ :: _ => rfl
theorem num32_fr (r s : List UInt8) : num32 (frB r ++ s) = BitVec.ofNat 32 r.length := by unfold frB; rw [List.append_assoc]; exact num32_w32 _ _
theorem num32_fr0 (r : List UInt8) : num32 (frB r) = BitVec.ofNat 32 r.length := num32_w32 _ _
theorem tk_frLong {r : List UInt8} (h : 60000 < r.length) (h2 : r.length < 4294967296) : tkE (frB r) = 4 := by
  refine tk_long (by rw [frB_len]; omega) ?_
  rw [num32_fr0, BitVec.toNat_ofNat]; omega
theorem tk_cut {r : List UInt8} (h : r.length ≤ 60000) {k : Nat} (hk : k < r.length + 8) (s : List UInt8) : tkE ((frB r ++ s).take k) = 2 := by
  have hl : ((frB r ++ s).take k).length = k := by rw [List.length_take, List.length_append, frB_len]; omega
  by_cases h8 : k < 8
  · exact tk_short (by omega)
  · have hn : (num32 ((frB r ++ s).take k)).toNat = r.length := by rw [num32_take (by omega), num32_fr, BitVec.toNat_ofNat]; omega
    exact tk_short2 (by omega) (by omega) (by omega)
theorem xor_ne {c x : UInt8} (hx : x ≠ 0) : c ^^^ x ≠ c := fun h => hx (by
  have h2 : c.toBitVec ^^^ x.toBitVec = c.toBitVec ^^^ (0 : UInt8).toBitVec := by
    have := congrArg UInt8.toBitVec h
    simpa using this
  exact UInt8.toBitVec_inj.1 (xor_left_cancel h2))
theorem num32_inj4 {a b : List UInt8} (ha : a.length = 4) (hb : b.length = 4) (s t : List UInt8) (h : num32 (a ++ s) = num32 (b ++ t)) : a = b := by
  match a, b, ha, hb with
  | [x, y, z, u], [x', y', z', u'], _, _ =>
    have h' : n4 x y z u = n4 x' y' z' u' := h
    have key : ∀ (x y z u : UInt8), (n4 x y z u).toNat = x.toNat * 16777216 + y.toNat * 65536 + z.toNat * 256 + u.toNat := by
      intro x y z u
      have hx := x.toNat_lt; have hy := y.toNat_lt; have hz := z.toNat_lt; have hu := u.toNat_lt
      unfold n4
      simp only [BitVec.toNat_or, BitVec.toNat_shiftLeft, BitVec.toNat_ofNat, Nat.shiftLeft_eq]
      rw [Nat.mod_eq_of_lt (show x.toNat < 2 ^ 32 by omega), Nat.mod_eq_of_lt (show y.toNat < 2 ^ 32 by omega), Nat.mod_eq_of_lt (show z.toNat < 2 ^ 32 by omega), Nat.mod_eq_of_lt (show u.toNat < 2 ^ 32 by omega),
        Nat.mod_eq_of_lt (show x.toNat * 2 ^ 24 < 2 ^ 32 by omega), Nat.mod_eq_of_lt (show y.toNat * 2 ^ 16 < 2 ^ 32 by omega), Nat.mod_eq_of_lt (show z.toNat * 2 ^ 8 < 2 ^ 32 by omega)]
      have o1 : x.toNat * 2 ^ 24 ||| y.toNat * 2 ^ 16 = x.toNat * 2 ^ 24 + y.toNat * 2 ^ 16 := by
        have := Nat.two_pow_add_eq_or_of_lt (show y.toNat * 2 ^ 16 < 2 ^ 24 by omega) x.toNat
        rw [Nat.mul_comm x.toNat]; exact this.symm
      have o2 : (x.toNat * 2 ^ 24 + y.toNat * 2 ^ 16) ||| z.toNat * 2 ^ 8 = (x.toNat * 2 ^ 24 + y.toNat * 2 ^ 16) + z.toNat * 2 ^ 8 := by
        have := Nat.two_pow_add_eq_or_of_lt (show z.toNat * 2 ^ 8 < 2 ^ 16 by omega) (x.toNat * 2 ^ 8 + y.toNat)
        rw [show x.toNat * 2 ^ 24 + y.toNat * 2 ^ 16 = 2 ^ 16 * (x.toNat * 2 ^ 8 + y.toNat) by omega]; exact this.symm
      have o3 : ((x.toNat * 2 ^ 24 + y.toNat * 2 ^ 16) + z.toNat * 2 ^ 8) ||| u.toNat = ((x.toNat * 2 ^ 24 + y.toNat * 2 ^ 16) + z.toNat * 2 ^ 8) + u.toNat := by
        have := Nat.two_pow_add_eq_or_of_lt (show u.toNat < 2 ^ 8 by omega) (x.toNat * 2 ^ 16 + y.toNat * 2 ^ 8 + z.toNat)
        rw [show (x.toNat * 2 ^ 24 + y.toNat * 2 ^ 16) + z.toNat * 2 ^ 8 = 2 ^ 8 * (x.toNat * 2 ^ 16 + y.toNat * 2 ^ 8 + z.toNat) by omega]; exact this.symm
      rw [o1, o2, o3]
    have hN := congrArg BitVec.toNat h'
    rw [key, key] at hN
    have b1 := x.toNat_lt; have b2 := y.toNat_lt; have b3 := z.toNat_lt; have b4 := u.toNat_lt
    have b5 := x'.toNat_lt; have b6 := y'.toNat_lt; have b7 := z'.toNat_lt; have b8 := u'.toNat_lt
    have e1 : x = x' := UInt8.toNat_inj.1 (by omega)
    have e2 : y = y' := UInt8.toNat_inj.1 (by omega)
    have e3 : z = z' := UInt8.toNat_inj.1 (by omega)
    have e4 : u = u' := UInt8.toNat_inj.1 (by omega)
    rw [e1, e2, e3, e4]
theorem set_ne {l : List UInt8} {k : Nat} {c d : UInt8} (h : l[k]? = some c) (hd : d ≠ c) : l.set k d ≠ l := fun e => hd (by
  have h2 : (l.set k d)[k]? = some d := by rw [List.getElem?_set_self (lt_of_get h)]
  rw [e, h] at h2
  exact (Option.some.inj h2).symm)
/-- One byte behind the length is another: the record is told. -/
theorem tk_tells {r : List UInt8} (h : r.length ≤ 60000) {k : Nat} {c x : UInt8} (hk : 4 ≤ k) (hc : (frB r)[k]? = some c) (hx : x ≠ 0) : tkE ((frB r).set k (c ^^^ x)) = 3 := by
  have hkl := lt_of_get hc
  rw [frB_len] at hkl
  have hl : ((frB r).set k (c ^^^ x)).length = r.length + 8 := by rw [List.length_set, frB_len]
  have hn : num32 ((frB r).set k (c ^^^ x)) = BitVec.ofNat 32 r.length := by rw [← num32_take (k := 4) (Nat.le_refl _), take_set_ge hk, num32_take (Nat.le_refl _), num32_fr0]
  have hN : (num32 ((frB r).set k (c ^^^ x))).toNat = r.length := by rw [hn, BitVec.toNat_ofNat]; omega
  refine tk_form (by omega) (by omega) (by omega) ?_
  rw [hN]
  have e4 : frB r = w32 (BitVec.ofNat 32 r.length) ++ (w32 (crcB r) ++ r) := rfl
  have hset : (frB r).set k (c ^^^ x) = w32 (BitVec.ofNat 32 r.length) ++ (w32 (crcB r) ++ r).set (k - 4) (c ^^^ x) := by
    rw [e4, List.set_append_right _ _ (by rw [w32_len]; omega), w32_len]
  have hg : (w32 (crcB r) ++ r)[k - 4]? = some c := by
    rw [e4, List.getElem?_append_right (by rw [w32_len]; omega), w32_len] at hc; exact hc
  have hd4 : ((frB r).set k (c ^^^ x)).drop 4 = (w32 (crcB r) ++ r).set (k - 4) (c ^^^ x) := by rw [hset]; rfl
  have hd8 : ((frB r).set k (c ^^^ x)).drop 8 = ((w32 (crcB r) ++ r).set (k - 4) (c ^^^ x)).drop 4 := by rw [← hd4, List.drop_drop]
  rw [hd8, hd4]
  by_cases h8 : k < 8
  · rw [List.set_append_left _ _ (by rw [w32_len]; omega), show ((w32 (crcB r)).set (k - 4) (c ^^^ x) ++ r).drop 4 = r from List.drop_left' (by rw [List.length_set]; rfl), List.take_of_length_le (Nat.le_refl _)]
    intro e
    have h4 : num32 (w32 (crcB r) ++ r) = num32 ((w32 (crcB r)).set (k - 4) (c ^^^ x) ++ r) := by rw [num32_w32]; exact e
    have := num32_inj4 (w32_len _) (by rw [List.length_set]; rfl) r r h4
    rw [List.getElem?_append_left (by rw [w32_len]; omega)] at hg
    exact set_ne hg (xor_ne hx) this.symm
  · rw [List.set_append_right _ _ (by rw [w32_len]; omega), w32_len, num32_w32, show (w32 (crcB r) ++ r.set (k - 4 - 4) (c ^^^ x)).drop 4 = r.set (k - 4 - 4) (c ^^^ x) from rfl, List.take_of_length_le (by rw [List.length_set]; omega)]
    rw [List.getElem?_append_right (by rw [w32_len]; omega), w32_len] at hg
    intro e
    have hne := set_ne hg (xor_ne hx (c := c))
    refine hne ((crc_tells (k := k - 4 - 4) (by rw [List.length_set]) ?_ ?_).1 e)
    · exact take_set_ge (Nat.le_refl _)
    · exact drop_set_lt (by omega)
theorem frs_len0 : ∀ {l : List (List UInt8)}, (frs l).length = 0 → l = []
  | [], _ => rfl
  | r :: l, h => by have e2 : (frs (r :: l)).length = r.length + 8 + (frs l).length := by simp [frs, frB_len]
                    omega
theorem frs_take {l : List (List UInt8)} {k : Nat} {r : List UInt8} (h : l[k]? = some r) : frs (l.take (k + 1)) = frs (l.take k) ++ frB r := by rw [take_succ_get h, frs_snoc]
theorem frs_split {l : List (List UInt8)} {k : Nat} {r : List UInt8} (h : l[k]? = some r) : frs l = frs (l.take k) ++ (frB r ++ frs (l.drop (k + 1))) := by
  rw [← List.append_assoc, ← frs_take h, ← frs_append, List.take_append_drop]
theorem allB_cut {l : List (List UInt8)} (hl : ∀ r ∈ l, r.length ≤ 60000) {k cut : Nat} {r : List UInt8} (h : l[k]? = some r) (h1 : (frs (l.take k)).length ≤ cut) (h2 : cut < (frs (l.take k)).length + (r.length + 8)) : allB ((frs l).take cut) = (l.take k, (frs (l.take k)).length, 0) := by
  have hr := hl r (List.mem_of_getElem? h)
  rw [frs_split h, List.take_append, List.take_of_length_le h1, allB_frs _ _ fun x hx => hl x (List.mem_of_mem_take hx), allB_no (by rw [tk_cut hr (by omega)]; decide), tk_cut hr (by omega)]
  simp
theorem take1 {w : World} {q : Option Addr} {b : List UInt8} {m : Nat} (h : SlAt w q b.length 1 (bvs b)) (hm : m ≤ b.length) : SlAt w q (b.take m).length 1 (bvs (b.take m)) := by
  have h2 := h.take hm
  rw [bvs_take, List.length_take, Nat.min_eq_left hm]; exact h2
theorem tk_cut0 {r : List UInt8} (h : r.length ≤ 60000) {k : Nat} (hk : k < r.length + 8) : tkE ((frB r).take k) = 2 := by
  have := tk_cut h hk []
  rwa [List.append_nil] at this
/-! ### The laws' rows -/
structure SmOk (L M : List (Sli UInt8)) : Prop where
  len : M.length ≤ 20
  row : ∀ x ∈ M, x.2.2.length ≤ 500
  sub : ∀ x ∈ M, x ∈ L
theorem SmOk.of {L M : List (Sli UInt8)} (h : M = smallL L) : SmOk L M := by
  subst h
  exact ⟨smallL_len L, fun x hx => (smallL_mem hx).2, fun x hx => (smallL_mem hx).1⟩
theorem SmOk.row5 {L M : List (Sli UInt8)} (h : SmOk L M) : ∀ r ∈ byts M, r.length ≤ 500 := fun r hr => by
  obtain ⟨x, hx, rfl⟩ := List.mem_map.1 hr
  exact h.row x hx
theorem SmOk.big {L M : List (Sli UInt8)} (h : SmOk L M) : ∀ r ∈ byts M, r.length ≤ 60000 := fun r hr => by have := h.row5 r hr; omega
theorem SmOk.fr {L M : List (Sli UInt8)} (h : SmOk L M) (k : Nat) : (frs ((byts M).take k)).length ≤ 10160 := by
  have h1 := frs_len_le ((byts M).take k) 500 fun r hr => h.row5 r (List.mem_of_mem_take hr)
  have h2 : ((byts M).take k).length ≤ 20 := by rw [List.length_take, byts_len]; have := h.len; omega
  have := Nat.mul_le_mul_right 508 h2
  omega
theorem SmOk.all {L M : List (Sli UInt8)} (h : SmOk L M) : (frs (byts M)).length ≤ 10160 := by
  have := h.fr M.length
  rwa [List.take_of_length_le (by rw [byts_len]; exact Nat.le_refl _)] at this
theorem byts_all (M : List (Sli UInt8)) : (byts M).take M.length = byts M := List.take_of_length_le (by rw [byts_len]; exact Nat.le_refl _)
theorem byts_takeM (M : List (Sli UInt8)) (k : Nat) : byts (M.take k) = (byts M).take k := by simp [byts, List.map_take]
theorem byts_0 {M : List (Sli UInt8)} (h : (frs (byts M)).length = 0) : M.length = 0 := by rw [← byts_len, frs_len0 h]; rfl
def ends (M : List (Sli UInt8)) (n : Nat) : List Int := (List.range n).map fun i => (((frs ((byts M).take (i + 1))).length : Nat) : Int)
theorem ends_get {M : List (Sli UInt8)} {n k : Nat} (h : k < n) : (ends M n)[k]? = some (((frs ((byts M).take (k + 1))).length : Nat) : Int) := by simp [ends, h]
theorem ends_succ (M : List (Sli UInt8)) (n : Nat) : i64s (ends M (n + 1)) = i64s (ends M n) ++ [.int .i64 (((frs ((byts M).take (n + 1))).length : Nat) : Int)] := by simp [ends, List.range_succ, i64s]
theorem takeM {w : World} {q : Option Addr} {M : List (Sli UInt8)} {m : Nat} (h : SlAt w q M.length 1 (M.map sval)) (hm : m ≤ M.length) : SlAt w q (M.take m).length 1 ((M.take m).map sval) := by
  have h2 := h.take hm
  rw [Nat.mul_one] at h2
  rw [List.length_take, Nat.min_eq_left hm, List.map_take]; exact h2
theorem steps_ok {b : List UInt8} {l : List (List UInt8)} {i at' : Nat} {x : List UInt8} (hl : l = (allB b).1) (h : allB b = (l.take i ++ (allB (b.drop at')).1, at' + (allB (b.drop at')).2.1, (allB (b.drop at')).2.2)) (hx : l[i]? = some x) : tkE (b.drop at') = 0 ∧ tkR (b.drop at') = x := by
  have h1 : l = l.take i ++ (allB (b.drop at')).1 := by conv => lhs; rw [hl, h]
  have hi := lt_of_get hx
  by_cases he : tkE (b.drop at') = 0
  · refine ⟨he, ?_⟩
    rw [allB_ok he] at h1
    rw [h1, List.getElem?_append_right (by rw [List.length_take]; omega), List.length_take, show i - min i l.length = 0 by omega] at hx
    simpa using hx
  · rw [allB_no he, List.append_nil] at h1
    have := congrArg List.length h1
    rw [List.length_take] at this
    omega
theorem steps_next {b : List UInt8} {l : List (List UInt8)} {i at' : Nat} {x : List UInt8} (h : allB b = (l.take i ++ (allB (b.drop at')).1, at' + (allB (b.drop at')).2.1, (allB (b.drop at')).2.2)) (hx : l[i]? = some x) (h0 : tkE (b.drop at') = 0) (h1 : tkR (b.drop at') = x) : allB b = (l.take (i + 1) ++ (allB (b.drop (at' + tkN (b.drop at')))).1, (at' + tkN (b.drop at')) + (allB (b.drop (at' + tkN (b.drop at')))).2.1, (allB (b.drop (at' + tkN (b.drop at')))).2.2) := by
  rw [take_succ_get hx, ← h1]; exact allB_next h h0
theorem steps_end {b : List UInt8} {l : List (List UInt8)} {at' : Nat} (hl : l = (allB b).1) (h : allB b = (l ++ (allB (b.drop at')).1, at' + (allB (b.drop at')).2.1, (allB (b.drop at')).2.2)) : tkE (b.drop at') ≠ 0 ∧ (allB b).2.1 = at' := by
  have h1 : l = l ++ (allB (b.drop at')).1 := by conv => lhs; rw [hl, h]
  have h2 : (allB (b.drop at')).1 = [] := by
    have := congrArg List.length h1
    rw [List.length_append] at this
    exact List.eq_nil_of_length_eq_zero (by omega)
  have he : tkE (b.drop at') ≠ 0 := fun e => by rw [allB_ok e] at h2; cases h2
  refine ⟨he, ?_⟩
  rw [h, allB_no he]; rfl
theorem byts_append (L M : List (Sli UInt8)) : byts (L ++ M) = byts L ++ byts M := by simp [byts]
theorem allB_two {L M A B : List (Sli UInt8)} (h1 : SmOk L A) (h2 : SmOk M B) : allB (frs (byts A) ++ frs (byts B)) = (byts A ++ byts B, (frs (byts A)).length + (frs (byts B)).length, 0) := by
  rw [allB_frs _ _ h1.big, allB_frs0 _ h2.big]
theorem allF_len : ∀ (f : Nat) (b : List UInt8), (allF f b).1.length * 8 ≤ b.length
  | 0, b => by simp [allF]
  | f + 1, b => by
    unfold allF
    by_cases h : tkE b = 0
    · have hb := tk_bound h
      have ih := allF_len f (b.drop (tkN b))
      rw [List.length_drop] at ih
      rw [if_pos h]
      simp only [List.length_cons]
      omega
    · rw [if_neg h]; simp
theorem allB_len {b : List UInt8} {L : List (Sli UInt8)} (h : byts L = (allB b).1) : L.length * 8 ≤ b.length := by rw [← byts_len, h]; exact allF_len _ _
theorem BB.app {w : World} {q : Option Addr} {n : Nat} {A B : List (Sli UInt8)} (h : SlAt w q n 1 ((A ++ B).map sval)) (hn : n = (A ++ B).length) (ha : ∀ x ∈ A, SlAt w x.1 x.2.2.length 1 (bvs x.2.2)) (hb : ∀ x ∈ B, SlAt w x.1 x.2.2.length 1 (bvs x.2.2)) : BB w q (A ++ B) := ⟨hn ▸ h, fun x hx => (List.mem_append.1 hx).elim (ha x) (hb x)⟩
end Go.Sl
