/-
  Views of rows that are only read; a built row as an own row; numbers of 64 bits without a sign.
  Conditions: none; it speaks of every program of the model.
-/
import Derived.Test.YtcflbdpjoanbgaaGreatSl8
namespace Go.Sl
open Go
set_option linter.unusedSimpArgs false
set_option linter.unusedVariables false

/-! ### Views -/
/-- This piece of memory lets a slice be read as ys. -/
def Vw (q : Option Addr) (n sz : Nat) (ys : List Value) : HP := fun m => ∀ w : World, (∀ b o, m b = some o → w.heap[b]? = some o) → SlAt w q n sz ys
theorem Sat.vw {W w : World} {l l' : List HP} {q : Option Addr} {n sz : Nat} {ys : List Value} (h : Sat W l w) (s : Sel (Vw q n sz ys) l l') : SlAt w q n sz ys := by
  obtain ⟨_, _, hv, _, _, hs, _⟩ := (h.sel s).has
  exact hv w hs
theorem Sat.vwImp {W w : World} {l : List HP} {q q' : Option Addr} {n sz n' sz' : Nat} {ys ys' : List Value} (h : Sat W (Vw q n sz ys :: l) w) (f : ∀ w, SlAt w q n sz ys → SlAt w q' n' sz' ys') : Sat W (Vw q' n' sz' ys' :: l) w :=
  h.head fun _ hv w hw => f w (hv w hw)
theorem Sat.vwNil {W w : World} {l : List HP} (h : Sat W l w) (q : Option Addr) (sz : Nat) : Sat W (Vw q 0 sz [] :: l) w :=
  h.imp fun _ hh => ⟨fun _ => none, _, fun w _ => SlAt.nil w q sz, hh, fun _ => .inl rfl, fun _ _ e => by simp at e, fun _ _ e => e⟩
theorem Sat.vwOfRw {W w : World} {l : List HP} {T sz len cap : Nat} {p : Option Addr} {xs : List Value} (h : Sat W (Rw T sz p len cap xs :: l) w) : Sat W (Vw p len sz xs :: l) w :=
  h.head fun m ⟨h1, h2, h3, h4⟩ w hw => by
    refine ⟨h1, fun hn => ?_⟩
    rcases h4 with ⟨_, h5⟩ | ⟨b, spare, hp, hb, hsp⟩
    · omega
    · refine ⟨_, hp, fun j u hu => ?_⟩
      have hb' := hw _ _ hb
      rw [addr_add]
      have hlt : j < xs.length := (List.getElem?_eq_some_iff.1 hu).1
      simp [World.cell?, hb', hu, List.getElem?_append_left hlt]
theorem Sat.vwOfBlk {W w : World} {l : List HP} {b n sz : Nat} {cs : List Value} {T : TypeId} (h : Sat W (Blk b cs T :: l) w) (hl : cs.length = n * sz) : Sat W (Vw (some ⟨b, 0, none⟩) n sz cs :: l) w :=
  h.head fun m ⟨fr, h1, _⟩ w hw => ⟨hl, fun _ => ⟨_, rfl, fun j u hu => by rw [addr_add]; simp [World.cell?, hw _ _ h1, hu]⟩⟩
theorem Sat.vwCast {W w : World} {l : List HP} {q : Option Addr} {n sz n' : Nat} {ys ys' : List Value} (h : Sat W (Vw q n sz ys :: l) w) (hn : n = n') (hy : ys = ys') : Sat W (Vw q n' sz ys' :: l) w := by subst hn; subst hy; exact h

theorem SlAt.len0 {w : World} {q : Option Addr} {n sz : Nat} {ys : List Value} (h : SlAt w q n sz ys) (hq : q.isNone = true) : n = 0 := by
  rcases Nat.eq_zero_or_pos n with h0 | h0
  · exact h0
  · obtain ⟨a, rfl, _⟩ := h.2 (by omega); cases hq
theorem SlAt.take {w : World} {q : Option Addr} {n sz k : Nat} {ys : List Value} (h : SlAt w q n sz ys) (hk : k ≤ n) : SlAt w q k sz (ys.take (k * sz)) := by
  have h1 := h.1
  have hle : k * sz ≤ n * sz := Nat.mul_le_mul_right _ hk
  refine ⟨by rw [List.length_take]; omega, fun hk0 => ?_⟩
  obtain ⟨a, ha, h2⟩ := h.2 (by omega)
  refine ⟨a, ha, fun j u hu => h2 j u ?_⟩
  rw [List.getElem?_take] at hu
  split at hu
  · exact hu
  · cases hu
theorem add_add (a : Addr) (i j : Nat) : (a.add i).add j = a.add (i + j) := by
  unfold Addr.add
  by_cases hi : i = 0
  · subst hi; simp
  · by_cases hj : j = 0
    · subst hj; simp [hi]
    · simp only [hi, hj, if_false, show i + j ≠ 0 from by omega]
      cases a with | mk b c s => cases s <;> simp <;> omega
/-- What lies behind the first k. -/
theorem SlAt.drop {w : World} {q : Option Addr} {n sz k c : Nat} {ys : List Value} (h : SlAt w q n sz ys) (hk : k ≤ n) (hc : n ≤ c) : SlAt w (if c = k then q else q.map (·.add (k * sz))) (n - k) sz (ys.drop (k * sz)) := by
  have h1 := h.1
  refine ⟨by rw [List.length_drop, h1, ← Nat.sub_mul], fun hn => ?_⟩
  obtain ⟨a, ha, h2⟩ := h.2 (by omega)
  subst ha
  rw [if_neg (by omega)]
  refine ⟨_, rfl, fun j u hu => ?_⟩
  rw [List.getElem?_drop] at hu
  rw [add_add]
  exact h2 _ _ hu
/-- An own row cut shorter: what was behind is room. -/
theorem Sat.rwTake {W w : World} {l : List HP} {T sz len cap : Nat} {p : Option Addr} {xs : List Value} (h : Sat W (Rw T sz p len cap xs :: l) w) {k : Nat} (hk : k ≤ len) : Sat W (Rw T sz p k cap (xs.take (k * sz)) :: l) w :=
  h.head fun m ⟨h1, h2, h3, h4⟩ => by
    have hle : k * sz ≤ len * sz := Nat.mul_le_mul_right _ hk
    refine ⟨by rw [List.length_take]; omega, by omega, h3, ?_⟩
    rcases h4 with ⟨hp, hc⟩ | ⟨b, spare, hp, hb, hsp⟩
    · exact .inl ⟨hp, hc⟩
    · refine .inr ⟨b, xs.drop (k * sz) ++ spare, hp, ?_, ?_⟩
      · rw [← List.append_assoc, List.take_append_drop]; exact hb
      · rw [List.length_append, List.length_drop, hsp, h1, Nat.sub_mul, Nat.sub_mul]
        have : len * sz ≤ cap * sz := Nat.mul_le_mul_right _ h2
        omega
theorem bvs_take (bs : List UInt8) (k : Nat) : bvs (bs.take k) = (bvs bs).take (k * 1) := by simp [bvs, List.map_take]
theorem bvs_drop (bs : List UInt8) (k : Nat) : bvs (bs.drop k) = (bvs bs).drop (k * 1) := by simp [bvs, List.map_drop]

section
variable {P : Program} {ops : Array Oper} {Q : Exit → Act → World → Prop} {K : Act → World → Prop} {a : Act} {w : World} {n : Nat} {L : List (Nat × Value)} {o : Oper} {W : World} {l l' : List HP} {S : World → Prop}

theorem st_buildRw {t e : TypeId} {len d sz : Nat} {parts : List (Nat × Operand)} {ps : List (Nat × Value)} {z : Value} {zs cs : List Value} {pl : List (Nat × Nat)} (hf : Fits n a L) (hn : Wn ops a o true) (hS : Sat W l w) (ho : o.op = .buildSlice t len parts.toArray) (hp : pevs L parts = some ps) (ht : P.underlying t = some (.slice e)) (hsz : (P.info? e).map (·.size) = some sz)
    (hz : (P.info? e).bind (·.zero) = some z) (h24 : len * sz ≤ 16777216) (hm : len ≤ maxLen) (hzs : ((Array.range (len * sz)).map (fun j => z.cells[j % z.cells.size]!)) = zs.toArray) (hpl : pl = (List.range len).map fun j => (j * sz, sz)) (hfill : Fill pl zs ps cs) (hcl : cs.length = len * sz) (hd : o.dst = some d) (hlt : Nat.blt d n = true)
    (k : ∀ b a' w', Fits n a' ((d, .slice (some ⟨b, 0, none⟩) len len) :: L) → Sat W (Rw e sz (some ⟨b, 0, none⟩) len len cs :: l) w' → K a' w') : opWp P ops Q o K a w := by
  obtain ⟨i, hi, hz'⟩ := Option.bind_eq_some_iff.1 hz
  obtain ⟨i2, hi2, hsz'⟩ := Option.map_eq_some_iff.1 hsz
  rw [hi] at hi2; cases hi2
  have e1 : (parts.toArray.map fun (i, x) => (i, a.eval x)) = ps.toArray := by
    rw [← hf.pevs hp]; simp
  have hf2 := hfill.out (fun i => some (i * sz, sz)) (fun j x h => by
    rw [hpl] at h
    simp only [List.getElem?_map, Option.map_eq_some_iff] at h
    obtain ⟨y, hy, rfl⟩ := h
    have := List.getElem?_eq_some_iff.1 hy
    obtain ⟨_, rfl⟩ := this
    simp)
  refine st_eff (w' := w.alloc (.cells cs.toArray e)) hf hn ?_ hd hlt fun a' hf' => k _ _ _ hf' (hS.rwNew rfl hcl (Nat.le_refl _) hm [] (by simp) (by simp))
  have h24' : ¬ (16777216 < len * sz) := by omega
  by_cases h0 : len * sz = 0
  · have hzn : zs = [] := by
      have h1 := congrArg Array.size hzs
      simp [h0] at h1
      exact List.eq_nil_of_length_eq_zero h1.symm
    subst hzn
    have h00 : Array.range 0 = #[] := by simp
    simp only [execOp, ho, e1, Instr.buildSlice, Sem.run_bind, run_underlying ht, Result.andThen_ok, sizeOf, typeInfo, run_program, hi, Sem.run_pure, hsz', h0, if_true]
    simp [h00, hf2, newRow, newObj, Sem.run]
  · simp only [execOp, ho, e1, Instr.buildSlice, Sem.run_bind, run_underlying ht, Result.andThen_ok, sizeOf, typeInfo, run_program, hi, Sem.run_pure, hsz', h0, if_false]
    simp [h24', zeroValue, typeInfo, hi, hz', hzs, hf2, newRow, newObj, Sem.run]

end

theorem Sub.behind {Y R : List HP} : Sub R (Y ++ R) := by
  induction Y with
  | nil => exact .refl
  | cons p Y ih => exact .skip ih

theorem drop_at {α : Type} {s : List α} {i : Nat} {c : α} (h : s[i]? = some c) : s.drop i = c :: s.drop (i + 1) := by
  obtain ⟨h1, h2⟩ := List.getElem?_eq_some_iff.1 h
  rw [List.drop_eq_getElem_cons h1, h2]
/-! ### Numbers of 64 bits -/
theorem ofInt64 (n : Nat) : BitVec.ofInt 64 (n : Int) = BitVec.ofNat 64 n := by
  apply BitVec.eq_of_toNat_eq
  simp
theorem wrap64 {n : Nat} (h : n < 18446744073709551616) : IntKind.u64.wrap (n : Int) = n := Go.IntWalk.u64_in _ (by omega)
theorem n64_shr {n : Nat} {q : Int} (k : Nat) (hq : q = k) (hk : k ≤ 64) : (n : Int).fdiv (2 ^ (min q.toNat IntKind.u64.bits)) = ((n / 2 ^ k : Nat) : Int) := by
  rw [hq, show min ((k : Int)).toNat IntKind.u64.bits = k from by simp [IntKind.bits]; omega]
  rw [Int.fdiv_eq_ediv_of_nonneg _ (by exact Int.pow_nonneg (by omega))]
  push_cast
  rfl
theorem n64_or {p q : Nat} (hp : p < 18446744073709551616) (hq : q < 18446744073709551616) : IntKind.u64.wrap ((BitVec.ofInt IntKind.u64.bits (p : Int) ||| BitVec.ofInt IntKind.u64.bits (q : Int)).toNat : Nat) = ((p ||| q : Nat) : Int) := by
  show IntKind.u64.wrap ((BitVec.ofInt 64 (p : Int) ||| BitVec.ofInt 64 (q : Int)).toNat : Nat) = ((p ||| q : Nat) : Int)
  rw [ofInt64, ofInt64, BitVec.toNat_or, BitVec.toNat_ofNat, BitVec.toNat_ofNat, Nat.mod_eq_of_lt hp, Nat.mod_eq_of_lt hq]
  exact wrap64 (Nat.or_lt_two_pow (n := 64) hp hq)
theorem n64_and {p q : Nat} (hp : p < 18446744073709551616) (hq : q < 18446744073709551616) : IntKind.u64.wrap ((BitVec.ofInt IntKind.u64.bits (p : Int) &&& BitVec.ofInt IntKind.u64.bits (q : Int)).toNat : Nat) = ((p &&& q : Nat) : Int) := by
  show IntKind.u64.wrap ((BitVec.ofInt 64 (p : Int) &&& BitVec.ofInt 64 (q : Int)).toNat : Nat) = ((p &&& q : Nat) : Int)
  rw [ofInt64, ofInt64, BitVec.toNat_and, BitVec.toNat_ofNat, BitVec.toNat_ofNat, Nat.mod_eq_of_lt hp, Nat.mod_eq_of_lt hq]
  exact wrap64 (Nat.and_lt_two_pow (n := 64) p hq)
theorem n64_shl {p : Nat} {q : Int} (k : Nat) (hq : q = k) (hk : k ≤ 64) (h : p * 2 ^ k < 18446744073709551616) : IntKind.u64.wrap ((p : Int) * 2 ^ (min q.toNat IntKind.u64.bits)) = ((p * 2 ^ k : Nat) : Int) := by
  rw [hq, show min ((k : Int)).toNat IntKind.u64.bits = k from by simp [IntKind.bits]; omega]
  rw [show (p : Int) * 2 ^ k = ((p * 2 ^ k : Nat) : Int) from by push_cast; rfl]
  exact wrap64 h
theorem or_add {p q k : Nat} (h : p < 2 ^ k) : p ||| (q * 2 ^ k) = p + q * 2 ^ k := by
  rw [Nat.mul_comm, Nat.or_comm, ← Nat.two_pow_add_eq_or_of_lt h, Nat.add_comm]
/-- A number's low bits as a byte. -/
theorem n8_of64 (n : Nat) : IntKind.u8.wrap (n : Int) = ((UInt8.ofNat n).toNat : Nat) := n8_wrap n
theorem or128 (n : Nat) : IntKind.u8.wrap ((BitVec.ofInt IntKind.u8.bits ((UInt8.ofNat n).toNat : Nat) ||| BitVec.ofInt IntKind.u8.bits 128).toNat : Nat) = ((UInt8.ofNat (n % 128 + 128)).toNat : Nat) := by
  refine (n8_or (UInt8.ofNat n) 128 (q := 128) rfl).trans ?_
  congr 1
  rw [UInt8.toNat_or]
  simp only [UInt8.toNat_ofNat']
  have h1 : n % 256 ||| 128 = n % 128 + 128 := by
    have h2 : n % 256 < 256 := Nat.mod_lt _ (by omega)
    have h3 : n % 128 = (n % 256) % 128 := by omega
    rw [h3]
    have key : ∀ m : Nat, m < 256 → m ||| 128 = m % 128 + 128 := by decide +kernel
    exact key _ h2
  have : (n % 128 + 128) % 2 ^ 8 = n % 128 + 128 := by omega
  rw [this, ← h1]
  rfl

end Go.Sl
