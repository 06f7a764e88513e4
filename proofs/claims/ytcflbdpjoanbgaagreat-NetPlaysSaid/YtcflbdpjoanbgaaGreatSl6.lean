/-
  Texts turned into bytes, parts of texts, an array's slice, places counted by natural numbers.
  Conditions: none; it speaks of every program of the model.
-/
import Derived.Test.YtcflbdpjoanbgaaGreatSl5
import Derived.Lib.Strings
namespace Go.Sl
open Go
set_option linter.unusedSimpArgs false
set_option linter.unusedVariables false
set_option linter.unnecessarySimpa false

theorem Sat.slOfBlkPre {W w : World} {l l' : List HP} {b n sz : Nat} {ys zs : List Value} {T : TypeId} (h : Sat W l w) (s : Sel (Blk b (ys ++ zs) T) l l') (hl : ys.length = n * sz) : SlAt w (some ⟨b, 0, none⟩) n sz ys :=
  ⟨hl, fun _ => ⟨_, rfl, fun j u hu => h.cellAdd s (by
    rw [Nat.zero_add, List.getElem?_append_left (List.getElem?_eq_some_iff.1 hu).1]; exact hu)⟩⟩

theorem bvs_get {bs : List UInt8} {k : Nat} {c : UInt8} (h : bs[k]? = some c) : (bvs bs)[k]? = some (bv c) := by simp [bvs, h]
theorem bvs_len (bs : List UInt8) : (bvs bs).length = bs.length := by simp
theorem bvs_len1 (bs : List UInt8) : (bvs bs).length = bs.length * 1 := by simp
theorem bvs_append (a b : List UInt8) : bvs (a ++ b) = bvs a ++ bvs b := by simp [bvs]
theorem get_of_lt {α : Type} {l : List α} {k n : Nat} (h : k < n) (hn : n = l.length) : ∃ c, l[k]? = some c := ⟨l[k]'(hn ▸ h), by simp⟩
theorem lt_of_get {α : Type} {l : List α} {k : Nat} {c : α} (h : l[k]? = some c) : k < l.length := (List.getElem?_eq_some_iff.1 h).1
theorem take_succ_get {α : Type} {l : List α} {k : Nat} {c : α} (h : l[k]? = some c) : l.take (k + 1) = l.take k ++ [c] := by
  obtain ⟨h1, h2⟩ := List.getElem?_eq_some_iff.1 h
  rw [List.take_succ_eq_append_getElem h1, h2]
theorem Sat.rwCast {W w : World} {l : List HP} {T sz len cap len' : Nat} {p : Option Addr} {xs xs' : List Value} (h : Sat W (Rw T sz p len cap xs :: l) w) (hx : xs = xs') (hl : len = len') : Sat W (Rw T sz p len' cap xs' :: l) w := by subst hx; subst hl; exact h

section
variable {P : Program} {ops : Array Oper} {Q : Exit → Act → World → Prop} {K : Act → World → Prop} {a : Act} {w : World} {n : Nat} {L : List (Nat × Value)} {o : Oper} {W : World} {l l' : List HP} {S : World → Prop}

theorem rd_indexAddrN {t e : TypeId} {x y : Operand} {ad : Addr} {k c sz i : Nat} {kd : IntKind} (hf : Fits n a L) (ho : o.op = .indexAddr t x y) (hx : ev L x = some (.slice (some ad) k c)) (hy : ev L y = some (.int kd (i : Int))) (ht : P.underlying t = some (.slice e)) (hz : (P.info? e).map (·.size) = some sz)
    (h1 : (i : Int) < k) : Rd P a o S (.pointer (some (ad.add (i * sz)))) := rd_indexAddr hf ho hx hy ht hz (Int.natCast_nonneg i) h1
theorem rd_indexAddrN1 {t e : TypeId} {x y : Operand} {ad : Addr} {k c i : Nat} {kd : IntKind} (hf : Fits n a L) (ho : o.op = .indexAddr t x y) (hx : ev L x = some (.slice (some ad) k c)) (hy : ev L y = some (.int kd (i : Int))) (ht : P.underlying t = some (.slice e)) (hz : (P.info? e).map (·.size) = some 1)
    (h1 : (i : Int) < k) : Rd P a o S (.pointer (some (ad.add i))) := by
  have h := rd_indexAddrN (S := S) hf ho hx hy ht hz h1
  rwa [Nat.mul_one] at h

theorem rd_sliceArr {t e : TypeId} {x : Operand} {ad : Addr} {k : Nat} {i : TypeInfo} (hf : Fits n a L) (ho : o.op = .slice t x none none none) (hx : ev L x = some (.pointer (some ad))) (ht : P.underlying t = some (.array k e)) (hz : P.info? e = some i) : Rd P a o S (.slice (some ad) k k) := fun w _ => by
  simp [execOp, ho, hf.ev hx, Instr.sliceAt, Instr.sureAddr, Instr.sliceBounds, run_underlying ht, sizeOf, typeInfo, hz, Addr.add]
theorem rd_sliceArr' {t e : TypeId} {x : Operand} {ad : Addr} {k sz : Nat} (hf : Fits n a L) (ho : o.op = .slice t x none none none) (hx : ev L x = some (.pointer (some ad))) (ht : P.underlying t = some (.array k e)) (hz : (P.info? e).map (·.size) = some sz) : Rd P a o S (.slice (some ad) k k) := by
  obtain ⟨i, hi, _⟩ := Option.map_eq_some_iff.1 hz
  exact rd_sliceArr hf ho hx ht hi

theorem str_append (p q : List UInt8) : str p ++ str q = str (p ++ q) := by
  apply ByteArray.ext
  simp [str]
theorem rd_concat {t t' : TypeId} {x y : Operand} {p q : List UInt8} (hf : Fits n a L) (ho : o.op = .binOp .add t x y t') (hx : ev L x = some (.string (str p))) (hy : ev L y = some (.string (str q))) (hb : p.length + q.length ≤ 9223372036854775807) : Rd P a o S (.string (str (p ++ q))) :=
  fun w hS => by
    have e : (eqGuard .add t x y (.string (str p)) (.string (str q))).run P w = .ok () w := eqGuard_plain (by simp) (by simp) w
    have h : ¬ ((((str p).size + (str q).size : Nat) : Int) > IntKind.i64.max) := by
      simp [ByteArray.size, IntKind.max, IntKind.signed, IntKind.bits]
      omega
    have h2 : (binOp .add t (.string (str p)) (.string (str q))).run P w = .ok (.string (str (p ++ q))) w := by
      simp only [binOp, Op.stringOp]
      rw [if_neg h, str_append]
      rfl
    simp [execOp, ho, hf.ev hx, hf.ev hy, e, h2]

theorem rd_sliceS {t : TypeId} {x lo hi : Operand} {p : List UInt8} {k1 k2 : IntKind} {i j : Int} (hf : Fits n a L) (ho : o.op = .slice t x (some lo) (some hi) none) (hx : ev L x = some (.string (str p))) (hl : ev L lo = some (.int k1 i)) (hh : ev L hi = some (.int k2 j)) (ht : P.underlying t = some .string)
    (h0 : 0 ≤ i) (h1 : i ≤ j) (h2 : j ≤ p.length) : Rd P a o S (.string (str ((p.drop i.toNat).take (j.toNat - i.toNat)))) := fun w _ => by
  have e1 : (str p).size = p.length := by simp [ByteArray.size]
  have e2 : 0 ≤ j := by omega
  have e3 : (str p).extract i.toNat j.toNat = str ((p.drop i.toNat).take (j.toNat - i.toNat)) := by
    apply ByteArray.ext
    apply Array.toList_inj.1
    rw [Lib.extract_data]
  simp only [execOp, ho, hf.ev hx, hf.ev hl, hf.ev hh, Instr.sliceAt, Instr.slice, Instr.sliceBounds, Instr.sliceBound, asIntOf, Option.map_some, Option.map_none, Sem.run_bind, run_underlying ht, Result.andThen_ok, e1]
  simp [h0, h1, h2, e2, e3, show i ≤ (j.toNat : Int) from by omega]
  omega

/-- A text as bytes, in a new block, with room behind it. -/
theorem st_bytes {s d e : TypeId} {x : Operand} {dd : Nat} {bs : List UInt8} {sd : TypeDesc} (hf : Fits n a L) (hn : Wn ops a o true) (hS : Sat W l w) (ho : o.op = .convert s d x) (hx : ev L x = some (.string (str bs))) (hs : P.underlying s = some sd) (hdd : P.underlying d = some (.slice e)) (he : P.underlying e = some (.int .u8)) (hd : o.dst = some dd) (hlt : Nat.blt dd n = true)
    (k : ∀ b cap zs a' w', Fits n a' ((dd, .slice (some ⟨b, 0, none⟩) bs.length cap) :: L) → cap = bs.length + zs.length → Sat W (Blk b (bvs bs ++ zs) e :: l) w' → K a' w') : opWp P ops Q o K a w := by
  have e1 : (str bs).size = bs.length := by simp [ByteArray.size]
  obtain ⟨cap, hcap⟩ : ∃ cap, cap = (Question.appendCap bs.length 0 e).cut (w.tape w.drawn (.appendCap bs.length 0 e)) := ⟨_, rfl⟩
  have hle : bs.length ≤ cap := by rw [hcap]; simp [Question.cut]
  have e2 : ((str bs).data.map fun b => Value.int .u8 b.toNat) = (bvs bs).toArray := by simp [str]
  have e3 : (bvs bs).toArray ++ Array.replicate (cap - bs.length) (Value.int .u8 0) = (bvs bs ++ List.replicate (cap - bs.length) (Value.int .u8 0)).toArray := by simp
  have hlen : (bvs bs ++ List.replicate (cap - bs.length) (Value.int .u8 0)).length = cap := by simp; omega
  generalize hcs : (bvs bs ++ List.replicate (cap - bs.length) (Value.int .u8 0)) = cs at e3 hlen
  have hal : Sat W (Blk w.heap.size cs e :: l) ((w.drew.alloc (.cells cs.toArray e)).freeze ⟨w.heap.size, cs.length, none⟩ 1) := by
    have h1 : Sat W (Blk w.heap.size cs e :: l) (w.drew.alloc (.cells cs.toArray e)) := hS.drew.blkNew _ _ rfl _
    refine h1.write (by simp [World.freeze]) (by simp [World.freeze]) (by simp [World.freeze]) ?_
    rintro m ⟨fr, hm1, hm2⟩ hm
    have hw := hm _ _ hm1
    have hnew : (w.drew.alloc (.cells cs.toArray e)).heap[w.heap.size]? = some (.cells cs.toArray e (0, 0)) := heap_alloc_new w.drew _
    refine ⟨fun x => if x = w.heap.size then some (.cells cs.toArray e (cs.length, cs.length + 1)) else none, ⟨(cs.length, cs.length + 1), by simp, fun i hi h => by simp at h; omega⟩, ?_, ?_, ?_⟩
    · intro b o hb
      by_cases eb : b = w.heap.size
      · subst eb
        simp at hb
        subst hb
        simp only [World.freeze]
        rw [if_neg (by decide), Array.getElem?_modify, if_pos rfl, hnew]
        simp
      · simp [eb] at hb
    · intro b hb
      by_cases eb : b = w.heap.size
      · subst eb; rw [hm1] at hb; cases hb
      · left; simp [World.freeze, Array.getElem?_modify, Ne.symm eb]
    · intro b hb
      by_cases eb : b = w.heap.size
      · subst eb; rw [hm1] at hb; cases hb
      · left; simp [eb]
  refine st_eff (w' := (w.drew.alloc (.cells cs.toArray e)).freeze ⟨w.heap.size, cs.length, none⟩ 1) (v := .slice (some ⟨w.heap.size, 0, none⟩) bs.length cap) hf hn ?_ hd hlt fun a' hf' => k _ cap (List.replicate (cap - bs.length) (.int .u8 0)) a' _ hf' (by simp; omega) (by rw [hcs]; exact hal)
  have hsh : (w.drew.alloc (.cells cs.toArray e)).shape? w.heap.size = some (e, cs.length) := by
    unfold World.shape?
    rw [show (w.drew.alloc (.cells cs.toArray e)).heap[w.heap.size]? = some (.cells cs.toArray e (0, 0)) from heap_alloc_new w.drew _]
    simp
  simp only [execOp, ho, hf.ev hx, convert, Sem.run_bind, run_underlying hs, run_underlying hdd, Result.andThen_ok]
  cases sd <;> simp [run_underlying he, Conv.stringToBytes, e1, Question.forced, ← hcap, e2, e3, newRow, markStringish, hsh, shape, freeze, Sem.run, World.alloc_eq]

end
end Go.Sl
