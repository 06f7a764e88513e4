/-
  Loops whose rounds leave some slots alone: the slots that a round writes are named, all others stay as they were.
  Conditions: none; it speaks of every program of the model.
-/
import Derived.Test.YtcflbdpjoanbgaaGreatSl9
namespace Go.Sl
open Go
set_option linter.unusedSimpArgs false
set_option linter.unusedVariables false

/-- Is k in one of the ranges? -/
def inR (ms : List (Nat × Nat)) (k : Nat) : Bool := ms.any fun p => Nat.ble p.1 k && Nat.ble k p.2
/-- K is L without the slots ms. -/
inductive Keep (ms : List (Nat × Nat)) : List (Nat × Value) → List (Nat × Value) → Prop
  | nil : Keep ms [] []
  | drop {k : Nat} {v : Value} {r K : List (Nat × Value)} : inR ms k = true → Keep ms r K → Keep ms ((k, v) :: r) K
  | take {k : Nat} {v : Value} {r K : List (Nat × Value)} : inR ms k = false → Keep ms r K → Keep ms ((k, v) :: r) ((k, v) :: K)
theorem Keep.out {ms : List (Nat × Nat)} {L K : List (Nat × Value)} (h : Keep ms L K) : ∀ t v, lk K t = some v → lk L t = some v ∧ inR ms t = false := by
  induction h with
  | nil => intro t v h; simp [lk] at h
  | @drop k u r K hc _ ih =>
    intro t v h
    obtain ⟨h1, h2⟩ := ih t v h
    refine ⟨?_, h2⟩
    have hne : ¬ k = t := by rintro rfl; rw [hc] at h2; cases h2
    simp only [lk, nb_ne hne]
    exact h1
  | @take k u r K hc _ ih =>
    intro t v h
    by_cases e : k = t
    · subst e
      simp only [lk, nb_self] at h ⊢
      exact ⟨h, hc⟩
    · simp only [lk, nb_ne e] at h ⊢
      exact ih t v h
/-- K stands at L's end, behind slots of ms. -/
inductive Behind (ms : List (Nat × Nat)) (K : List (Nat × Value)) : List (Nat × Value) → Prop
  | refl : Behind ms K K
  | skip {d : Nat} {v : Value} {L : List (Nat × Value)} : inR ms d = true → Behind ms K L → Behind ms K ((d, v) :: L)
theorem Behind.out {ms : List (Nat × Nat)} {K L : List (Nat × Value)} (h : Behind ms K L) : ∀ t, inR ms t = false → lk L t = lk K t := by
  induction h with
  | refl => intro t _; rfl
  | @skip d v L hc _ ih =>
    intro t ht
    have hne : ¬ d = t := by rintro rfl; rw [hc] at ht; cases ht
    simp only [lk, nb_ne hne]
    exact ih t ht
theorem Keep.of {n : Nat} {a : Act} {L K : List (Nat × Value)} (hf : Fits n a L) (ms : List (Nat × Nat)) (h : Keep ms L K) : Keep ms L K := h
theorem Fits.keep {n : Nat} {a : Act} {ms : List (Nat × Nat)} {L K : List (Nat × Value)} (hf : Fits n a L) (h : Keep ms L K) : Fits n a K := ⟨hf.size, hf.defers, fun t v ht => hf.get t v (h.out t v ht).1⟩
theorem Fits.back {n : Nat} {a : Act} {ms : List (Nat × Nat)} {L L' K : List (Nat × Value)} (hf : Fits n a L') (hb : Behind ms K L') (h : Keep ms L K) : Fits n a K :=
  ⟨hf.size, hf.defers, fun t v ht => hf.get t v (by rw [hb.out t (h.out t v ht).2]; exact ht)⟩
theorem c_loopK {P : Program} {Q : Exit → Act → World → Prop} {a : Act} {w : World} {n : Nat} {α : Type} {c : Code} {L K : List (Nat × Value)} {ms : List (Nat × Nat)} (hk : Keep ms L K) (I : α → List (Nat × Value)) (J : α → World → Prop) (μ : α → Nat) (x₀ : α)
    (h₀ : Fits n a (I x₀ ++ K)) (hJ : J x₀ w)
    (round : ∀ x a w, Fits n a (I x ++ K) → J x w → c.wp P (Exit.then (fun a' w' => ∃ x', Fits n a' (I x' ++ K) ∧ J x' w' ∧ μ x' < μ x) Q) a w) : (Code.loop c).wp P Q a w :=
  c_loop (fun x a w => Fits n a (I x ++ K) ∧ J x w) μ x₀ ⟨h₀, hJ⟩ fun x a w ⟨h1, h2⟩ => Code.wp_mono (fun e a' w' hq => by
    cases e with
    | normal => obtain ⟨x', h1, h2, h3⟩ := hq; exact ⟨x', ⟨h1, h2⟩, h3⟩
    | exit id => exact hq
    | goto l => exact hq
    | ret => exact hq
    | panic ch => exact hq
    | outgrown => exact hq) (round x a w h1 h2)
theorem any_three {P : Program} {ops : Array Oper} {Q : Exit → Act → World → Prop} {a : Act} {w : World} {o o' o'' : Oper} {S : World → Prop} {i j k fuel : Nat} {listed : Array Bool} (hi : ops[i]? = some o) (hj : ops[j]? = some o') (hk : ops[k]? = some o'') (hr : Region.ready .any ops listed = [i, j, k])
    (h : opWp P ops Q o (fun a' w' => S w' ∧ wpAnyH P .any ops Q S fuel (listed.setIfInBounds i true) a' w') a w)
    (h' : opWp P ops Q o' (fun a' w' => S w' ∧ wpAnyH P .any ops Q S fuel (listed.setIfInBounds j true) a' w') a w)
    (h'' : opWp P ops Q o'' (fun a' w' => S w' ∧ wpAnyH P .any ops Q S fuel (listed.setIfInBounds k true) a' w') a w) : wpAnyH P .any ops Q S (fuel + 1) listed a w :=
  wpAnyH_all hr (by simp) fun x hx => by
    rcases List.mem_cons.1 hx with rfl | hx
    · unfold wpOp; simp only [hi]; exact h
    rcases List.mem_cons.1 hx with rfl | hx
    · unfold wpOp; simp only [hj]; exact h'
    · rw [List.mem_singleton.1 hx]; unfold wpOp; simp only [hk]; exact h''
/-- A row of bytes that is seen as text: what is behind it is fixed. -/
theorem Sat.rwFreeze {W w : World} {l : List HP} {b len : Nat} {xs : List Value} {e : TypeId} (h : Sat W (Rw e 1 (some ⟨b, 0, none⟩) len len xs :: l) w) : ∃ c : Nat × Nat, w.heap[b]? = some (.cells xs.toArray e c) ∧ Sat W (Blk b xs e :: l) (w.freeze ⟨b, xs.length, none⟩ 1) := by
  obtain ⟨h1, h2, hp, hl, hd, hs1, hs2⟩ := h.has
  obtain ⟨hx, _, _, hq⟩ := hp
  have hb : h1 b = some (.cells xs.toArray e (0, 0)) := by
    rcases hq with ⟨hq, _⟩ | ⟨b', sp, hq, hm, hsp⟩
    · cases hq
    · cases hq
      have : sp = [] := List.eq_nil_of_length_eq_zero (by rw [hsp]; simp)
      subst this
      simpa using hm
  refine ⟨(0, 0), hs1 b _ hb, ?_⟩
  have hw : w.heap[b]? = some (.cells xs.toArray e (0, 0)) := hs1 b _ hb
  have h0 : Sat W (Blk b xs e :: l) w := ⟨h.os, h.tape, h.output, h1, h2, ⟨(0, 0), hb, fun i _ h => by simp at h⟩, hl, hd, hs1, hs2⟩
  refine h0.write (by simp [World.freeze]) (by simp [World.freeze]) (by simp [World.freeze]) ?_
  rintro m ⟨fr, hm1, hm2⟩ hm
  refine ⟨fun x => if x = b then some (.cells xs.toArray e (xs.length, xs.length + 1)) else none, ⟨(xs.length, xs.length + 1), by simp, fun i hi h => by simp at h; omega⟩, ?_, ?_, ?_⟩
  · intro x o hx
    by_cases ex : x = b
    · subst ex
      simp at hx
      subst hx
      simp only [World.freeze]
      rw [if_neg (by decide), Array.getElem?_modify, if_pos rfl, hw]
      simp
    · simp [ex] at hx
  · intro x hx
    by_cases ex : x = b
    · subst ex; rw [hm1] at hx; cases hx
    · left; simp [World.freeze, Array.getElem?_modify, Ne.symm ex]
  · intro x hx
    by_cases ex : x = b
    · subst ex; rw [hm1] at hx; cases hx
    · left; simp [ex]
theorem st_conv {P : Program} {ops : Array Oper} {Q : Exit → Act → World → Prop} {K : Act → World → Prop} {a : Act} {w : World} {n : Nat} {L : List (Nat × Value)} {o : Oper} {W : World} {l l' : List HP} {t e : TypeId} {x : Operand} {dd b len : Nat} {cs : List Value} (hf : Fits n a L) (hn : Wn ops a o true) (hS : Sat W l w) (ho : o.op = .convert t t x) (hx : ev L x = some (.slice (some ⟨b, 0, none⟩) len len)) (ht : P.underlying t = some (.slice e)) (he : P.underlying e = some (.int .u8)) (s : Sel (Rw e 1 (some ⟨b, 0, none⟩) len len cs) l l') (hd : o.dst = some dd) (hlt : Nat.blt dd n = true)
    (k : ∀ a' w', Fits n a' ((dd, .slice (some ⟨b, 0, none⟩) len len) :: L) → Sat W (Blk b cs e :: l') w' → K a' w') : opWp P ops Q o K a w := by
  obtain ⟨fr, hfr, h2⟩ := (hS.sel s).rwFreeze
  have hsh : w.shape? b = some (e, cs.length) := by unfold World.shape?; rw [hfr]; simp
  refine st_eff (w' := w.freeze ⟨b, cs.length, none⟩ 1) (v := .slice (some ⟨b, 0, none⟩) len len) hf hn ?_ hd hlt fun a' hf' => k a' _ hf' h2
  simp [execOp, ho, hf.ev hx, convert, run_underlying ht, run_underlying he, markStringish, hsh, shape, freeze, Sem.run]
theorem rd_sliceSH {P : Program} {S : World → Prop} {a : Act} {n : Nat} {L : List (Nat × Value)} {o : Oper} {t : TypeId} {x hi : Operand} {p : List UInt8} {k2 : IntKind} {j : Int} (hf : Fits n a L) (ho : o.op = .slice t x none (some hi) none) (hx : ev L x = some (.string (str p))) (hh : ev L hi = some (.int k2 j)) (ht : P.underlying t = some .string)
    (h1 : 0 ≤ j) (h2 : j ≤ p.length) : Rd P a o S (.string (str (p.take j.toNat))) := fun w _ => by
  have e1 : (str p).size = p.length := by simp [ByteArray.size]
  have e3 : (str p).extract 0 j.toNat = str (p.take j.toNat) := by
    apply ByteArray.ext
    apply Array.toList_inj.1
    rw [Lib.extract_data]
    simp
  simp only [execOp, ho, hf.ev hx, hf.ev hh, Instr.sliceAt, Instr.slice, Instr.sliceBounds, Instr.sliceBound, asIntOf, Option.map_some, Option.map_none, Sem.run_bind, run_underlying ht, Result.andThen_ok, e1]
  simp [h1, h2, e3]
theorem made_bytes (n : Nat) : (madeCells (Value.int .u8 0).cells (n * 1)).toList = bvs (List.replicate n 0) := by
  apply List.ext_getElem
  · simp [madeCells]
  · intro i h1 h2
    simp [madeCells, Value.cells, Nat.mod_one, bv]
theorem flat_one {α β : Type} (f : α → β) (l : List α) : (l.flatMap fun n => [f n]) = l.map f := by
  induction l with
  | nil => rfl
  | cons a r ih => rw [List.flatMap_cons, ih]; rfl
theorem one_elem {w : World} {ad : Addr} {α : Type} {f : α → Value} {l : List α} {k : Nat} {x : α} (h : SlAt w (some ad) l.length 1 (l.flatMap fun n => [f n])) (hk : l[k]? = some x) : w.cell? (ad.add k) = some (f x) := by
  refine h.get ?_
  rw [flat_one]
  simp [hk]
theorem bvs_set (xs : List UInt8) (k : Nat) (c : UInt8) : bvs (xs.set k c) = (bvs xs).set k (bv c) := by simp [bvs, List.map_set]
/-- A whole number as one of 64 bits without a sign, modulo m. -/
theorem wrapU (n : Int) : IntKind.u64.wrap n = n % 18446744073709551616 := by rw [IntKind.wrap_u64]
theorem u64mod (n : Int) {m : Nat} (hm : 0 < m) : (IntKind.u64.wrap n).tmod ((m : Nat) : Int) = (((n % 18446744073709551616).toNat % m : Nat) : Int) := by
  rw [wrapU]
  have h0 : 0 ≤ n % 18446744073709551616 := Int.emod_nonneg _ (by omega)
  rw [Int.tmod_eq_emod_of_nonneg h0, Int.natCast_emod, Int.toNat_of_nonneg h0]
theorem u64_sub {n s : Nat} (h : s ≤ n) (hn : n < 18446744073709551616) : IntKind.u64.wrap ((n : Int) - (s : Int)) = ((n - s : Nat) : Int) := by rw [wrapU]; omega
theorem u64_add1 {n : Nat} (h : n + 1 < 18446744073709551616) : IntKind.u64.wrap ((n : Int) + 1) = ((n + 1 : Nat) : Int) := by rw [wrapU]; omega
theorem u64_sub1 {n s : Nat} (h : s ≤ n) (hn : n < 9223372036854775807) : IntKind.u64.wrap ((n : Int) - (s : Int) + 1) = ((n - s + 1 : Nat) : Int) := by rw [wrapU]; omega
theorem u64_of1 {n : Nat} (h : n < 9223372036854775807) : IntKind.u64.wrap ((n : Int) + 1) = ((n + 1 : Nat) : Int) := by rw [wrapU]; omega
theorem nat_sub {m n : Nat} (h : n ≤ m) : IntKind.i64.wrap ((m : Int) - (n : Int)) = ((m - n : Nat) : Int) ∨ 9223372036854775807 < m := by
  by_cases h2 : 9223372036854775807 < m
  · exact .inr h2
  · left; rw [IntKind.wrap_i64]; omega
theorem i64_sub {m n : Nat} (h : n ≤ m) (h2 : m ≤ 9223372036854775807) : IntKind.i64.wrap ((m : Int) - (n : Int)) = ((m - n : Nat) : Int) := (nat_sub h).resolve_right (by omega)
theorem i64_add1 {n : Nat} (h : n < 9223372036854775807) : IntKind.i64.wrap ((n : Int) + 1) = ((n + 1 : Nat) : Int) := by rw [IntKind.wrap_i64]; omega
theorem i64_add {m n : Nat} (h : m + n ≤ 9223372036854775807) : IntKind.i64.wrap ((m : Int) + (n : Int)) = ((m + n : Nat) : Int) := by rw [IntKind.wrap_i64]; omega
theorem slice_eq {q : Option Addr} {n n' c : Nat} (h : n = n') : Value.slice q n c = Value.slice q n' c := by rw [h]
end Go.Sl
