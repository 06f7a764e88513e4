/-
  Rows of messages, messages that wait.
  Conditions: none; it speaks of every program of the model.
-/
import Derived.Test.YtcflbdpjoanbgaaGreatMs9
namespace Go.Sl
open Go
set_option linter.unusedSimpArgs false
set_option linter.unusedVariables false

/-! ### Rows in blocks that may be longer than the slice may grow -/
def Rl (T sz : Nat) (p : Option Addr) (len cap : Nat) (xs : List Value) : HP := fun m =>
  xs.length = len * sz ∧ len ≤ cap ∧ cap ≤ maxLen ∧ ((p = none ∧ cap = 0) ∨ ∃ b spare, p = some ⟨b, 0, none⟩ ∧ m b = some (.cells (xs ++ spare).toArray T (0, 0)) ∧ (cap - len) * sz ≤ spare.length)
theorem Sat.rlOfRw {W w : World} {l : List HP} {T sz len cap : Nat} {p : Option Addr} {xs : List Value} (h : Sat W (Rw T sz p len cap xs :: l) w) : Sat W (Rl T sz p len cap xs :: l) w :=
  h.head fun m ⟨h1, h2, h3, h4⟩ => ⟨h1, h2, h3, h4.imp id fun ⟨b, s, hp, hb, hs⟩ => ⟨b, s, hp, hb, Nat.le_of_eq hs.symm⟩⟩
theorem Sat.slOfRl {W w : World} {l l' : List HP} {T sz len cap : Nat} {p : Option Addr} {xs : List Value} (h : Sat W l w) (s : Sel (Rl T sz p len cap xs) l l') : SlAt w p len sz xs := by
  obtain ⟨_, _, ⟨h1, h2, h3, h4⟩, _, _, hs, _⟩ := (h.sel s).has
  refine ⟨h1, fun hn => ?_⟩
  rcases h4 with ⟨_, h5⟩ | ⟨b, spare, hp, hb, hsp⟩
  · omega
  · refine ⟨_, hp, fun j u hu => ?_⟩
    have hb' := hs _ _ hb
    simp only at hb'
    rw [addr_add]
    have hlt : j < xs.length := (List.getElem?_eq_some_iff.1 hu).1
    simp [World.cell?, hb', hu, List.getElem?_append_left hlt]
theorem Sat.rlLen {W w : World} {l l' : List HP} {T sz len cap : Nat} {p : Option Addr} {xs : List Value} (h : Sat W l w) (s : Sel (Rl T sz p len cap xs) l l') : xs.length = len * sz ∧ len ≤ cap ∧ cap ≤ maxLen ∧ (p = none → cap = 0) := by
  obtain ⟨_, _, ⟨h1, h2, h3, h4⟩, _, _, hs, _⟩ := (h.sel s).has
  refine ⟨h1, h2, h3, fun hp => ?_⟩
  rcases h4 with ⟨_, h5⟩ | ⟨b, spare, hp', _⟩
  · exact h5
  · rw [hp] at hp'; cases hp'
/-- Its beginning, with no room. -/
theorem Sat.rlTake {W w : World} {l : List HP} {T sz len cap : Nat} {p : Option Addr} {xs : List Value} (h : Sat W (Rl T sz p len cap xs :: l) w) {k : Nat} (hk : k ≤ len) : Sat W (Rl T sz p k k (xs.take (k * sz)) :: l) w :=
  h.head fun m ⟨h1, h2, h3, h4⟩ => by
    have hle : k * sz ≤ len * sz := Nat.mul_le_mul_right _ hk
    refine ⟨by rw [List.length_take]; omega, Nat.le_refl _, by omega, ?_⟩
    rcases h4 with ⟨hp, hc⟩ | ⟨b, spare, hp, hb, hsp⟩
    · exact .inl ⟨hp, by omega⟩
    · refine .inr ⟨b, xs.drop (k * sz) ++ spare, hp, ?_, by simp⟩
      rw [← List.append_assoc, List.take_append_drop]; exact hb
theorem Sat.rlCast {W w : World} {l : List HP} {T sz len cap len' : Nat} {p : Option Addr} {xs xs' : List Value} (h : Sat W (Rl T sz p len cap xs :: l) w) (hx : xs = xs') (hl : len = len') : Sat W (Rl T sz p len' cap xs' :: l) w := by subst hx; subst hl; exact h
theorem Sat.rlSet {W w : World} {l : List HP} {p : Option Addr} {T sz len cap len' : Nat} {b : Nat} {xs xs' : List Value} {cs : Array Value} (h : Sat W (Rl T sz p len cap xs :: l) w) (hp : p = some ⟨b, 0, none⟩) (hx : xs'.length = len' * sz) (hc : len' ≤ cap) (spare : List Value) (hcs : cs = (xs' ++ spare).toArray) (hsp : (cap - len') * sz ≤ spare.length) : Sat W (Rl T sz p len' cap xs' :: l) (w.setRow b cs) := by
  refine h.write rfl rfl rfl ?_
  rintro m ⟨h1, h2, h3, h4⟩ hm
  rcases h4 with ⟨hp', _⟩ | ⟨b', sp, hp', hb, hl⟩
  · rw [hp] at hp'; cases hp'
  · rw [hp] at hp'
    cases hp'
    have hw := hm _ _ hb
    refine ⟨fun x => if x = b then some (.cells cs T (0, 0)) else none, ⟨hx, hc, h3, .inr ⟨b, spare, hp, by simp [hcs], hsp⟩⟩, ?_, ?_, ?_⟩
    · intro x o hx'
      by_cases e : x = b
      · subst e; simp at hx'; subst hx'; exact setRow_heap w x _ cs T (0, 0) hw
      · simp [e] at hx'
    · intro x hx'
      by_cases e : x = b
      · subst e; rw [hb] at hx'; cases hx'
      · left; exact (setRow_other w b x cs e).symm
    · intro x hx'
      by_cases e : x = b
      · subst e; rw [hb] at hx'; cases hx'
      · left; simp [e]
section
variable {P : Program} {ops : Array Oper} {Q : Exit → Act → World → Prop} {K : Act → World → Prop} {a : Act} {w : World} {n : Nat} {L : List (Nat × Value)} {o : Oper} {W : World} {l l' : List HP} {S : World → Prop}
theorem run_append_rl {t e ty : TypeId} {z : Value} {sz by' len cap m c : Nat} {p q : Option Addr} {xs ys : List Value} (ht : P.underlying t = some (.slice e)) (hi : TyB P e z sz by') (hzs : z.cells.size = sz) (h0 : 0 < by')
    (hS : Sat W (Rl e sz p len cap xs :: l) w) (hy : SlAt w q m sz ys) (h1 : ys.all (·.oneCell') = true) (hb : (len + m) * by' ≤ 140737488355328) :
    ∃ p' cap' w', (Builtin.append_ #[t, t] ty #[.slice p len cap, .slice q m c]).run P w = .ok (.slice p' (len + m) cap') w' ∧ Sat W (Rl e sz p' (len + m) cap' (xs ++ ys) :: l) w' ∧ (p' = none → len + m = 0) := by
  obtain ⟨i, hi1, hi2, hi3, hi4⟩ := hi.out
  obtain ⟨hlx, hlc, hcm, hpc⟩ := hS.rlLen .head
  have hsl := hS.slOfRl .head
  have hbound : len + m ≤ maxLen := by
    have : len + m ≤ (len + m) * by' := Nat.le_mul_of_pos_right _ h0
    simp only [maxLen]; omega
  have hlen : (xs ++ ys).length = (len + m) * sz := by rw [List.length_append, hlx, hy.1, Nat.add_mul]
  have hnew := run_firstCells (P := P) (c := c) hy
  have hold := run_firstCells (P := P) (c := cap) hsl
  by_cases hroom : len + m ≤ cap
  · cases hp : p with
    | none =>
      have hc0 := hpc hp
      have hl0 : len = 0 := by omega
      have hm0 : m = 0 := by omega
      subst hp; subst hl0; subst hm0; subst hc0
      have e1 : ys = [] := List.eq_nil_of_length_eq_zero (by simpa using hy.1)
      subst e1
      refine ⟨none, 0, w, ?_, by simpa using hS, fun _ => rfl⟩
      simp [Builtin.append_, run_underlying ht, sizeOf, typeInfo, hi1, hi3, Builtin.lenOf, hnew]
    | some ad =>
      subst hp
      obtain ⟨_, _, ⟨_, _, _, h4⟩, _, _, hs, _⟩ := hS.has
      rcases h4 with ⟨hp', _⟩ | ⟨b, sp, hp', hbk, hspl⟩
      · cases hp'
      · cases hp'
        have hw := hs _ _ hbk
        simp only at hw
        have h1' : ∀ u ∈ ys, u.oneCell' = true := by simpa using h1
        have hms : m * sz ≤ sp.length := Nat.le_trans (Nat.mul_le_mul_right _ (by omega)) hspl
        have hfit : len * i.size + ys.length ≤ (xs ++ sp).toArray.size := by
          simp only [List.size_toArray, List.length_append, hlx, hy.1, hi3]
          omega
        have hst := run_storeCells_at P b (len * i.size) e ys 0 (xs ++ sp).toArray w hw (by simpa using hfit) h1'
        simp only [Nat.add_zero] at hst
        refine ⟨_, _, _, ?_, hS.rlSet (len' := len + m) (cs := ((xs ++ sp).take (len * i.size) ++ ys ++ (xs ++ sp).drop (len * i.size + ys.length)).toArray) rfl hlen hroom (sp.drop ys.length) ?_ ?_, fun h => by cases h⟩
        · simp [Builtin.append_, run_underlying ht, sizeOf, typeInfo, hi1, hi3, Builtin.lenOf, hroom, hnew, Addr.add_lit] at hst ⊢
          simp [hst]
        · rw [hi3, ← hlx]
          congr 1
          rw [List.take_left, List.drop_append]
          simp
        · rw [List.length_drop, hy.1]
          have : (cap - (len + m)) * sz + m * sz = (cap - len) * sz := by rw [← Nat.add_mul]; congr 1; omega
          omega
  · have hlt : cap < len + m := by omega
    have hfit : ¬ (Builtin.nextslicecap (len + m) cap * i.bytes > 281474976710656) := by
      have := growslice_fits hlt (by rw [hi4] at *; exact hb : (len + m) * i.bytes ≤ 140737488355328)
      omega
    have h63 : ¬ (((len + m : Nat) : Int) > IntKind.i64.max ∧ i.bytes = 0) := by
      rw [hi4]; intro h; omega
    obtain ⟨hg1, hg2⟩ := grown_bound (w := w) (old := cap) e hbound
    refine ⟨some ⟨w.heap.size, 0, none⟩, grownCap w (len + m) cap e, w.drew.alloc (.cells (xs.toArray ++ ys.toArray ++ Builtin.zeroCells z.cells (grownCap w (len + m) cap e - (len + m))) e), ?_,
      (((hS.sub (.skip .refl)).drew).rwNew (w := w.drew) rfl hlen hg1 hg2 (Builtin.zeroCells z.cells (grownCap w (len + m) cap e - (len + m))).toList ?_ ?_).rlOfRw, fun h => by cases h⟩
    · have hnew' : (Builtin.firstCells i.size m (.slice q m c)).run P w.drew = .ok ys.toArray w.drew := by rw [hi3]; exact run_firstCells (P := P) (w := w.drew) (c := c) hy
      have hold' : (Builtin.firstCells i.size len (.slice p len cap)).run P w.drew = .ok xs.toArray w.drew := by rw [hi3]; exact run_firstCells (P := P) (w := w.drew) (c := cap) hsl
      have hn : ¬ (len + m ≤ cap) := hroom
      have h63' : ¬ (9223372036854775807 < ((len : Int) + (m : Int))) := by simp only [maxLen] at hbound; omega
      have h48' : ¬ (281474976710656 < Builtin.nextslicecap (len + m) cap * i.bytes) := by omega
      simp [Builtin.append_, run_underlying ht, sizeOf, typeInfo, zeroValue, hi1, hi2, Builtin.lenOf, hn, h63', h48', Question.forced, hnew', hold', newRow, grownCap]
      congr 2
      apply Array.ext'
      simp
    · simp
    · rw [Array.length_toList, size_zeroCells, hzs]
theorem st_appendL {t e : TypeId} {x y : Operand} {z : Value} {sz by' len cap m c d : Nat} {p q : Option Addr} {xs ys : List Value} (hf : Fits n a L) (hn : Wn ops a o true) (ho : o.op = .call { callee := .builtin .append, args := #[x, y], argTypes := #[t, t] }) (hx : ev L x = some (.slice p len cap)) (hy : ev L y = some (.slice q m c))
    (ht : P.underlying t = some (.slice e)) (hi : TyB P e z sz by') (hzs : z.cells.size = sz) (h0 : 0 < by') (hS : Sat W l w) (s : Sel (Rl e sz p len cap xs) l l') (hys : SlAt w q m sz ys) (h1 : ys.all (·.oneCell') = true) (hb : (len + m) * by' ≤ 140737488355328) (hd : o.dst = some d) (hlt : Nat.blt d n = true)
    (k : ∀ p' cap' a' w', Fits n a' ((d, .slice p' (len + m) cap') :: L) → Sat W (Rl e sz p' (len + m) cap' (xs ++ ys) :: l') w' → (p' = none → len + m = 0) → K a' w') : opWp P ops Q o K a w := by
  obtain ⟨p', cap', w', hr, hs, hp⟩ := run_append_rl (P := P) (ty := o.type) (c := c) ht hi hzs h0 (hS.sel s) hys h1 hb
  exact st_eff (w' := w') hf hn (by simp [execOp, ho, resolve, invoke, builtin, hf.ev hx, hf.ev hy, hr]) hd hlt fun a' hf' => k p' cap' a' w' hf' hs hp
theorem rd_slice3H {t e : TypeId} {x hi mx : Operand} {p : Option Addr} {k c sz : Nat} {k2 k3 : IntKind} {j m : Int} (hf : Fits n a L) (ho : o.op = .slice t x none (some hi) (some mx)) (hx : ev L x = some (.slice p k c)) (hh : ev L hi = some (.int k2 j)) (hm : ev L mx = some (.int k3 m)) (ht : P.underlying t = some (.slice e)) (hz : (P.info? e).map (·.size) = some sz)
    (h1 : 0 ≤ j) (h2 : j ≤ m) (h3 : m ≤ c) : Rd P a o S (.slice p j.toNat m.toNat) := fun w _ => by
  obtain ⟨inf, hi', hz'⟩ := Option.map_eq_some_iff.1 hz
  have e2 : 0 ≤ j := by omega
  have e3 : 0 ≤ m := by omega
  have e : ∀ q : Nat, (if q = 0 then p else Option.map (fun x => Addr.add x 0) p) = p := fun q => by
    split
    · rfl
    · cases p <;> simp [Addr.add]
  simp [execOp, ho, hf.ev hx, hf.ev hh, hf.ev hm, Instr.sliceAt, Instr.slice, Instr.sliceBounds, Instr.sliceBound, asIntOf, run_underlying ht, sizeOf, typeInfo, hi', hz', h2, h3, e2, e3, e]
  intro hh
  omega
end

/-! ### Messages, each in memory of its own -/
abbrev mEs (x : MsgT) : Sli EntT := x.2.2.2.2.2.2.2.1
abbrev mDs (x : MsgT) : Sli DigT := x.2.2.2.2.2.2.2.2.1
abbrev mMs (x : MsgT) : Sli MemT := x.2.2.2.2.2.2.2.2.2.1
def MsgV (w : World) (x : MsgT) : Prop := EntsAt w (mEs x) ∧ DigsAt w (mDs x) ∧ DotsAt w (mMs x)
def MsgsAt (w : World) (x : Sli MsgT) : Prop := SlAt w x.1 x.2.2.length 10 (x.2.2.flatMap msgC) ∧ ∀ m ∈ x.2.2, MsgV w m
theorem MsgsAt.el {w : World} {ad : Addr} {c : Nat} {L : List MsgT} {i : Nat} {x : MsgT} (h : MsgsAt w (some ad, c, L)) (hx : L[i]? = some x) : AggAt w (ad.add (i * 10)) 10 (msgC x) := SlAt.elem h.1 (fun _ => rfl) hx
theorem MsgsAt.in {w : World} {q : Option Addr} {c : Nat} {L : List MsgT} {i : Nat} {x : MsgT} (h : MsgsAt w (q, c, L)) (hx : L[i]? = some x) : MsgV w x := h.2 x (List.mem_of_getElem? hx)
theorem MsgsAt.some {w : World} {q : Option Addr} {c : Nat} {L : List MsgT} (h : MsgsAt w (q, c, L)) (hn : L.length ≠ 0) : ∃ a, q = Option.some a := h.1.some hn
theorem MsgV.vec8 {w : World} {x : MsgT} (h : MsgV w x) : vec8 (pMsg x) := vec8_of (w := w) (qe := (mEs x).1) (ce := (mEs x).2.1) (qd := (mDs x).1) (cd := (mDs x).2.1) h.1 h.2.1
def MsgG (E T B D O M : Nat) (x : MsgT) : HP := All [EntR E T B (mEs x), DigR D O (mDs x), Rw M 2 (mMs x).1 (mMs x).2.2.length (mMs x).2.1 ((mMs x).2.2.flatMap dotC)]
def okMsg (x : MsgT) : Prop := (okL (mEs x).2.2 ∧ (mEs x).2.2.length ≤ 256) ∧ (okG2 (mDs x).2.2 ∧ (mDs x).2.2.length ≤ 256) ∧ (mMs x).2.2.length ≤ 8
theorem Sat.entOk {W w : World} {l l' : List HP} {E T B : Nat} {q : Option Addr} {c : Nat} {L : List EntT} (h : Sat W l w) (s : Sel (EntR E T B (q, c, L)) l l') (hok : okL L) (hn : L.length ≤ 256) : EntsAt w (q, c, L) := (Sat.unall (h.sel s)).entL .head (.tail .head) hok (by omega)
theorem Sat.digOk {W w : World} {l l' : List HP} {D T : Nat} {q : Option Addr} {c : Nat} {L : List DigT} (h : Sat W l w) (s : Sel (DigR D T (q, c, L)) l l') (hok : okG2 L) (hn : L.length ≤ 256) : DigsAt w (q, c, L) := (Sat.unall (h.sel s)).digL .head (.tail .head) hok (by omega)
theorem Sat.memOk {W w : World} {l l' : List HP} {T : Nat} {q : Option Addr} {c : Nat} {L : List DotT} (h : Sat W l w) (s : Sel (Rw T 2 q L.length c (L.flatMap dotC)) l l') (hn : L.length ≤ 8) : DotsAt w (q, c, L) := ⟨h.slOfRw s, by show L.length ≤ _; omega⟩
theorem Sat.msgV {W w : World} {l l' : List HP} {E T B D O M : Nat} {x : MsgT} (h : Sat W l w) (s : Sel (MsgG E T B D O M x) l l') (hok : okMsg x) : MsgV w x := by
  have h2 := Sat.unall (h.sel s)
  exact ⟨h2.entOk .head hok.1.1 hok.1.2, h2.digOk (.tail .head) hok.2.1.1 hok.2.1.2, h2.memOk (.tail (.tail .head)) hok.2.2⟩
theorem Sat.msgVs {W w : World} {l l' : List HP} {E T B D O M : Nat} {L : List MsgT} {i : Nat} {x : MsgT} (h : Sat W l w) (s : Sel (AllG (MsgG E T B D O M) L) l l') (hx : L[i]? = some x) (hok : ∀ m ∈ L, okMsg m) : MsgV w x := by
  obtain ⟨l'', h2⟩ := h.allGet s (List.mem_of_getElem? hx)
  exact h2.msgV .head (hok x (List.mem_of_getElem? hx))
theorem okL_pl {b : Bool} {L es : List EntT} (h : L.map pEnt = plL b (es.map pEnt)) (hk : okL es) (hl : es.length ≤ 256) : okL L ∧ L.length ≤ 256 := by
  cases b with
  | false =>
    have : L = [] := List.eq_nil_of_length_eq_zero (by simpa [plL] using congrArg List.length h)
    subst this; exact ⟨(fun e he => by cases he), by simp⟩
  | true =>
    change L.map pEnt = es.map pEnt at h
    have hl2 := map_len h
    refine ⟨fun e he => ?_, by omega⟩
    have h3 : pEnt e ∈ es.map pEnt := by rw [← h]; exact List.mem_map.2 ⟨e, he, rfl⟩
    obtain ⟨u, hu, eu⟩ := List.mem_map.1 h3
    obtain ⟨h4, h5, h6⟩ := hk u hu
    have e1 : u.2.1.1 = e.2.1.1 := congrArg (fun z => z.2.1) eu
    have e2 : u.2.1.2.1.2.2.map pVal = e.2.1.2.1.2.2.map pVal := congrArg (fun z => z.2.2) eu
    refine ⟨by rw [← e1]; exact h4, by have := map_len e2; omega, fun v hv => ?_⟩
    have h7 : pVal v ∈ u.2.1.2.1.2.2.map pVal := by rw [e2]; exact List.mem_map.2 ⟨v, hv, rfl⟩
    obtain ⟨y, hy, ey⟩ := List.mem_map.1 h7
    have h8 : y.2.1.2.2 = v.2.1.2.2 := congrArg (fun z => z.2.1) ey
    rw [← h8]; exact h6 y hy
theorem okG_pl {b : Bool} {L es : List DigT} (h : L.map pDig = plL b (es.map pDig)) (hk : okG2 es) (hl : es.length ≤ 256) : okG2 L ∧ L.length ≤ 256 := by
  cases b with
  | false =>
    have : L = [] := List.eq_nil_of_length_eq_zero (by simpa [plL] using congrArg List.length h)
    subst this; exact ⟨(fun e he => by cases he), by simp⟩
  | true =>
    change L.map pDig = es.map pDig at h
    have hl2 := map_len h
    refine ⟨fun e he => ?_, by omega⟩
    have h3 : pDig e ∈ es.map pDig := by rw [← h]; exact List.mem_map.2 ⟨e, he, rfl⟩
    obtain ⟨u, hu, eu⟩ := List.mem_map.1 h3
    obtain ⟨h4, h5⟩ := hk u hu
    have e1 : u.2.1 = e.2.1 := congrArg (fun z => z.2.1) eu
    have e2 : u.2.2.1.2.2.map pDot = e.2.2.1.2.2.map pDot := congrArg (fun z => z.2.2) eu
    exact ⟨by rw [← e1]; exact h4, by have := map_len e2; omega⟩
theorem lenM_pl {b : Bool} {L es : List DotT} (h : L.map pDot = plL b (es.map pDot)) (hl : es.length ≤ 8) : L.length ≤ 8 := by
  cases b with
  | false => have h2 := congrArg List.length h; simp [plL] at h2; subst h2; exact Nat.zero_le _
  | true => have h2 := map_len (show L.map pDot = es.map pDot from h); omega
theorem one_msg (L : List MsgT) : (L.flatMap msgC).all (·.oneCell') = true := by rw [List.all_flatMap, List.all_eq_true]; intro v _; rfl
theorem one_drop {l : List Value} {k : Nat} (h : l.all (·.oneCell') = true) : (l.drop k).all (·.oneCell') = true := List.all_eq_true.2 fun x hx => List.all_eq_true.1 h x (List.mem_of_mem_drop hx)

theorem Sat.entNil {W w : World} {l : List HP} (E T B : Nat) (h : Sat W l w) : Sat W (EntR E T B (none, 0, []) :: l) w := Sat.all (ps := [Rw E 10 none 0 0 [], AllG (fun e : EntT => ValR T B e.2.1.2.1) []]) (l := l) ((h.allNil _).rwNil E 10)
theorem Sat.digNil {W w : World} {l : List HP} (D T : Nat) (h : Sat W l w) : Sat W (DigR D T (none, 0, []) :: l) w := Sat.all (ps := [Rw D 10 none 0 0 [], AllG (fun d : DigT => Rw T 2 d.2.2.1.1 d.2.2.1.2.2.length d.2.2.1.2.1 (d.2.2.1.2.2.flatMap dotC)) []]) (l := l) ((h.allNil _).rwNil D 10)
theorem decRows {W w : World} {l : List HP} {E T B D O M : Nat} {q1 q2 q3 : Option Addr} {c1 c2 c3 : Nat} {L1 : List EntT} {L2 : List DigT} {L3 : List DotT} (h : Sat W (Rw M 2 q3 L3.length c3 (L3.flatMap dotC) :: Rw D 10 q2 L2.length c2 (L2.flatMap digC) :: AllG (fun d : DigT => Rw O 2 d.2.2.1.1 d.2.2.1.2.2.length d.2.2.1.2.1 (d.2.2.1.2.2.flatMap dotC)) L2 :: Rw E 10 q1 L1.length c1 (L1.flatMap entC) :: AllG (fun e : EntT => ValR T B e.2.1.2.1) L1 :: l) w) : Sat W (EntR E T B (q1, c1, L1) :: DigR D O (q2, c2, L2) :: Rw M 2 q3 L3.length c3 (L3.flatMap dotC) :: l) w := by
  have h1 := Sat.all (ps := [Rw D 10 q2 L2.length c2 (L2.flatMap digC), AllG (fun d : DigT => Rw O 2 d.2.2.1.1 d.2.2.1.2.2.length d.2.2.1.2.1 (d.2.2.1.2.2.flatMap dotC)) L2]) (h.sub (.cons (.tail .head) (.cons (.tail .head) .refl)))
  exact Sat.all (ps := [Rw E 10 q1 L1.length c1 (L1.flatMap entC), AllG (fun e : EntT => ValR T B e.2.1.2.1) L1]) (h1.sub (.cons (.tail (.tail .head)) (.cons (.tail (.tail .head)) .refl)))

/-! ### A net -/
def NetP (N G E T B D O M p : Nat) (xs : List PMsg) (lost : Int) : HP := Ex fun z : Option Addr × Nat × List MsgT => All [Blk p [.slice z.1 z.2.2.length z.2.1, .int .i64 lost] N, Rl G 10 z.1 z.2.2.length z.2.1 (z.2.2.flatMap msgC), AllG (MsgG E T B D O M) z.2.2, Fact (z.2.2.map pMsg = xs ∧ (∀ m ∈ z.2.2, okMsg m) ∧ z.2.2.length ≤ 2000)]
section
variable {W w : World} {l : List HP} {N G E T B D O M p : Nat} {xs : List PMsg} {lost : Int}
theorem net_open (h : Sat W (NetP N G E T B D O M p xs lost :: l) w) : ∃ q cap L, L.map pMsg = xs ∧ (∀ m ∈ L, okMsg m) ∧ L.length ≤ 2000 ∧ xs.length = L.length ∧ Sat W (Blk p [.slice q L.length cap, .int .i64 lost] N :: Rl G 10 q L.length cap (L.flatMap msgC) :: AllG (MsgG E T B D O M) L :: l) w := by
  obtain ⟨⟨q, cap, L⟩, h⟩ := h.unex
  have h2 := h.unall
  obtain ⟨h3, h4, h5⟩ := (h2.sel (.tail (.tail (.tail .head)))).unfact.1
  exact ⟨q, cap, L, h3, h4, h5, by rw [← h3, List.length_map], h2.sub (.cons .head (.cons .head (.cons .head (.skip .refl))))⟩
theorem net_shut {q : Option Addr} {cap n : Nat} {L : List MsgT} {ys : List Value} (h : Sat W (Blk p [.slice q n cap, .int .i64 lost] N :: Rl G 10 q n cap ys :: AllG (MsgG E T B D O M) L :: l) w) (h1 : L.map pMsg = xs) (h2 : ∀ m ∈ L, okMsg m) (h3 : L.length ≤ 2000) (hn : n = L.length) (hy : ys = L.flatMap msgC) : Sat W (NetP N G E T B D O M p xs lost :: l) w := by
  subst hn; subst hy
  refine Sat.ex (q, cap, L) (Sat.all ?_)
  exact (h.fact ⟨h1, h2, h3⟩).sub (.cons (.tail .head) (.cons (.tail .head) (.cons (.tail .head) (.cons .head .refl))))
theorem net_push {q : Option Addr} {cap : Nat} {L : List MsgT} {x : MsgT} {cs : List Value} (h : Sat W (Blk p [.slice q (L.length + 1) cap, .int .i64 lost] N :: Rl G 10 q (L.length + 1) cap (L.flatMap msgC ++ cs) :: AllG (MsgG E T B D O M) L :: EntR E T B (mEs x) :: DigR D O (mDs x) :: Rw M 2 (mMs x).1 (mMs x).2.2.length (mMs x).2.1 ((mMs x).2.2.flatMap dotC) :: l) w) (hc : cs = msgC x) (h1 : L.map pMsg = xs) (h2 : ∀ m ∈ L, okMsg m) (h3 : L.length < 2000) (h4 : okMsg x) : Sat W (NetP N G E T B D O M p (xs ++ [pMsg x]) lost :: l) w := by
  subst hc
  have h5 : Sat W (MsgG E T B D O M x :: Blk p [.slice q (L.length + 1) cap, .int .i64 lost] N :: Rl G 10 q (L.length + 1) cap (L.flatMap msgC ++ msgC x) :: AllG (MsgG E T B D O M) L :: l) w := Sat.all (ps := [_, _, _]) (h.sub (.cons (.tail (.tail (.tail .head))) (.cons (.tail (.tail (.tail .head))) (.cons (.tail (.tail (.tail .head))) .refl))))
  have h6 : Sat W (AllG (MsgG E T B D O M) L :: MsgG E T B D O M x :: Blk p [.slice q (L.length + 1) cap, .int .i64 lost] N :: Rl G 10 q (L.length + 1) cap (L.flatMap msgC ++ msgC x) :: l) w := h5.sub (.cons (.tail (.tail (.tail .head))) .refl)
  have h7 := h6.allSnoc
  refine net_shut (L := L ++ [x]) (n := L.length + 1) (ys := L.flatMap msgC ++ msgC x) (q := q) (cap := cap) (h7.sub (.cons (.tail .head) (.cons (.tail .head) .refl))) (by simp [h1]) (all_snoc h2 h4) (by simp; omega) (by simp) (by simp)
theorem flat_take {β : Type} {f : β → List Value} {sz : Nat} (hs : ∀ b, (f b).length = sz) : ∀ (L : List β) (i : Nat), (L.flatMap f).take (i * sz) = (L.take i).flatMap f
  | [], i => by simp
  | b :: L, 0 => by simp
  | b :: L, i + 1 => by rw [List.flatMap_cons, Nat.add_mul, Nat.one_mul, Nat.add_comm (i * sz) sz, ← hs b, List.take_length_add_append, hs b, flat_take hs L i, List.take_succ_cons, List.flatMap_cons]
theorem flat_drop {β : Type} {f : β → List Value} {sz : Nat} (hs : ∀ b, (f b).length = sz) : ∀ (L : List β) (i : Nat), (L.flatMap f).drop (i * sz) = (L.drop i).flatMap f
  | [], i => by simp
  | b :: L, 0 => by simp
  | b :: L, i + 1 => by rw [List.flatMap_cons, Nat.add_mul, Nat.one_mul, Nat.add_comm (i * sz) sz, ← hs b, List.drop_length_add_append, hs b, flat_drop hs L i, List.drop_succ_cons]
theorem sub_mid {x : HP} {C : List HP} : ∀ A : List HP, Sub (A ++ C) (A ++ x :: C)
  | [] => .skip .refl
  | _ :: A => .cons .head (sub_mid A)
theorem net_cut {q : Option Addr} {cap n i : Nat} {L : List MsgT} {A C : List Value} (h : Sat W (Blk p [.slice q n cap, .int .i64 lost] N :: Rl G 10 q n cap (A ++ C) :: AllG (MsgG E T B D O M) L :: l) w) (h1 : L.map pMsg = xs) (h2 : ∀ m ∈ L, okMsg m) (h3 : L.length ≤ 2000) (hi : i < L.length) (hn : n = i + (L.length - (i + 1))) (hA : A = (L.flatMap msgC).take (i * 10)) (hC : C = (L.flatMap msgC).drop ((i + 1) * 10)) : Sat W (NetP N G E T B D O M p (xs.take i ++ xs.drop (i + 1)) lost :: l) w := by
  subst hA; subst hC
  have e : L = L.take i ++ (L[i] :: L.drop (i + 1)) := by rw [← List.drop_eq_getElem_cons hi, List.take_append_drop]
  have h5 : Sat W (AllG (MsgG E T B D O M) L :: Blk p [.slice q n cap, .int .i64 lost] N :: Rl G 10 q n cap ((L.flatMap msgC).take (i * 10) ++ (L.flatMap msgC).drop ((i + 1) * 10)) :: l) w := h.sub (.cons (.tail (.tail .head)) .refl)
  have h6 := Sat.unall h5
  rw [e] at h6
  simp only [List.map_append, List.map_cons, List.append_assoc, List.cons_append] at h6
  rw [← e] at h6
  have h8 : Sat W (AllG (MsgG E T B D O M) (L.take i ++ L.drop (i + 1)) :: Blk p [.slice q n cap, .int .i64 lost] N :: Rl G 10 q n cap ((L.flatMap msgC).take (i * 10) ++ (L.flatMap msgC).drop ((i + 1) * 10)) :: l) w := by
    refine Sat.all ?_
    rw [List.map_append, List.append_assoc]
    exact h6.sub (sub_mid _)
  refine net_shut (L := L.take i ++ L.drop (i + 1)) (h8.sub (.cons (.tail .head) (.cons (.tail .head) .refl))) (by rw [List.map_append, List.map_take, List.map_drop, h1]) (fun m hm => ?_) (by simp; omega) (by rw [hn]; simp; omega) (by rw [flat_take (sz := 10) (fun _ => rfl), flat_drop (sz := 10) (fun _ => rfl), List.flatMap_append])
  rcases List.mem_append.1 hm with h9 | h9
  · exact h2 m (List.mem_of_mem_take h9)
  · exact h2 m (List.mem_of_mem_drop h9)
theorem net_nil (h : Sat W (Blk p [.slice none 0 0, .int .i64 lost] N :: l) w) : Sat W (NetP N G E T B D O M p [] lost :: l) w := by
  have h2 := ((h.allNil (MsgG E T B D O M)).rwNil G 10).rlOfRw
  exact net_shut (L := []) (q := none) (cap := 0) (n := 0) (ys := []) (h2.sub (.cons (.tail (.tail .head)) (.cons .head (.cons .head .refl)))) rfl (fun m hm => by cases hm) (by simp) rfl rfl
end

theorem getD_map {L : List MsgT} {j : Nat} {x : MsgT} (h : L[j]? = some x) : (L.map pMsg).getD j zeroM = pMsg x := by rw [List.getD_eq_getElem?_getD, map_get pMsg h]; rfl
def inS (xs : List PMsg) (i : Int) : Bool := decide (0 ≤ i ∧ i < xs.length)
def copyB (xs : List PMsg) (i : Int) : Bool := inS xs i && decide (xs.length < 2000)
def copyS (xs : List PMsg) (i : Int) : List PMsg := if copyB xs i = true then xs ++ [plP (xs.getD i.toNat zeroM)] else xs
def takeS (xs : List PMsg) (i : Int) : List PMsg := if inS xs i = true then xs.take i.toNat ++ xs.drop (i.toNat + 1) else xs
theorem copyS_yes {xs : List PMsg} {i : Int} (h : inS xs i = true) (h2 : xs.length < 2000) : copyB xs i = true ∧ copyS xs i = xs ++ [plP (xs.getD i.toNat zeroM)] := by
  have e : copyB xs i = true := by unfold copyB; rw [h, decide_eq_true h2]; rfl
  exact ⟨e, if_pos e⟩
theorem copyS_no {xs : List PMsg} {i : Int} (h : inS xs i = false ∨ ¬ xs.length < 2000) : copyB xs i = false ∧ copyS xs i = xs := by
  have e : copyB xs i = false := by
    unfold copyB
    rcases h with h | h
    · rw [h]; rfl
    · rw [decide_eq_false h, Bool.and_false]
  exact ⟨e, if_neg (by rw [e]; decide)⟩
theorem inS_yes {xs : List PMsg} {i : Int} (h : inS xs i = true) : 0 ≤ i ∧ i < xs.length := of_decide_eq_true h
theorem inS_no {xs : List PMsg} {i : Int} (h : inS xs i = false) : ¬ (0 ≤ i ∧ i < xs.length) := of_decide_eq_false h
theorem take_map_all (L : List MsgT) : (L.map pMsg).take L.length = L.map pMsg := List.take_of_length_le (by simp)

/-! ### What is sent -/
abbrev NS := List PMsg × Int × Nat
def sendX (s : NS) (x : PMsg) : NS := if encE x = 0 ∧ s.1.length < 2000 then (s.1 ++ [plP x], s.2.1, s.2.2 + 1) else (s.1, s.2.1 + 1, s.2.2)
def sendS (l : List PMsg) (s : NS) : NS := l.foldl sendX s
theorem sendS_step {l : List PMsg} {k : Nat} {x : PMsg} {s : NS} (h : l[k]? = some x) : sendS (l.take (k + 1)) s = sendX (sendS (l.take k) s) x := by
  unfold sendS; rw [List.take_add_one, h, List.foldl_append]; rfl
theorem sendX_yes {s : NS} {x : PMsg} (h : encE x = 0) (h2 : s.1.length < 2000) : sendX s x = (s.1 ++ [plP x], s.2.1, s.2.2 + 1) := if_pos ⟨h, h2⟩
theorem sendX_no1 {s : NS} {x : PMsg} (h : ¬ encE x = 0) : sendX s x = (s.1, s.2.1 + 1, s.2.2) := if_neg fun h2 => h h2.1
theorem sendX_no2 {s : NS} {x : PMsg} (h : ¬ s.1.length < 2000) : sendX s x = (s.1, s.2.1 + 1, s.2.2) := if_neg fun h2 => h h2.2
theorem sendS_in : ∀ (l : List PMsg) (s : NS), s.2.1 ≤ (sendS l s).2.1 ∧ (sendS l s).2.1 ≤ s.2.1 + l.length ∧ (sendS l s).2.2 ≤ s.2.2 + l.length
  | [], s => ⟨Int.le_refl _, by simp [sendS], by simp [sendS]⟩
  | x :: l, s => by
    obtain ⟨h1, h2, h3⟩ := sendS_in l (sendX s x)
    change _ ≤ (sendS (x :: l) s).2.1 at h1
    change (sendS (x :: l) s).2.1 ≤ _ at h2
    change (sendS (x :: l) s).2.2 ≤ _ at h3
    simp only [List.length_cons]
    have e : sendX s x = (s.1 ++ [plP x], s.2.1, s.2.2 + 1) ∨ sendX s x = (s.1, s.2.1 + 1, s.2.2) := by unfold sendX; split; exact .inl rfl; exact .inr rfl
    rcases e with e | e <;> rw [e] at h1 h2 h3 <;> dsimp only at h1 h2 h3 <;> omega
/-! ### The messages that the statements send -/
def msgX (n : Int) : MsgT := (4, 0, 1, n, 0, [107], 0, (none, 0, []), (none, 0, []), (none, 0, []), ())
theorem msgX_at (w : World) (n : Int) : MsgV w (msgX n) := ⟨EntsAt.nil w, DigsAt.nil w, DotsAt.nil w⟩
theorem msgsX {w : World} {q : Option Addr} {c : Nat} {l : List Int} (h : SlAt w q (l.map msgX).length 10 ((l.map msgX).flatMap msgC)) : MsgsAt w (q, c, l.map msgX) := ⟨h, fun m hm => by
  obtain ⟨n, _, rfl⟩ := List.mem_map.1 hm
  exact msgX_at w n⟩
def mX1 (n : Int) : PMsg := ⟨4, 0, 1, n, 0, [107], 0, [], [], []⟩
theorem mX1_eq (n : Int) : pMsg (msgX n) = mX1 n := rfl
theorem has4 : hasP 0 4 = true ∧ hasP 1 4 = false ∧ hasP 2 4 = true ∧ hasP 3 4 = false ∧ hasP 4 4 = false ∧ hasP 5 4 = false ∧ hasP 6 4 = false := by decide
theorem mX1_pl (n : Int) : plP (mX1 n) = mX1 n := by
  obtain ⟨e0, e1, e2, e3, e4, e5, e6⟩ := has4
  simp only [plP, mX1, e0, e1, e2, e3, e4, e5, e6, plI, plB, plL]
theorem mX1_may {n : Int} (h : 0 ≤ n ∧ n ≤ 1099511627776) : mayM (mX1 n) = true := by
  unfold mayM
  rw [mX1_pl]
  have e4 : ¬ hasP 4 4 = true := by decide
  have ok : okM (mX1 n) := by
    unfold okM mX1
    dsimp only
    exact ⟨by decide, ⟨by decide, by decide⟩, ⟨by decide, by decide⟩, h, ⟨by decide, by decide⟩, ⟨by decide, by decide⟩, by decide, (fun _ => by decide), (fun h4 => absurd h4 e4), by decide, by decide⟩
  rw [mayPl_ok ok]
  rfl
theorem wputs_fits {most : Int} : ∀ (l : List (List UInt8)) (s : WS), s.2 = false → ((s.1.length + l.flatten.length : Nat) : Int) ≤ most → (wputs most s l).2 = false
  | [], s, h, _ => h
  | b :: l, s, h, h2 => by
    rw [List.flatten_cons, List.length_append] at h2
    rw [wputs_cons, wput_yes h (by omega)]
    refine wputs_fits l _ rfl ?_
    rw [List.length_append]; omega
theorem enc_fits {x : PMsg} (h : mayM x = true) (h2 : (msgW x).flatten.length ≤ 60000) : encE x = 0 := by
  rw [encE_yes h]
  unfold doneE encS
  rw [wputs_fits (msgW x) ([], false) rfl (by show ((0 + (msgW x).flatten.length : Nat) : Int) ≤ _; omega)]; rfl
theorem mX1_enc {n : Int} (h : 0 ≤ n ∧ n ≤ 1099511627776) : encE (mX1 n) = 0 := by
  refine enc_fits (mX1_may h) ?_
  have h1 := numB_10 (zz_lt (n := n) (by omega))
  have e : (msgW (mX1 n)).flatten = [4, 0, 1] ++ (numB (zz n) ++ [1, 107]) := by
    obtain ⟨e0, e1, e2, e3, e4, e5, e6⟩ := has4
    simp [msgW, mX1, e0, e1, e2, e3, e4, e5, e6, plW, textB, numB_lt]
  rw [e]; simp; omega
theorem aw_send : sendS ([msgX 1, msgX 2].map pMsg) ([], 0, 0) = ([mX1 1, mX1 2], 0, 2) := by
  show sendX (sendX ([], 0, 0) (mX1 1)) (mX1 2) = _
  have h1 : sendX ([], 0, 0) (mX1 1) = ([mX1 1], 0, 1) := by rw [sendX_yes (mX1_enc (by omega)) (by decide), mX1_pl]; rfl
  rw [h1, sendX_yes (mX1_enc (by omega)) (by show 1 < 2000; omega), mX1_pl]; rfl
theorem aw_copy : copyB [mX1 1, mX1 2] 0 = true ∧ copyS [mX1 1, mX1 2] 0 = [mX1 1, mX1 2, mX1 1] := by
  obtain ⟨h1, h2⟩ := copyS_yes (xs := [mX1 1, mX1 2]) (i := 0) (by rfl) (by decide)
  refine ⟨h1, h2.trans ?_⟩
  show [mX1 1, mX1 2] ++ [plP (mX1 1)] = _
  rw [mX1_pl]; rfl
def upto (k : Nat) : List Int := (List.range k).map fun j : Nat => (j : Int)
theorem upto_succ (k : Nat) : upto (k + 1) = upto k ++ [(k : Int)] := by unfold upto; rw [List.range_succ, List.map_append]; rfl
theorem upto_len (k : Nat) : (upto k).length = k := by unfold upto; rw [List.length_map, List.length_range]
theorem upto_in {k : Nat} {n : Int} (h : n ∈ upto k) : 0 ≤ n ∧ n < k := by
  unfold upto at h
  obtain ⟨j, hj, rfl⟩ := List.mem_map.1 h
  have := List.mem_range.1 hj
  omega
theorem send_all : ∀ (l : List PMsg) (s : NS), (∀ x ∈ l, encE x = 0 ∧ plP x = x) → s.1.length ≤ 2000 → sendS l s = (s.1 ++ l.take (2000 - s.1.length), s.2.1 + ((l.length - (2000 - s.1.length) : Nat) : Int), s.2.2 + min l.length (2000 - s.1.length))
  | [], s, _, _ => by simp [sendS]
  | x :: l, s, h, hs => by
    obtain ⟨h1, h2⟩ := h x (by simp)
    have h3 := fun y hy => h y (List.mem_cons_of_mem x hy)
    show sendS l (sendX s x) = _
    by_cases hc : s.1.length < 2000
    · rw [sendX_yes h1 hc, h2, send_all l _ h3 (by simp; omega)]
      have e : 2000 - s.1.length = (2000 - (s.1.length + 1)) + 1 := by omega
      simp only [List.length_append, List.length_cons, List.length_nil, Nat.zero_add, List.append_assoc, e, List.take_succ_cons, List.singleton_append]
      congr 1
      congr 1
      · omega
      · omega
    · rw [sendX_no2 hc, send_all l (s.1, s.2.1 + 1, s.2.2) h3 hs]
      have e : 2000 - s.1.length = 0 := by omega
      simp only [e, List.take_zero, List.append_nil, List.length_cons, Nat.sub_zero, Nat.min_zero, Nat.add_zero]
      congr 1
      congr 1
      omega
theorem upto_ok {k : Nat} (hk : k ≤ 100000) : ∀ x ∈ (upto k).map mX1, encE x = 0 ∧ plP x = x := fun x hx => by
  obtain ⟨n, hn, rfl⟩ := List.mem_map.1 hx
  have := upto_in hn
  exact ⟨mX1_enc (by omega), mX1_pl n⟩
theorem send_upto {k : Nat} (hk : k ≤ 100000) : sendS (((upto k).map msgX).map pMsg) ([], 0, 0) = (((upto k).map mX1).take 2000, ((k - 2000 : Nat) : Int), min k 2000) := by
  have e : ((upto k).map msgX).map pMsg = (upto k).map mX1 := by rw [List.map_map]; rfl
  rw [e, send_all _ _ (upto_ok hk) (Nat.zero_le _)]
  simp [upto_len]
theorem copy_upto {k : Nat} (hk : 0 < k) : copyB (((upto k).map mX1).take 2000) 0 = decide ((k : Int) < 2000) := by
  have hl : (((upto k).map mX1).take 2000).length = min 2000 k := by rw [List.length_take, List.length_map, upto_len]
  unfold copyB inS
  rw [hl, decide_eq_true (show (0 : Int) ≤ 0 ∧ (0 : Int) < ((min 2000 k : Nat) : Int) by omega), Bool.true_and]
  exact decide_eq_decide.2 (by omega)
theorem wrap_tmod2 (x m base : Int) (hm : 0 < m ∧ m ≤ 1000) (hb : 0 ≤ base ∧ base ≤ 100000) : ∃ n : Nat, base ≤ n ∧ (n : Int) < base + m ∧ IntKind.i64.wrap (base + IntKind.i64.wrap ((IntKind.u64.wrap x).tmod m)) = (n : Int) := by
  have h1 : (IntKind.u64.wrap x).tmod m = (x % 18446744073709551616) % m := by rw [wrapP]; exact Int.tmod_eq_emod_of_nonneg (by omega)
  have h2 := Int.emod_nonneg (x % 18446744073709551616) (show m ≠ 0 by omega)
  have h3 := Int.emod_lt_of_pos (x % 18446744073709551616) hm.1
  have h4 : IntKind.i64.wrap (x % 18446744073709551616 % m) = x % 18446744073709551616 % m := Go.IntWalk.i64_in _ (by omega)
  rw [h1, h4, Go.IntWalk.i64_in _ (by omega)]
  exact ⟨(base + x % 18446744073709551616 % m).toNat, by omega, by omega, by omega⟩
theorem wrap_tmod0 (x m : Int) (hm : 0 < m ∧ m ≤ 1000) : ∃ n : Nat, (n : Int) < m ∧ IntKind.i64.wrap ((IntKind.u64.wrap x).tmod m) = (n : Int) := by
  have h1 : (IntKind.u64.wrap x).tmod m = (x % 18446744073709551616) % m := by rw [wrapP]; exact Int.tmod_eq_emod_of_nonneg (by omega)
  have h2 := Int.emod_nonneg (x % 18446744073709551616) (show m ≠ 0 by omega)
  have h3 := Int.emod_lt_of_pos (x % 18446744073709551616) hm.1
  have h4 : IntKind.i64.wrap (x % 18446744073709551616 % m) = x % 18446744073709551616 % m := Go.IntWalk.i64_in _ (by omega)
  rw [h1, h4]
  exact ⟨(x % 18446744073709551616 % m).toNat, by omega, by omega⟩
end Go.Sl
