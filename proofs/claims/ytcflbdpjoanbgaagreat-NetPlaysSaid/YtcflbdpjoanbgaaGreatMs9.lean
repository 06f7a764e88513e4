/-
  Messages that are written are read as they were.
  Conditions: none; it speaks of every program of the model.
-/
import Derived.Test.YtcflbdpjoanbgaaGreatMs8
namespace Go.Sl
open Go
set_option linter.unusedSimpArgs false
set_option linter.unusedVariables false

/-- f reads, as v tells it, what g writes. -/
def RB {α β : Type} (f : RS → β × RS) (g : α → List UInt8) (v : α → β) (ok : α → Prop) : Prop := ∀ a r, ok a → f (g a ++ r, 0) = (v a, r, 0)
theorem rb_many {α β : Type} {f : RS → β × RS} {g : α → List UInt8} {v : α → β} {ok : α → Prop} (h : RB f g v ok) : ∀ (n : Nat) (l : List α) (r : List UInt8), l.length = n → (∀ a ∈ l, ok a) → rMany f n (l.flatMap g ++ r, 0) = (l.map v, r, 0)
  | 0, l, r, hl, _ => by rw [List.eq_nil_of_length_eq_zero hl]; rfl
  | n + 1, l, r, hl, ho => by
    have hne : l ≠ [] := fun e => by rw [e] at hl; cases hl
    obtain ⟨m, a, rfl⟩ : ∃ m a, l = m ++ [a] := ⟨l.dropLast, l.getLast hne, (List.dropLast_concat_getLast hne).symm⟩
    have h1 := rb_many h n m (g a ++ r) (by simpa using hl) (fun x hx => ho x (by simp [hx]))
    rw [List.flatMap_append, List.flatMap_cons, List.flatMap_nil, List.append_nil, List.append_assoc]
    show ((rMany f n (m.flatMap g ++ (g a ++ r), 0)).1 ++ [(f (rMany f n (m.flatMap g ++ (g a ++ r), 0)).2).1], (f (rMany f n (m.flatMap g ++ (g a ++ r), 0)).2).2) = _
    rw [h1]
    show (m.map v ++ [(f (g a ++ r, 0)).1], (f (g a ++ r, 0)).2) = _
    rw [h a r (ho a (by simp))]
    simp
theorem rb_manyC {α β : Type} {c : Int} {f : RS → β × RS} {g : α → List UInt8} {v : α → β} {ok : α → Prop} (hc : 0 ≤ c ∧ c ≤ 1000000) (h : RB f g v ok) : RB (manyC c f) (fun l : List α => numB l.length ++ l.flatMap g) (fun l => l.map v) (fun l => l.length ≤ c ∧ ∀ a ∈ l, ok a) := fun l r hl => by
  unfold manyC
  rw [List.append_assoc, rCount_numB _ (by have := hl.1; omega) (by have := hl.1; omega)]
  exact rb_many h _ l r rfl hl.2
theorem rb_int : RB rInt (fun n : Int => numB (zz n)) (fun n => n) (fun n => -9223372036854775808 ≤ n ∧ n ≤ 9223372036854775807) := fun n r h => rInt_numB r h
theorem rb_num : RB rNum (fun n : Int => numB n.toNat) (fun n => n.toNat) (fun n => 0 ≤ n ∧ n ≤ 9223372036854775807) := fun n r h => rNum_numB r (by omega)
theorem rb_text (c : Int) (hc : 0 ≤ c ∧ c ≤ 1000000) : RB (rText c) textB (fun t => t) (fun t => t.length ≤ c) := fun t r h => rText_textB r (by omega) (by omega)
theorem rb_vec : RB rVec (fun v => (vecW v).flatten) (fun v => v) okVc := fun v r h => by
  have e0 : (vecW v).flatten = v.flatMap fun n => numB (zz n) := by unfold vecW; rw [List.flatMap_def]
  show rVec ((vecW v).flatten ++ r, 0) = _
  rw [e0]
  have := rb_many rb_int 8 v r h.1 h.2
  rw [List.map_id'] at this
  exact this
theorem rb_dot : RB rDot (fun d => (dotW d).flatten) (fun d => d) okD := fun d r h => by
  show rDot ((dotW d).flatten ++ r, 0) = _
  simp only [dotW, List.flatten_cons, List.flatten_nil, List.append_nil, List.append_assoc]
  unfold rDot
  rw [rNum_numB _ (by have := h.1; omega)]
  dsimp only
  rw [rInt_numB _ h.2, Int.toNat_of_nonneg h.1.1]
theorem rb_val : RB rVal (fun v => (valW v).flatten) (fun v => v) (fun v => okD v.1 ∧ v.2.1.length ≤ 200) := fun v r h => by
  obtain ⟨d, t, b⟩ := v
  have e : (valW (d, t, b)).flatten ++ r = (dotW d).flatten ++ (flagB b ++ (textB t ++ r)) := by simp [valW, dotW, List.append_assoc]
  show rVal ((valW (d, t, b)).flatten ++ r, 0) = _
  rw [e]
  unfold rVal
  rw [rb_dot d _ h.1]
  dsimp only
  rw [rFlag_flagB]
  dsimp only
  rw [rb_text 200 (by omega) t r (by have := h.2; dsimp only at this; omega)]
theorem sib_read {s : RS} {v : List Int} {l : List PVal} {r : List UInt8} (hs : s = ((sibW (v, l)).flatten ++ r, 0)) (h8 : v.length = 8) (h : maySib (v, l) = true) : sibOk s = true ∧ sibV s = (v, l) ∧ (sibL s).2 = (r, 0) := by
  obtain ⟨hv, hl, hr⟩ := maySib_and h
  have e : (sibW (v, l)).flatten ++ r = (vecW v).flatten ++ (numB l.length ++ (l.flatMap (fun x => (valW x).flatten) ++ r)) := by simp [sibW, flatten_flat, List.append_assoc]
  rw [e] at hs
  have h1 : rVec s = (v, numB l.length ++ (l.flatMap (fun x => (valW x).flatten) ++ r), 0) := by rw [hs]; exact rb_vec v _ (okVc_of h8 hv)
  have h2 : sibN s = (l.length, l.flatMap (fun x => (valW x).flatten) ++ r, 0) := by unfold sibN; rw [h1]; exact rCount_numB _ (by omega) (by omega)
  have h3 : sibL s = (l, r, 0) := by
    unfold sibL; rw [h2]
    have := rb_many rb_val l.length l r rfl (fun x hx => by
      obtain ⟨i, hi⟩ := List.mem_iff_getElem?.1 hx
      have h1 := okAt_in hv hr hi
      exact ⟨⟨by omega, by omega⟩, h1.2⟩)
    rw [List.map_id'] at this; exact this
  have h4 : sibOk s = true := by unfold sibOk; rw [h3, h1]; simp [h]
  exact ⟨h4, by rw [sibV_yes h4, h1, h3], by rw [h3]⟩
theorem rb_ent : RB rEnt (fun e => (entW e).flatten) (fun e => (e, true)) (fun e => e.2.1.length = 8 ∧ mayEnt e = true) := fun x r h => by
  obtain ⟨k, v, l⟩ := x
  obtain ⟨hk, hs⟩ := mayEnt_and h.2
  have := mayKey_in hk
  have e : (entW (k, v, l)).flatten ++ r = textB k ++ ((sibW (v, l)).flatten ++ r) := by simp [entW, List.append_assoc]
  have h1 : rText 32 ((entW (k, v, l)).flatten ++ r, 0) = (k, (sibW (v, l)).flatten ++ r, 0) := by rw [e]; exact rb_text 32 (by omega) k _ (by omega)
  obtain ⟨a1, a2, a3⟩ := sib_read (s := (rText 32 ((entW (k, v, l)).flatten ++ r, 0)).2) (r := r) (by rw [h1]) h.1 hs
  have h2 : entOk ((entW (k, v, l)).flatten ++ r, 0) = true := by unfold entOk; rw [a1, a2, h1]; exact h.2
  show rEnt ((entW (k, v, l)).flatten ++ r, 0) = _
  unfold rEnt
  rw [entV_yes h2, h2, a3, a2, h1]
theorem rb_dig : RB rDig (fun e => (digW e).flatten) (fun e => (e, true)) (fun e => e.2.1.length = 8 ∧ mayDig e = true) := fun x r h => by
  obtain ⟨k, v, l⟩ := x
  obtain ⟨hk, hv, hl, hr⟩ := mayDig_and h.2
  have := mayKey_in hk
  have e : (digW (k, v, l)).flatten ++ r = textB k ++ ((vecW v).flatten ++ (numB l.length ++ (l.flatMap (fun x => (dotW x).flatten) ++ r))) := by simp [digW, flatten_flat, List.append_assoc]
  have h1 : rText 32 ((digW (k, v, l)).flatten ++ r, 0) = (k, (vecW v).flatten ++ (numB l.length ++ (l.flatMap (fun x => (dotW x).flatten) ++ r)), 0) := by rw [e]; exact rb_text 32 (by omega) k _ (by omega)
  have h2 : rVec (rText 32 ((digW (k, v, l)).flatten ++ r, 0)).2 = (v, numB l.length ++ (l.flatMap (fun x => (dotW x).flatten) ++ r), 0) := by rw [h1]; exact rb_vec v _ (okVc_of h.1 hv)
  have h3 : digN ((digW (k, v, l)).flatten ++ r, 0) = (l.length, l.flatMap (fun x => (dotW x).flatten) ++ r, 0) := by unfold digN; rw [h2]; exact rCount_numB _ (by omega) (by omega)
  have h4 : digL ((digW (k, v, l)).flatten ++ r, 0) = (l, r, 0) := by
    unfold digL; rw [h3]
    have := rb_many rb_dot l.length l r rfl (fun x hx => by
      obtain ⟨i, hi⟩ := List.mem_iff_getElem?.1 hx
      have h1 := dotAt_in hv hr hi
      exact ⟨by omega, by omega⟩)
    rw [List.map_id'] at this; exact this
  have h5 : digOk ((digW (k, v, l)).flatten ++ r, 0) = true := by unfold digOk; rw [h4, h2, h1]; simp [h.2]
  show rDig ((digW (k, v, l)).flatten ++ r, 0) = _
  unfold rDig
  rw [digV_yes h5, h5, h4, h2, h1]
theorem opt_read {α β : Type} {f : RS → β × RS} {c : α → List (List UInt8)} {v : α → β} {ok : α → Prop} {d : β} {b : Bool} {x : α} {r : List UInt8} (h : RB f (fun a => (c a).flatten) v ok) (h1 : b = true → ok x) : opt b f d ((plW b (c x)).flatten ++ r, 0) = (cond b (v x) d, r, 0) := by
  cases b with
  | true => exact h x r (h1 rfl)
  | false => rfl
theorem allOk_map {α : Type} (l : List α) : allOk (l.map fun x => (x, true)) = true := by unfold allOk; rw [List.all_map, List.all_eq_true]; exact fun _ _ => rfl
theorem fstOk_map {α : Type} (l : List α) : fstOk (l.map fun x => (x, true)) = l := by unfold fstOk; rw [List.map_map]; exact List.map_id' l
/-- What a message that may be has, where its kind has it. -/
theorem mayM_has2 {x : PMsg} (h : mayM x = true) (h8 : vec8 x) : (hasP 4 x.kind = true → (x.ents.length : Int) ≤ 256 ∧ ∀ e ∈ x.ents, e.2.1.length = 8 ∧ mayEnt e = true) ∧ (hasP 5 x.kind = true → (x.digs.length : Int) ≤ 256 ∧ ∀ e ∈ x.digs, e.2.1.length = 8 ∧ mayDig e = true) := by
  obtain ⟨⟨h1, h2, h3, h4, h5, h6, h7, hk, h9, h10, h11⟩, he, hd, hm⟩ := mayM_and h
  dsimp only [plP] at h1 h2 h3 h4 h5 h6 h7 hk h9 h10 h11 he hd hm
  refine ⟨fun hb => ?_, fun hb => ?_⟩
  · have h9' := (h9 hb).2
    have := mostP_le x.kind
    rw [hb] at h9' he
    dsimp only [plL] at h9' he
    exact ⟨by omega, fun e hx => ⟨h8.1 e hx, List.all_eq_true.1 he e hx⟩⟩
  · rw [hb] at h10 hd
    dsimp only [plL] at h10 hd
    exact ⟨by omega, fun e hx => ⟨h8.2 e hx, List.all_eq_true.1 hd e hx⟩⟩
theorem msg_read {x : PMsg} (h : mayM x = true) (h8 : vec8 x) : decOk ((msgW x).flatten, 0) = true ∧ mMsgX ((msgW x).flatten, 0) = plP x := by
  obtain ⟨hk, hf, ht, h0, h1, h2, h3, h4, h5, h6⟩ := mayM_has h h8
  obtain ⟨g4, g5⟩ := mayM_has2 h h8
  obtain ⟨s, hs⟩ : ∃ s : RS, s = ((msgW x).flatten, 0) := ⟨_, rfl⟩
  rw [← hs]
  have P0 : RB rInt (fun n : Int => ([numB (zz n)] : List (List UInt8)).flatten) (fun n => n) (fun n => -9223372036854775808 ≤ n ∧ n ≤ 9223372036854775807) := by simpa using rb_int
  have P1 : RB rNum (fun n : Int => ([numB n.toNat] : List (List UInt8)).flatten) (fun n => n.toNat) (fun n => 0 ≤ n ∧ n ≤ 9223372036854775807) := by simpa using rb_num
  have P2 : RB (rText 32) (fun n : List UInt8 => ([textB n] : List (List UInt8)).flatten) (fun t => t) (fun t => t.length ≤ (32 : Int)) := by simpa using rb_text 32 (by omega)
  have P4 : RB (manyC 256 rEnt) (fun l : List PEnt => (numB l.length :: l.flatMap entW).flatten) (fun l => l.map fun e => (e, true)) (fun l => l.length ≤ (256 : Int) ∧ ∀ e ∈ l, e.2.1.length = 8 ∧ mayEnt e = true) := by simpa only [List.flatten_cons, flatten_flat] using rb_manyC (by omega) rb_ent
  have P5 : RB (manyC 256 rDig) (fun l : List PDig => (numB l.length :: l.flatMap digW).flatten) (fun l => l.map fun e => (e, true)) (fun l => l.length ≤ (256 : Int) ∧ ∀ e ∈ l, e.2.1.length = 8 ∧ mayDig e = true) := by simpa only [List.flatten_cons, flatten_flat] using rb_manyC (by omega) rb_dig
  have P6 : RB (manyC 8 rDot) (fun l : List PDot => (numB l.length :: l.flatMap dotW).flatten) (fun l => l.map fun e => e) (fun l => l.length ≤ (8 : Int) ∧ ∀ e ∈ l, okD e) := by simpa only [List.flatten_cons, flatten_flat] using rb_manyC (by omega) rb_dot
  obtain ⟨A6, a6⟩ : ∃ A : List UInt8, A = (plW (hasP 6 x.kind) (numB x.mems.length :: x.mems.flatMap dotW)).flatten ++ [] := ⟨_, rfl⟩
  obtain ⟨A5, a5⟩ : ∃ A : List UInt8, A = (plW (hasP 5 x.kind) (numB x.digs.length :: x.digs.flatMap digW)).flatten ++ A6 := ⟨_, rfl⟩
  obtain ⟨A4, a4⟩ : ∃ A : List UInt8, A = (plW (hasP 4 x.kind) (numB x.ents.length :: x.ents.flatMap entW)).flatten ++ A5 := ⟨_, rfl⟩
  obtain ⟨A3, a3⟩ : ∃ A : List UInt8, A = (plW (hasP 3 x.kind) [numB x.bucket.toNat]).flatten ++ A4 := ⟨_, rfl⟩
  obtain ⟨A2, a2⟩ : ∃ A : List UInt8, A = (plW (hasP 2 x.kind) [textB x.key]).flatten ++ A3 := ⟨_, rfl⟩
  obtain ⟨A1, a1⟩ : ∃ A : List UInt8, A = (plW (hasP 1 x.kind) [numB x.for'.toNat]).flatten ++ A2 := ⟨_, rfl⟩
  obtain ⟨A0, a0⟩ : ∃ A : List UInt8, A = (plW (hasP 0 x.kind) [numB (zz x.op)]).flatten ++ A1 := ⟨_, rfl⟩
  have es : (msgW x).flatten = numB x.kind.toNat ++ (numB x.from'.toNat ++ (numB x.to.toNat ++ A0)) := by rw [a0, a1, a2, a3, a4, a5, a6]; unfold msgW; simp only [List.flatten_append, List.flatten_cons, List.flatten_nil, List.append_nil, List.append_assoc]
  rw [es] at hs
  have n1 : rNum s = (x.kind.toNat, numB x.from'.toNat ++ (numB x.to.toNat ++ A0), 0) := by rw [hs]; exact rNum_numB _ (by omega)
  have hK : mK s = x.kind := by unfold mK; rw [n1]; exact Int.toNat_of_nonneg (by omega)
  have n2 : rNum (m1 s) = (x.from'.toNat, numB x.to.toNat ++ A0, 0) := by unfold m1; rw [n1]; exact rNum_numB _ (by omega)
  have n3 : rNum (m2 s) = (x.to.toNat, A0, 0) := by unfold m2; rw [n2]; exact rNum_numB _ (by omega)
  have hh : ∀ i, mh i s = hasP i x.kind := fun i => by unfold mh; rw [hK]
  have o0 := fun r => opt_read (d := 0) (r := r) P0 (b := hasP 0 x.kind) (x := x.op) (fun hb => by have := h0 hb; omega)
  have o1 := fun r => opt_read (d := 0) (r := r) P1 (b := hasP 1 x.kind) (x := x.for') (fun hb => by have := h1 hb; omega)
  have o2 := fun r => opt_read (d := []) (r := r) P2 (b := hasP 2 x.kind) (x := x.key) (fun hb => by have := h2 hb; omega)
  have o3 := fun r => opt_read (d := 0) (r := r) P1 (b := hasP 3 x.kind) (x := x.bucket) (fun hb => by have := h3 hb; omega)
  have o4 := fun r => opt_read (d := []) (r := r) P4 (b := hasP 4 x.kind) (x := x.ents) g4
  have o5 := fun r => opt_read (d := []) (r := r) P5 (b := hasP 5 x.kind) (x := x.digs) g5
  have o6 := fun r => opt_read (d := []) (r := r) P6 (b := hasP 6 x.kind) (x := x.mems) (fun hb => ⟨by have := (h6 hb).1; omega, (h6 hb).2⟩)
  have q0 := Eq.trans (a := mO s) (by unfold mO m3; rw [hh, n3, a0]) (o0 A1)
  have q1 := Eq.trans (a := mR s) (by unfold mR; rw [hh, q0, a1]) (o1 A2)
  have q2 := Eq.trans (a := mY s) (by unfold mY; rw [hh, q1, a2]) (o2 A3)
  have q3 := Eq.trans (a := mB s) (by unfold mB; rw [hh, q2, a3]) (o3 A4)
  have q4 := Eq.trans (a := mE s) (by unfold mE; rw [hh, q3, a4]) (o4 A5)
  have q5 := Eq.trans (a := mD s) (by unfold mD; rw [hh, q4, a5]) (o5 A6)
  have q6 := Eq.trans (a := mX s) (by unfold mX; rw [hh, q5, a6]) (o6 [])
  have em : mMsgX s = plP x := by
    unfold mMsgX plP
    rw [hK, n2, n3, q0, q1, q2, q3, q4, q5, q6]
    dsimp only
    congr 1
    · omega
    · omega
    · cases hasP 0 x.kind <;> rfl
    · cases hb : hasP 1 x.kind
      · rfl
      · have := h1 hb; show ((x.for'.toNat : Nat) : Int) = x.for'; omega
    · cases hasP 2 x.kind <;> rfl
    · cases hb : hasP 3 x.kind
      · rfl
      · have := h3 hb; show ((x.bucket.toNat : Nat) : Int) = x.bucket; omega
    · cases hasP 4 x.kind
      · rfl
      · exact fstOk_map _
    · cases hasP 5 x.kind
      · rfl
      · exact fstOk_map _
    · cases hasP 6 x.kind
      · rfl
      · exact List.map_id' _
  refine ⟨decOk_yes ?_ ?_ ?_ ?_, em⟩
  · rw [← mX_state, q6]; rfl
  · rw [q4]; dsimp only; cases hasP 4 x.kind
    · rfl
    · exact allOk_map _
  · rw [q5]; dsimp only; cases hasP 5 x.kind
    · rfl
    · exact allOk_map _
  · rw [em]; unfold mayM; rw [plP_plP]; exact h
/-- What is sent is told. -/
theorem dec_enc {x : PMsg} (h : encE x = 0) (h8 : vec8 x) : ansE (encB x) = 0 ∧ ansV (encB x) = plP x ∧ (encB x).length ≤ 60000 := by
  obtain ⟨hm, e⟩ := enc_flat h
  have hl : (encB x).length ≤ 60000 := by
    have h1 := wputs_len (most := 60000) (msgW x) (s := ([], false)) (by show ((0 : Nat) : Int) ≤ _; omega)
    rw [encB_yes hm]
    unfold doneB encS
    split
    · exact Nat.zero_le _
    · omega
  obtain ⟨h1, h2⟩ := msg_read hm h8
  rw [← e] at h1 h2
  obtain ⟨h3, h4⟩ := dec_good (bs := encB x) (by omega) h1
  exact ⟨h3, by rw [h4, h2], hl⟩
end Go.Sl
