/-
  Messages as bytes: unlike messages have unlike bytes.
  Conditions: none; it speaks of every program of the model.
-/
import Derived.Test.YtcflbdpjoanbgaaGreatMs3
namespace Go.Sl
open Go
set_option linter.unusedSimpArgs false
set_option linter.unusedVariables false

/-- What f writes tells what was written, and where it ends. -/
def Pfx {α : Type} (f : α → List UInt8) (ok : α → Prop) : Prop := ∀ a b r s, ok a → ok b → f a ++ r = f b ++ s → a = b ∧ r = s
theorem Pfx.mono {α : Type} {f : α → List UInt8} {ok ok' : α → Prop} (h : Pfx f ok) (hk : ∀ a, ok' a → ok a) : Pfx f ok' := fun a b r s h1 h2 => h a b r s (hk a h1) (hk b h2)
theorem pfx_num : Pfx numB (fun n => n < 18446744073709551616) := fun a b r s h1 h2 e => by
  have e1 := rNum_numB r h1
  rw [e, rNum_numB s h2] at e1
  exact ⟨(congrArg Prod.fst e1).symm, (congrArg (fun x => x.2.1) e1).symm⟩
theorem Pfx.comp {α β : Type} {f : α → List UInt8} {ok : α → Prop} (h : Pfx f ok) (g : β → α) {ok' : β → Prop} (hk : ∀ b, ok' b → ok (g b)) (hi : ∀ a b, ok' a → ok' b → g a = g b → a = b) : Pfx (fun b => f (g b)) ok' := fun a b r s h1 h2 e => by
  obtain ⟨e1, e2⟩ := h (g a) (g b) r s (hk a h1) (hk b h2) e
  exact ⟨hi a b h1 h2 e1, e2⟩
theorem pfx_zz : Pfx (fun n : Int => numB (zz n)) (fun n => -9223372036854775808 ≤ n ∧ n ≤ 9223372036854775807) := pfx_num.comp zz (fun _ h => zz_lt h) (fun a b _ _ e => by rw [← unzz_zz a, e, unzz_zz])
theorem pfx_int : Pfx (fun n : Int => numB n.toNat) (fun n => 0 ≤ n ∧ n ≤ 9223372036854775807) := pfx_num.comp Int.toNat (fun _ h => by omega) (fun a b h1 h2 e => by omega)
theorem pfx_text : Pfx textB (fun t => t.length ≤ 9223372036854775807) := fun a b r s h1 h2 e => by
  have e1 := rText_textB (t := a) (most := 9223372036854775807) r (by omega) (by omega)
  rw [e, rText_textB (t := b) (most := 9223372036854775807) s (by omega) (by omega)] at e1
  exact ⟨(congrArg Prod.fst e1).symm, (congrArg (fun x => x.2.1) e1).symm⟩
theorem pfx_flag : Pfx flagB (fun _ => True) := fun a b r s _ _ e => by
  cases a <;> cases b <;> simp_all [flagB]
theorem pfx_pair {α β : Type} {f : α → List UInt8} {g : β → List UInt8} {ok : α → Prop} {ok' : β → Prop} (h : Pfx f ok) (h' : Pfx g ok') : Pfx (fun x : α × β => f x.1 ++ g x.2) (fun x => ok x.1 ∧ ok' x.2) := fun a b r s h1 h2 e => by
  rw [List.append_assoc, List.append_assoc] at e
  obtain ⟨e1, e2⟩ := h _ _ _ _ h1.1 h2.1 e
  obtain ⟨e3, e4⟩ := h' _ _ _ _ h1.2 h2.2 e2
  exact ⟨Prod.ext e1 e3, e4⟩
theorem flat_pfx {α : Type} {f : α → List UInt8} {ok : α → Prop} (h : Pfx f ok) : ∀ (l m : List α) (r s : List UInt8), l.length = m.length → (∀ a ∈ l, ok a) → (∀ a ∈ m, ok a) → l.flatMap f ++ r = m.flatMap f ++ s → l = m ∧ r = s
  | [], [], r, s, _, _, _, e => ⟨rfl, by simpa using e⟩
  | a :: l, b :: m, r, s, hl, h1, h2, e => by
    rw [List.flatMap_cons, List.flatMap_cons, List.append_assoc, List.append_assoc] at e
    obtain ⟨e1, e2⟩ := h a b _ _ (h1 a (by simp)) (h2 b (by simp)) e
    obtain ⟨e3, e4⟩ := flat_pfx h l m r s (by simpa using hl) (fun x hx => h1 x (by simp [hx])) (fun x hx => h2 x (by simp [hx])) e2
    exact ⟨by rw [e1, e3], e4⟩
theorem pfx_list {α : Type} {f : α → List UInt8} {ok : α → Prop} (h : Pfx f ok) : Pfx (fun l : List α => numB l.length ++ l.flatMap f) (fun l => l.length ≤ 9223372036854775807 ∧ ∀ a ∈ l, ok a) := fun a b r s h1 h2 e => by
  rw [List.append_assoc, List.append_assoc] at e
  obtain ⟨e1, e2⟩ := pfx_num _ _ _ _ (by have := h1.1; omega) (by have := h2.1; omega) e
  exact flat_pfx h a b r s e1 h1.2 h2.2 e2
theorem flatten_flat {α : Type} (f : α → List (List UInt8)) : ∀ l : List α, (l.flatMap f).flatten = l.flatMap fun a => (f a).flatten
  | [] => rfl
  | a :: l => by rw [List.flatMap_cons, List.flatten_append, flatten_flat f l, List.flatMap_cons]

def okD (d : PDot) : Prop := (0 ≤ d.1 ∧ d.1 ≤ 9223372036854775807) ∧ (-9223372036854775808 ≤ d.2 ∧ d.2 ≤ 9223372036854775807)
def okVl (v : PVal) : Prop := okD v.1 ∧ v.2.1.length ≤ 9223372036854775807
def okVc (v : List Int) : Prop := v.length = 8 ∧ ∀ n ∈ v, -9223372036854775808 ≤ n ∧ n ≤ 9223372036854775807
def okE (e : PEnt) : Prop := e.1.length ≤ 9223372036854775807 ∧ okVc e.2.1 ∧ e.2.2.length ≤ 9223372036854775807 ∧ ∀ v ∈ e.2.2, okVl v
def okG (d : PDig) : Prop := d.1.length ≤ 9223372036854775807 ∧ okVc d.2.1 ∧ d.2.2.length ≤ 9223372036854775807 ∧ ∀ v ∈ d.2.2, okD v
theorem pfx_dot : Pfx (fun d => (dotW d).flatten) okD := fun a b r s h1 h2 e => by
  simp only [dotW, List.flatten_cons, List.flatten_nil, List.append_nil] at e
  exact pfx_pair pfx_int pfx_zz a b r s h1 h2 e
theorem pfx_val : Pfx (fun v => (valW v).flatten) okVl := fun a b r s h1 h2 e => by
  obtain ⟨da, ta, fa⟩ := a
  obtain ⟨db, tb, fb⟩ := b
  simp only [valW, List.flatten_cons, List.flatten_nil, List.append_nil] at e
  obtain ⟨e1, e2⟩ := pfx_pair (pfx_pair pfx_int pfx_zz) (pfx_pair pfx_flag pfx_text) (da, fa, ta) (db, fb, tb) r s ⟨h1.1, trivial, h1.2⟩ ⟨h2.1, trivial, h2.2⟩ (by simpa only [List.append_assoc] using e)
  injection e1 with e3 e4
  injection e4 with e5 e6
  exact ⟨by rw [e3, e5, e6], e2⟩
theorem pfx_vec : Pfx (fun v => (vecW v).flatten) okVc := fun a b r s h1 h2 e => by
  have e0 : ∀ v : List Int, (vecW v).flatten = v.flatMap fun n => numB (zz n) := fun v => by unfold vecW; rw [List.flatMap_def]
  have e' : (vecW a).flatten ++ r = (vecW b).flatten ++ s := e
  rw [e0, e0] at e'
  replace e := e'
  exact flat_pfx pfx_zz a b r s (by rw [h1.1, h2.1]) h1.2 h2.2 e
theorem pfx_ent : Pfx (fun x => (entW x).flatten) okE := fun a b r s h1 h2 e => by
  obtain ⟨ka, va, la⟩ := a
  obtain ⟨kb, vb, lb⟩ := b
  simp only [entW, sibW, List.flatten_cons, List.flatten_append, flatten_flat] at e
  obtain ⟨e1, e2⟩ := pfx_pair pfx_text (pfx_pair pfx_vec (pfx_list pfx_val)) (ka, va, la) (kb, vb, lb) r s h1 h2 e
  exact ⟨e1, e2⟩
theorem pfx_dig : Pfx (fun x => (digW x).flatten) okG := fun a b r s h1 h2 e => by
  obtain ⟨ka, va, la⟩ := a
  obtain ⟨kb, vb, lb⟩ := b
  simp only [digW, List.flatten_cons, List.flatten_append, flatten_flat] at e
  exact pfx_pair pfx_text (pfx_pair pfx_vec (pfx_list pfx_dot)) (ka, va, la) (kb, vb, lb) r s h1 h2 e
theorem opt_pfx {α : Type} {c : α → List (List UInt8)} {ok : α → Prop} (h : Pfx (fun a => (c a).flatten) ok) {b : Bool} {x y : α} {r s : List UInt8} (h1 : b = true → ok x) (h2 : b = true → ok y) (e : (plW b (c x)).flatten ++ r = (plW b (c y)).flatten ++ s) : (b = true → x = y) ∧ r = s := by
  cases b with
  | true => obtain ⟨e1, e2⟩ := h x y r s (h1 rfl) (h2 rfl) e; exact ⟨fun _ => e1, e2⟩
  | false => exact ⟨(fun hb => by cases hb), by simpa [plW] using e⟩

/-- The vectors have eight numbers each. -/
def vec8 (x : PMsg) : Prop := (∀ e ∈ x.ents, e.2.1.length = 8) ∧ ∀ d ∈ x.digs, d.2.1.length = 8
theorem okVc_of {v : List Int} (h8 : v.length = 8) (h : mayVec v = true) : okVc v := ⟨h8, fun n hn => by
  have := of_decide_eq_true (List.all_eq_true.1 h n hn); omega⟩
theorem okE_of {e : PEnt} (h8 : e.2.1.length = 8) (h : mayEnt e = true) : okE e := by
  obtain ⟨k, v, l⟩ := e
  obtain ⟨hk, hs⟩ := mayEnt_and h
  obtain ⟨hv, hl, hr⟩ := maySib_and hs
  have := mayKey_in hk
  refine ⟨by dsimp only; omega, okVc_of h8 hv, by dsimp only; omega, fun x hx => ?_⟩
  obtain ⟨i, hi⟩ := List.mem_iff_getElem?.1 hx
  have h1 := okAt_in hv hr hi
  exact ⟨⟨by omega, by omega⟩, by omega⟩
theorem okG_of {e : PDig} (h8 : e.2.1.length = 8) (h : mayDig e = true) : okG e := by
  obtain ⟨k, v, l⟩ := e
  obtain ⟨hk, hv, hl, hr⟩ := mayDig_and h
  have := mayKey_in hk
  refine ⟨by dsimp only; omega, okVc_of h8 hv, by dsimp only; omega, fun x hx => ?_⟩
  obtain ⟨i, hi⟩ := List.mem_iff_getElem?.1 hx
  have h1 := dotAt_in hv hr hi
  exact ⟨by omega, by omega⟩
theorem okD_of {d : PDot} (h : mayMem d = true) : okD d := by have := mayMem_in h; exact ⟨by omega, by omega⟩

theorem wputs_flat {most : Int} : ∀ (l : List (List UInt8)) (s : WS), s.2 = false → (wputs most s l).2 = false → (wputs most s l).1 = s.1 ++ l.flatten
  | [], s, _, _ => by simp [wputs]
  | b :: l, s, h, h2 => by
    rw [wputs_cons] at h2 ⊢
    have h3 : (wput most s b).2 = false := by
      rw [Bool.eq_false_iff]
      intro h4
      have h5 : ∀ (l : List (List UInt8)) (s : WS), s.2 = true → (wputs most s l).2 = true := fun l => by
        induction l with
        | nil => intro s h; exact h
        | cons b l ih => intro s h; exact ih _ (by rw [wput_bad h])
      rw [h5 l _ h4] at h2; cases h2
    rw [wputs_flat l _ h3 h2]
    have h6 : wput most s b = (s.1 ++ b, false) := by
      unfold wput at h3 ⊢
      split at h3
      · cases h3
      · rename_i h7; rw [if_neg h7]
    rw [h6, List.flatten_cons, List.append_assoc]
theorem enc_flat {x : PMsg} (h : encE x = 0) : mayM x = true ∧ encB x = (msgW x).flatten := by
  have hm : mayM x = true := by
    cases hb : mayM x with
    | true => rfl
    | false => rw [encE_no hb] at h; cases h
  refine ⟨hm, ?_⟩
  rw [encE_yes hm] at h
  have h2 : (encS x).2 = false := by
    cases hb : (encS x).2 with
    | false => rfl
    | true => unfold doneE at h; rw [hb] at h; simp at h
  rw [encB_yes hm]
  unfold doneB; rw [h2]
  have := wputs_flat (msgW x) ([], false) rfl h2
  simpa [encS] using this
theorem plI_eq {b : Bool} {x y : Int} (h : b = true → x = y) : plI b x = plI b y := by cases b with
  | true => rw [h rfl]
  | false => rfl
theorem plB_eq {b : Bool} {x y : List UInt8} (h : b = true → x = y) : plB b x = plB b y := by cases b with
  | true => rw [h rfl]
  | false => rfl
theorem plL_eq {β : Type} {b : Bool} {x y : List β} (h : b = true → x = y) : plL b x = plL b y := by cases b with
  | true => rw [h rfl]
  | false => rfl
/-- What a message that may be has, where its kind has it. -/
theorem mayM_has {x : PMsg} (h : mayM x = true) (h8 : vec8 x) : (1 ≤ x.kind ∧ x.kind ≤ 9) ∧ (0 ≤ x.from' ∧ x.from' ≤ 7) ∧ (0 ≤ x.to ∧ x.to ≤ 7) ∧ (hasP 0 x.kind = true → 0 ≤ x.op ∧ x.op ≤ 1099511627776) ∧ (hasP 1 x.kind = true → 0 ≤ x.for' ∧ x.for' ≤ 7) ∧ (hasP 2 x.kind = true → x.key.length ≤ 32) ∧ (hasP 3 x.kind = true → 0 ≤ x.bucket ∧ x.bucket ≤ 3) ∧
    (hasP 4 x.kind = true → x.ents.length ≤ 256 ∧ ∀ e ∈ x.ents, okE e) ∧ (hasP 5 x.kind = true → x.digs.length ≤ 256 ∧ ∀ e ∈ x.digs, okG e) ∧ (hasP 6 x.kind = true → x.mems.length ≤ 8 ∧ ∀ e ∈ x.mems, okD e) := by
  obtain ⟨⟨h1, h2, h3, h4, h5, h6, h7, hk, h9, h10, h11⟩, he, hd, hm⟩ := mayM_and h
  dsimp only [plP] at h1 h2 h3 h4 h5 h6 h7 hk h9 h10 h11 he hd hm
  refine ⟨kind_in h1, h2, h3, fun hb => ?_, fun hb => ?_, fun hb => ?_, fun hb => ?_, fun hb => ?_, fun hb => ?_, fun hb => ?_⟩
  · rw [hb] at h4; exact h4
  · rw [hb] at h5; exact h5
  · rw [hb] at h7; exact h7
  · rw [hb] at h6; exact h6
  · have h9' := (h9 hb).2
    have := mostP_le x.kind
    rw [hb] at h9' he
    dsimp only [plL] at h9' he
    exact ⟨by omega, fun e hx => okE_of (h8.1 e hx) (List.all_eq_true.1 he e hx)⟩
  · rw [hb] at h10 hd
    exact ⟨h10, fun e hx => okG_of (h8.2 e hx) (List.all_eq_true.1 hd e hx)⟩
  · rw [hb] at h11 hm
    exact ⟨h11, fun e hx => okD_of (List.all_eq_true.1 hm e hx)⟩
theorem msg_inj {x y : PMsg} (hx : mayM x = true) (hy : mayM y = true) (h8 : vec8 x) (h8' : vec8 y) (e : (msgW x).flatten = (msgW y).flatten) : plP x = plP y := by
  obtain ⟨hk, hf, ht, h0, h1, h2, h3, h4, h5, h6⟩ := mayM_has hx h8
  obtain ⟨hk', hf', ht', h0', h1', h2', h3', h4', h5', h6'⟩ := mayM_has hy h8'
  obtain ⟨k, f, t, o, r, ky, b, es, ds, ms⟩ := x
  obtain ⟨k', f', t', o', r', ky', b', es', ds', ms'⟩ := y
  dsimp only at hk hf ht h0 h1 h2 h3 h4 h5 h6 hk' hf' ht' h0' h1' h2' h3' h4' h5' h6'
  unfold msgW at e
  simp only [List.flatten_append, List.flatten_cons, List.flatten_nil, List.append_nil, List.append_assoc] at e
  obtain ⟨u1, e2⟩ := pfx_int k k' _ _ ⟨by omega, by omega⟩ ⟨by omega, by omega⟩ e
  clear e; subst u1
  obtain ⟨u2, e3⟩ := pfx_int f f' _ _ ⟨by omega, by omega⟩ ⟨by omega, by omega⟩ e2
  clear e2; subst u2
  obtain ⟨u3, e⟩ := pfx_int t t' _ _ ⟨by omega, by omega⟩ ⟨by omega, by omega⟩ e3
  clear e3; subst u3
  have P0 : Pfx (fun n : Int => ([numB (zz n)] : List (List UInt8)).flatten) (fun n => -9223372036854775808 ≤ n ∧ n ≤ 9223372036854775807) := by simpa using pfx_zz
  have P1 : Pfx (fun n : Int => ([numB n.toNat] : List (List UInt8)).flatten) (fun n => 0 ≤ n ∧ n ≤ 9223372036854775807) := by simpa using pfx_int
  have P2 : Pfx (fun n : List UInt8 => ([textB n] : List (List UInt8)).flatten) (fun t => t.length ≤ 9223372036854775807) := by simpa using pfx_text
  have P4 : Pfx (fun l : List PEnt => (numB l.length :: l.flatMap entW).flatten) (fun l => l.length ≤ 9223372036854775807 ∧ ∀ a ∈ l, okE a) := by simpa only [List.flatten_cons, flatten_flat] using pfx_list pfx_ent
  have P5 : Pfx (fun l : List PDig => (numB l.length :: l.flatMap digW).flatten) (fun l => l.length ≤ 9223372036854775807 ∧ ∀ a ∈ l, okG a) := by simpa only [List.flatten_cons, flatten_flat] using pfx_list pfx_dig
  have P6 : Pfx (fun l : List PDot => (numB l.length :: l.flatMap dotW).flatten) (fun l => l.length ≤ 9223372036854775807 ∧ ∀ a ∈ l, okD a) := by simpa only [List.flatten_cons, flatten_flat] using pfx_list pfx_dot
  obtain ⟨q0, e⟩ := opt_pfx P0 (fun hb => by have := h0 hb; omega) (fun hb => by have := h0' hb; omega) e
  obtain ⟨q1, e⟩ := opt_pfx P1 (fun hb => by have := h1 hb; omega) (fun hb => by have := h1' hb; omega) e
  obtain ⟨q2, e⟩ := opt_pfx P2 (fun hb => by have := h2 hb; omega) (fun hb => by have := h2' hb; omega) e
  obtain ⟨q3, e⟩ := opt_pfx P1 (fun hb => by have := h3 hb; omega) (fun hb => by have := h3' hb; omega) e
  obtain ⟨q4, e⟩ := opt_pfx P4 (fun hb => ⟨by have := (h4 hb).1; omega, (h4 hb).2⟩) (fun hb => ⟨by have := (h4' hb).1; omega, (h4' hb).2⟩) e
  obtain ⟨q5, e⟩ := opt_pfx P5 (fun hb => ⟨by have := (h5 hb).1; omega, (h5 hb).2⟩) (fun hb => ⟨by have := (h5' hb).1; omega, (h5' hb).2⟩) e
  obtain ⟨q6, e⟩ := opt_pfx P6 (r := []) (s := []) (fun hb => ⟨by have := (h6 hb).1; omega, (h6 hb).2⟩) (fun hb => ⟨by have := (h6' hb).1; omega, (h6' hb).2⟩) (by simpa using e)
  unfold plP
  dsimp only
  rw [plI_eq q0, plI_eq q1, plB_eq q2, plI_eq q3, plL_eq q4, plL_eq q5, plL_eq q6]
theorem apart {x y : PMsg} (hx : encE x = 0) (hy : encE y = 0) (h8 : vec8 x) (h8' : vec8 y) : decide (encB x = encB y) = sameM x y := by
  rw [Bool.eq_iff_iff, decide_eq_true_iff, sameM_iff]
  constructor
  · intro e
    obtain ⟨mx, ex⟩ := enc_flat hx
    obtain ⟨my, ey⟩ := enc_flat hy
    rw [ex, ey] at e
    exact msg_inj mx my h8 h8' e
  · intro e; exact (enc_pl e).1
theorem vec8_of {w : World} {kd fr tn op fo bk : Int} {ky : List UInt8} {es : List EntT} {qe : Option Addr} {ce : Nat} {ds : List DigT} {qd : Option Addr} {cd : Nat} {ms : List PDot} (hE : EntsAt w (qe, ce, es)) (hD : DigsAt w (qd, cd, ds)) : vec8 ⟨kd, fr, tn, op, fo, ky, bk, es.map pEnt, ds.map pDig, ms⟩ := by
  refine ⟨fun e he => ?_, fun e he => ?_⟩
  · obtain ⟨x, hx, rfl⟩ := List.mem_map.1 he
    exact (hE.2.1 x hx).1
  · obtain ⟨x, hx, rfl⟩ := List.mem_map.1 he
    exact (hD.2.1 x hx).1
end Go.Sl
