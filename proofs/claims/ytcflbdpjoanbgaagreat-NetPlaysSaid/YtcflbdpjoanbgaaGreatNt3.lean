/-
  Messages with few parts: they fit; what is sent in parts; what is left out before.
  Conditions: none; it speaks of every program of the model.
-/
import Derived.Test.YtcflbdpjoanbgaaGreatNt1
namespace Go.Sl
open Go
set_option linter.unusedSimpArgs false
set_option linter.unusedVariables false

/-! ### How long the parts are -/
def fl (l : List (List UInt8)) : Nat := l.flatten.length
theorem fl_app (a b : List (List UInt8)) : fl (a ++ b) = fl a + fl b := by unfold fl; rw [List.flatten_append, List.length_append]
theorem fl_cons (a : List UInt8) (b : List (List UInt8)) : fl (a :: b) = a.length + fl b := by unfold fl; rw [List.flatten_cons, List.length_append]
theorem fl_nil : fl [] = 0 := rfl
theorem fl_map {β : Type} (f : β → List (List UInt8)) (c : Nat) : ∀ (l : List β) (n : Nat), (∀ b ∈ l, fl (f b) ≤ c) → l.length ≤ n → fl (l.flatMap f) ≤ n * c
  | [], n, _, _ => by rw [List.flatMap_nil, fl_nil]; exact Nat.zero_le _
  | b :: l, 0, _, h => by simp at h
  | b :: l, n + 1, h, hl => by
    rw [List.flatMap_cons, fl_app, Nat.add_mul, Nat.one_mul]
    have h1 := h b (by simp)
    have h2 := fl_map f c l n (fun x hx => h x (by simp [hx])) (by simp at hl; omega)
    omega
theorem vecW_flat : ∀ v : List Int, vecW v = v.flatMap fun n => [numB (zz n)]
  | [] => rfl
  | a :: v => by rw [List.flatMap_cons, ← vecW_flat v]; rfl
theorem fl_vecW {v : List Int} (h8 : v.length = 8) (h : mayVec v = true) : fl (vecW v) ≤ 80 := by
  rw [vecW_flat]
  refine Nat.le_trans (fl_map _ 10 v 8 (fun n hn => ?_) (by omega)) (by decide)
  have h1 := of_decide_eq_true (List.all_eq_true.1 h n hn)
  have h2 := numB_10 (zz_lt (n := n) (by omega))
  rw [fl_cons, fl_nil]; omega
theorem fl_numB {n : Nat} (h : n < 18446744073709551616) : (numB n).length ≤ 10 := numB_10 h
theorem fl_textB {b : List UInt8} (h : b.length ≤ 10000) : (textB b).length ≤ 10 + b.length := by
  unfold textB; rw [List.length_append]
  have := numB_10 (n := b.length) (by omega)
  omega
theorem vec_le {v : List Int} (h : mayVec v = true) (k : Nat) : v.getD k 0 ≤ 1099511627776 := by
  rw [List.getD_eq_getElem?_getD]
  cases hk : v[k]? with
  | none => simp
  | some n =>
    have := of_decide_eq_true (List.all_eq_true.1 h n (List.mem_of_getElem? hk))
    simp; omega
theorem cov_le {v : List Int} {d : PDot} (h : mayVec v = true) (hc : covers v d = true) : (0 ≤ d.1 ∧ d.1 < 8) ∧ 1 ≤ d.2 ∧ d.2 ≤ 1099511627776 := by
  have h1 := of_decide_eq_true hc
  have h2 := vec_le h d.1.toNat
  omega
theorem fl_dotW {v : List Int} {d : PDot} (h : mayVec v = true) (hc : covers v d = true) : fl (dotW d) ≤ 20 := by
  obtain ⟨h1, h2, h3⟩ := cov_le h hc
  have h4 := numB_10 (n := d.1.toNat) (by omega)
  have h5 := numB_10 (zz_lt (n := d.2) (by omega))
  unfold dotW; rw [fl_cons, fl_cons, fl_nil]; omega
theorem fl_valW {v : List Int} {x : PVal} (h : mayVec v = true) (hc : covers v x.1 = true) (hk : x.2.1.length ≤ 200) : fl (valW x) ≤ 231 := by
  obtain ⟨h1, h2, h3⟩ := cov_le h hc
  have h4 := numB_10 (n := x.1.1.toNat) (by omega)
  have h5 := numB_10 (zz_lt (n := x.1.2) (by omega))
  have h6 := fl_textB (b := x.2.1) (by omega)
  unfold valW; rw [fl_cons, fl_cons, fl_cons, fl_cons, fl_nil]
  have h7 : (flagB x.2.2).length = 1 := rfl
  omega
theorem ok_at {s : PSib} {j : Nat} {x : PVal} (h : okAt s.1 s.2 j = true) (hx : s.2[j]? = some x) : x.2.1.length ≤ 200 ∧ covers s.1 x.1 = true := by
  unfold okAt at h
  obtain ⟨h1, h2⟩ := Bool.and_eq_true_iff.1 h
  unfold valAt at h1; rw [hx] at h1
  unfold dotAt at h2; rw [List.getElem?_map, hx] at h2
  exact ⟨of_decide_eq_true (Bool.and_eq_true_iff.1 h1).1, (Bool.and_eq_true_iff.1 h2).1⟩
theorem fl_sibW {s : PSib} (h8 : s.1.length = 8) (h : maySib s = true) : fl (sibW s) ≤ 3786 := by
  unfold maySib at h
  obtain ⟨h1, h2⟩ := Bool.and_eq_true_iff.1 h
  obtain ⟨h3, h4⟩ := Bool.and_eq_true_iff.1 h1
  have h5 := of_decide_eq_true h4
  unfold sibW
  rw [fl_app, fl_cons]
  have h6 := fl_vecW h8 h3
  have h7 := numB_10 (n := s.2.length) (by omega)
  have h8 := fl_map valW 231 s.2 16 (fun x hx => by
    obtain ⟨j, hj⟩ := List.mem_iff_getElem?.1 hx
    obtain ⟨h9, h10⟩ := ok_at (rall_get h2 (List.getElem?_eq_some_iff.1 hj).1) hj
    exact fl_valW h3 h10 h9) h5
  omega
theorem fl_entW {e : PEnt} (h8 : e.2.1.length = 8) (h : mayEnt e = true) : fl (entW e) ≤ 3828 := by
  unfold mayEnt at h
  obtain ⟨h1, h2⟩ := Bool.and_eq_true_iff.1 h
  have h3 := of_decide_eq_true h1
  have h4 := fl_textB (b := e.1) (by omega)
  have h5 := fl_sibW h8 h2
  unfold entW; rw [fl_cons]; omega
theorem fl_digW {d : PDig} (h8 : d.2.1.length = 8) (h : mayDig d = true) : fl (digW d) ≤ 452 := by
  unfold mayDig at h
  obtain ⟨h1, h2⟩ := Bool.and_eq_true_iff.1 h
  obtain ⟨h3, h4⟩ := Bool.and_eq_true_iff.1 h1
  obtain ⟨h5, h6⟩ := Bool.and_eq_true_iff.1 h3
  have h7 := of_decide_eq_true h4
  have h9 := of_decide_eq_true h5
  have h10 := fl_textB (b := d.1) (by omega)
  have h11 := fl_vecW h8 h6
  have h12 := numB_10 (n := d.2.2.length) (by omega)
  have h13 := fl_map dotW 20 d.2.2 16 (fun x hx => by
    obtain ⟨j, hj⟩ := List.mem_iff_getElem?.1 hx
    have h9 := rall_get h2 (List.getElem?_eq_some_iff.1 hj).1
    unfold dotAt at h9; rw [hj] at h9
    exact fl_dotW h6 (Bool.and_eq_true_iff.1 h9).1) h7
  unfold digW; rw [fl_cons, fl_app, fl_cons]; omega
theorem fl_memW {d : PDot} (h : mayMem d = true) : fl (dotW d) ≤ 20 := by
  have h1 := of_decide_eq_true h
  have h4 := numB_10 (n := d.1.toNat) (by omega)
  have h5 := numB_10 (zz_lt (n := d.2) (by omega))
  unfold dotW; rw [fl_cons, fl_cons, fl_nil]; omega
theorem fl_plW {b : Bool} {l : List (List UInt8)} {n : Nat} (h : b = true → fl l ≤ n) : fl (plW b l) ≤ n := by
  cases b with
  | true => exact h rfl
  | false => exact Nat.zero_le _
/-- A message that may be and has few parts fits. -/
theorem light_fits {x : PMsg} (h : mayM x = true) (h8 : vec8 x) (hE : x.ents.length ≤ 5) (hD : x.digs.length ≤ 5) : encE x = 0 := by
  refine enc_fits h ?_
  have hm := h
  unfold mayM at hm
  have hk : okM (plP x) := by
    by_cases hk : okM (plP x)
    · exact hk
    · rw [mayPl_no hk] at hm; cases hm
  rw [mayPl_ok hk] at hm
  obtain ⟨h1, h2⟩ := Bool.and_eq_true_iff.1 hm
  obtain ⟨h3, h4⟩ := Bool.and_eq_true_iff.1 h2
  obtain ⟨k1, k2, k3, k4, k5, k6, k7, k8, k9, k10, k11⟩ := hk
  change fl (msgW x) ≤ 60000
  unfold msgW
  have hkind : x.kind.toNat < 18446744073709551616 := by
    have : partsI x.kind ≠ 0 := k1
    unfold partsI at this
    by_cases hx : x.kind ≤ 9
    · omega
    · exfalso; apply this
      rw [if_neg (by omega), if_neg (by omega), if_neg (by omega), if_neg (by omega), if_neg (by omega), if_neg (by omega), if_neg (by omega), if_neg (by omega)]
  have a1 := numB_10 hkind
  have a2 := numB_10 (n := x.from'.toNat) (by have : 0 ≤ x.from' ∧ x.from' ≤ 7 := k2; omega)
  have a3 := numB_10 (n := x.to.toNat) (by have : 0 ≤ x.to ∧ x.to ≤ 7 := k3; omega)
  have a4 : fl (plW (hasP 0 x.kind) [numB (zz x.op)]) ≤ 10 := fl_plW fun hb => by
    have k := k4; change 0 ≤ plI (hasP 0 x.kind) x.op ∧ plI (hasP 0 x.kind) x.op ≤ _ at k; rw [hb] at k; change 0 ≤ x.op ∧ x.op ≤ _ at k
    have := numB_10 (zz_lt (n := x.op) (by omega))
    rw [fl_cons, fl_nil]; omega
  have a5 : fl (plW (hasP 1 x.kind) [numB x.for'.toNat]) ≤ 10 := fl_plW fun hb => by
    have k := k5; change 0 ≤ plI (hasP 1 x.kind) x.for' ∧ plI (hasP 1 x.kind) x.for' ≤ _ at k; rw [hb] at k; change 0 ≤ x.for' ∧ x.for' ≤ _ at k
    have := numB_10 (n := x.for'.toNat) (by omega)
    rw [fl_cons, fl_nil]; omega
  have a6 : fl (plW (hasP 2 x.kind) [textB x.key]) ≤ 42 := fl_plW fun hb => by
    have k := k7; change (plB (hasP 2 x.kind) x.key).length ≤ 32 at k; rw [hb] at k; change x.key.length ≤ 32 at k
    have := fl_textB (b := x.key) (by omega)
    rw [fl_cons, fl_nil]; omega
  have a7 : fl (plW (hasP 3 x.kind) [numB x.bucket.toNat]) ≤ 10 := fl_plW fun hb => by
    have k := k6; change 0 ≤ plI (hasP 3 x.kind) x.bucket ∧ plI (hasP 3 x.kind) x.bucket ≤ _ at k; rw [hb] at k; change 0 ≤ x.bucket ∧ x.bucket ≤ _ at k
    have := numB_10 (n := x.bucket.toNat) (by omega)
    rw [fl_cons, fl_nil]; omega
  have a8 : fl (plW (hasP 4 x.kind) (numB x.ents.length :: x.ents.flatMap entW)) ≤ 10 + 5 * 3828 := fl_plW fun hb => by
    change (plL (hasP 4 x.kind) x.ents).all mayEnt = true at h1; rw [hb] at h1; change x.ents.all mayEnt = true at h1
    have b1 := numB_10 (n := x.ents.length) (by omega)
    have b2 := fl_map entW 3828 x.ents 5 (fun e he => fl_entW (h8.1 e he) (List.all_eq_true.1 h1 e he)) hE
    rw [fl_cons]; omega
  have a9 : fl (plW (hasP 5 x.kind) (numB x.digs.length :: x.digs.flatMap digW)) ≤ 10 + 5 * 452 := fl_plW fun hb => by
    change (plL (hasP 5 x.kind) x.digs).all mayDig = true at h3; rw [hb] at h3; change x.digs.all mayDig = true at h3
    have b1 := numB_10 (n := x.digs.length) (by omega)
    have b2 := fl_map digW 452 x.digs 5 (fun e he => fl_digW (h8.2 e he) (List.all_eq_true.1 h3 e he)) hD
    rw [fl_cons]; omega
  have a10 : fl (plW (hasP 6 x.kind) (numB x.mems.length :: x.mems.flatMap dotW)) ≤ 10 + 256 * 20 := fl_plW fun hb => by
    change (plL (hasP 6 x.kind) x.mems).all mayMem = true at h4; rw [hb] at h4; change x.mems.all mayMem = true at h4
    have hl : x.mems.length ≤ 256 := by have k := k11; simp only [plP] at k; rw [hb] at k; simp only [plL] at k; omega
    have b1 := numB_10 (n := x.mems.length) (by omega)
    have b2 := fl_map dotW 20 x.mems 256 (fun e he => fl_memW (List.all_eq_true.1 h4 e he)) hl
    rw [fl_cons]; omega
  simp only [fl_app, fl_cons, fl_nil]
  omega
theorem enc_may {x : PMsg} (h : encE x = 0) : mayM x = true := by
  unfold encE at h
  by_cases hm : mayM x = true
  · exact hm
  · rw [if_neg hm] at h; cases h

/-! ### Sent in parts -/
theorem sendS_app (a b : List PMsg) (s : NS) : sendS (a ++ b) s = sendS b (sendS a s) := by unfold sendS; exact List.foldl_append
theorem sendS_cnt : ∀ (l : List PMsg) (xs : List PMsg) (lo : Int) (c : Nat), sendS l (xs, lo, c) = ((sendS l (xs, lo, 0)).1, (sendS l (xs, lo, 0)).2.1, c + (sendS l (xs, lo, 0)).2.2)
  | [], xs, lo, c => by simp [sendS]
  | x :: l, xs, lo, c => by
    change sendS l (sendX (xs, lo, c) x) = ((sendS l (sendX (xs, lo, 0) x)).1, (sendS l (sendX (xs, lo, 0) x)).2.1, c + (sendS l (sendX (xs, lo, 0) x)).2.2)
    by_cases h : encE x = 0 ∧ xs.length < 2000
    · rw [sendX_yes h.1 h.2, sendX_yes h.1 h.2]
      rw [sendS_cnt l _ lo (c + 1), sendS_cnt l _ lo (0 + 1)]
      simp [Nat.add_assoc]
    · have e : ∀ c : Nat, sendX (xs, lo, c) x = (xs, lo + 1, c) := fun c => if_neg h
      rw [e c, e 0, sendS_cnt l _ _ c]
theorem sendS_two (a b : List PMsg) : sendS (a ++ b) ([], 0, 0) = ((sendS b ((sendS a ([], 0, 0)).1, (sendS a ([], 0, 0)).2.1, 0)).1, (sendS b ((sendS a ([], 0, 0)).1, (sendS a ([], 0, 0)).2.1, 0)).2.1, (sendS a ([], 0, 0)).2.2 + (sendS b ((sendS a ([], 0, 0)).1, (sendS a ([], 0, 0)).2.1, 0)).2.2) := by
  rw [sendS_app]; exact sendS_cnt b _ _ _
theorem sendS_len : ∀ (l : List PMsg) (s : NS), (sendS l s).1.length + s.2.2 = s.1.length + (sendS l s).2.2
  | [], s => rfl
  | x :: l, s => by
    have h := sendS_len l (sendX s x)
    change (sendS (x :: l) s).1.length + _ = _ + (sendS (x :: l) s).2.2 at h
    by_cases hx : encE x = 0 ∧ s.1.length < 2000
    · rw [sendX_yes hx.1 hx.2] at h
      simp at h; omega
    · have e : sendX s x = (s.1, s.2.1 + 1, s.2.2) := if_neg hx
      rw [e] at h; exact h
theorem sendS_good : ∀ (l : List PMsg) (xs : List PMsg) (lo lo' : Int) (c : Nat), (∀ x ∈ l, mayM x = true → encE x = 0) → (sendS (l.filter mayM) (xs, lo', c)).1 = (sendS l (xs, lo, c)).1 ∧ (sendS (l.filter mayM) (xs, lo', c)).2.2 = (sendS l (xs, lo, c)).2.2
  | [], xs, lo, lo', c, _ => ⟨rfl, rfl⟩
  | x :: l, xs, lo, lo', c, h => by
    have h' := fun y hy => h y (List.mem_cons_of_mem x hy)
    by_cases hm : mayM x = true
    · rw [List.filter_cons_of_pos hm]
      have he := h x (by simp) hm
      change (sendS (l.filter mayM) (sendX (xs, lo', c) x)).1 = (sendS l (sendX (xs, lo, c) x)).1 ∧ (sendS (l.filter mayM) (sendX (xs, lo', c) x)).2.2 = (sendS l (sendX (xs, lo, c) x)).2.2
      by_cases hc : xs.length < 2000
      · rw [sendX_yes he hc, sendX_yes he hc]; exact sendS_good l _ _ _ _ h'
      · rw [sendX_no2 hc, sendX_no2 hc]; exact sendS_good l _ _ _ _ h'
    · rw [List.filter_cons_of_neg hm]
      change _ = (sendS l (sendX (xs, lo, c) x)).1 ∧ _ = (sendS l (sendX (xs, lo, c) x)).2.2
      rw [sendX_no1 (fun e => hm (enc_may e))]; exact sendS_good l _ _ _ _ h'

/-! ### Rows of messages -/
theorem MsgsAt.take {w : World} {q : Option Addr} {c k : Nat} {L : List MsgT} (h : MsgsAt w (q, c, L)) (hk : k ≤ L.length) : MsgsAt w (q, c, L.take k) := by
  refine ⟨?_, fun m hm => h.2 m (List.mem_of_mem_take hm)⟩
  have h1 := h.1.take (k := k) hk
  dsimp only at h1 ⊢
  rw [flat_take (sz := 10) (fun _ => rfl)] at h1
  rw [List.length_take, Nat.min_eq_left hk]; exact h1
theorem MsgsAt.drop {w : World} {q q' : Option Addr} {c c' k : Nat} {L : List MsgT} (h : MsgsAt w (q, c, L)) (hk : k ≤ L.length) (hc : L.length ≤ c) (hq : q' = if c = k then q else q.map (·.add (k * 10))) : MsgsAt w (q', c', L.drop k) := by
  subst hq
  refine ⟨?_, fun m hm => h.2 m (List.mem_of_mem_drop hm)⟩
  have h1 := h.1.drop (k := k) (c := c) hk hc
  dsimp only at h1 ⊢
  rw [flat_drop (sz := 10) (fun _ => rfl)] at h1
  rw [List.length_drop]; exact h1
theorem take_filter {β : Type} {l : List β} {k : Nat} {x : β} {f : β → Bool} (hx : l[k]? = some x) : (l.take (k + 1)).filter f = (l.take k).filter f ++ if f x = true then [x] else [] := by
  rw [List.take_add_one, hx, List.filter_append]
  congr 1
  by_cases h : f x = true
  · rw [if_pos h]; simp [h]
  · rw [if_neg h]; simp [h]
theorem MsgsAt.old {W W' w : World} {l l' : List HP} {x : Sli MsgT} (h : Sat W l w) (s : Sel (Old W') l l') (hv : MsgsAt W' x) : MsgsAt w x := ⟨h.slOfOld s hv.1, fun m hm => ⟨(hv.2 m hm).1.old h s, (hv.2 m hm).2.1.old h s, (hv.2 m hm).2.2.old h s⟩⟩
def lightM (x : MsgT) : Prop := (mEs x).2.2.length ≤ 5 ∧ (mDs x).2.2.length ≤ 5
theorem ord_fit {w : World} {q : Option Addr} {c : Nat} {l : List MsgT} (h : MsgsAt w (q, c, l)) (h2 : ∀ m ∈ l, lightM m) : ∀ x ∈ l.map pMsg, mayM x = true → encE x = 0 := fun x hx hm => by
  obtain ⟨m, hm1, rfl⟩ := List.mem_map.1 hx
  have h3 := h2 m hm1
  exact light_fits hm (h.2 m hm1).vec8 (by have := h3.1; show ((mEs m).2.2.map pEnt).length ≤ 5; rw [List.length_map]; exact this) (by have := h3.2; show ((mDs m).2.2.map pDig).length ≤ 5; rw [List.length_map]; exact this)
theorem light_step {l : List MsgT} {i : Nat} {x : MsgT} (h : ∀ m ∈ l.take i, lightM m) (hx : l[i]? = some x) (h2 : lightM x) : ∀ m ∈ l.take (i + 1), lightM m := fun m hm => by
  rw [List.take_add_one, hx] at hm
  rcases List.mem_append.1 hm with h3 | h3
  · exact h m h3
  · simp at h3; subst h3; exact h2
theorem ord_two {l : List MsgT} {P : Nat} {xb x2 : List PMsg} {lb l2 : Int} {cb c2 : Nat} (h1 : sendS ((l.take P).map pMsg) ([], 0, 0) = (xb, lb, cb)) (h2 : sendS ((l.drop P).map pMsg) (xb, lb, 0) = (x2, l2, c2)) : sendS (l.map pMsg) ([], 0, 0) = (x2, l2, cb + c2) := by
  have e : l.map pMsg = (l.take P).map pMsg ++ (l.drop P).map pMsg := by rw [← List.map_append, List.take_append_drop]
  rw [e, sendS_two, h1]
  dsimp only
  rw [h2]
theorem Sat.rowsAt {W w : World} {l l1 l2 : List HP} {G E T B D O M : Nat} {q : Option Addr} {cap : Nat} {L : List MsgT} (h : Sat W l w) (s1 : Sel (Rl G 10 q L.length cap (L.flatMap msgC)) l l1) (s2 : Sel (AllG (MsgG E T B D O M) L) l l2) (hok : ∀ m ∈ L, okMsg m) : MsgsAt w (q, cap, L) :=
  ⟨h.slOfRl s1, fun m hm => by obtain ⟨i, hi⟩ := List.mem_iff_getElem?.1 hm; exact h.msgVs s2 hi hok⟩
theorem map2_get {A B : List PMsg} {i : Nat} {x y : PMsg} (he : A.map plP = B.map plP) (hx : A[i]? = some x) (hy : B[i]? = some y) : plP x = plP y :=
  Option.some.inj ((map_get plP hx).symm.trans (by rw [he]; exact map_get plP hy))
theorem filter_map {l : List MsgT} : (l.filter fun m => mayM (pMsg m)).map pMsg = (l.map pMsg).filter mayM := by
  rw [List.filter_map]; rfl
/-! ### Calls -/
abbrev CallN := Int × Int × Sli MsgT × Unit
def callN (x : CallN) : List Value := [.int .i64 x.1, .int .i64 x.2.1, slv x.2.2.1]
theorem inS_P {Ms : List MsgT} {j : Nat} (h : j < Ms.length) : inS (Ms.map pMsg) (j : Int) = true := decide_eq_true (by rw [List.length_map]; omega)
theorem inS_N {Ms : List MsgT} {i : Int} (h : ¬ (0 ≤ i ∧ i < Ms.length)) : inS (Ms.map pMsg) i = false := decide_eq_false (by rw [List.length_map]; exact h)
theorem takeS_no {xs : List PMsg} {i : Int} (h : inS xs i = false) : takeS xs i = xs := if_neg (by rw [h]; decide)
theorem takeS_P {Ms : List MsgT} {j : Nat} (h : j < Ms.length) : takeS (Ms.map pMsg) (j : Int) = (Ms.take j ++ Ms.drop (j + 1)).map pMsg := by
  unfold takeS; rw [if_pos (inS_P h), Int.toNat_natCast, ← List.map_take, ← List.map_drop, List.map_append]
theorem getD_P {Ms : List MsgT} {j : Nat} {y : MsgT} (h : Ms[j]? = some y) : (Ms.map pMsg).getD (j : Int).toNat zeroM = pMsg y := by rw [Int.toNat_natCast]; exact getD_map h
theorem copyS_of_no {xs : List PMsg} {i : Int} (h : inS xs i = false) : copyS xs i = xs := (copyS_no (.inl h)).2
theorem copyB_no {xs : List PMsg} {i : Int} (h : inS xs i = false) : copyB xs i = false := (copyS_no (.inl h)).1
theorem copyB_yes {xs : List PMsg} {i : Int} (h : inS xs i = true) (h2 : xs.length < 2000) : copyB xs i = true := (copyS_yes h h2).1
theorem copyS_P {Ms : List MsgT} {j : Nat} {y : MsgT} (h : Ms[j]? = some y) (hp : plP (pMsg y) = pMsg y) (hin : inS (Ms.map pMsg) (j : Int) = true) (h2 : (Ms.map pMsg).length < 2000) : copyS (Ms.map pMsg) (j : Int) = (Ms ++ [y]).map pMsg := by
  rw [(copyS_yes hin h2).2, getD_P h, hp, List.map_append]; rfl
theorem cutM_len {Ms : List MsgT} {j : Nat} (h : j < Ms.length) : (Ms.take j ++ Ms.drop (j + 1)).length = Ms.length - 1 := by simp; omega
theorem mem_cutM {Ms : List MsgT} {j : Nat} {m : MsgT} (h : m ∈ Ms.take j ++ Ms.drop (j + 1)) : m ∈ Ms := by
  rcases List.mem_append.1 h with h | h
  · exact List.mem_of_mem_take h
  · exact List.mem_of_mem_drop h
theorem cut_rows (Ms : List MsgT) (j : Nat) : [] ++ (Ms.flatMap msgC).take ((j : Int).toNat * 10) ++ (Ms.flatMap msgC).drop (((j : Int) + 1).toNat * 10) = (Ms.take j ++ Ms.drop (j + 1)).flatMap msgC := by
  rw [show ((j : Int) + 1).toNat = j + 1 by omega, Int.toNat_natCast, flat_take (sz := 10) (fun _ => rfl), flat_drop (sz := 10) (fun _ => rfl), List.flatMap_append, List.nil_append]
theorem one_take {l : List Value} {k : Nat} (h : l.all (·.oneCell') = true) : (l.take k).all (·.oneCell') = true := List.all_eq_true.2 fun x hx => List.all_eq_true.1 h x (List.mem_of_mem_take hx)
end Go.Sl
