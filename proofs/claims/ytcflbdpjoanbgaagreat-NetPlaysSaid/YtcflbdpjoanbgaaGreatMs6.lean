/-
  Messages read.
  Conditions: none; it speaks of every program of the model.
-/
import Derived.Test.YtcflbdpjoanbgaaGreatMs5
namespace Go.Sl
open Go
set_option linter.unusedSimpArgs false
set_option linter.unusedVariables false

/-- A reader that has failed has nothing left. -/
def InvR (s : RS) : Prop := ¬ s.2 = 0 → s.1.length = 0
theorem inv_num {s : RS} (h : InvR s) : InvR (rNum s).2 := (rNum_adv s h).2
theorem inv_int {s : RS} (h : InvR s) : InvR (rInt s).2 := inv_num h
theorem inv_flag {s : RS} (h : InvR s) : InvR (rFlag s).2 := by
  obtain ⟨bs, e⟩ := s
  intro h2
  unfold rFlag at h2 ⊢
  split at h2
  · rename_i h3; simp only [ne_eq, h3, not_false_eq_true, if_true]; exact h h3
  · rename_i h3
    simp only [h3, if_false]
    cases bs with
    | nil => rfl
    | cons x r =>
      dsimp only at h2 ⊢
      split at h2
      · rename_i h4; rw [if_pos h4]; rfl
      · exact absurd rfl h2
theorem inv_count {s : RS} {most : Int} (h : InvR s) : InvR (rCount most s).2 := by
  unfold rCount
  split
  · exact inv_num h
  · split
    · exact fun _ => rfl
    · exact inv_num h
theorem inv_text {s : RS} {most : Int} (h : InvR s) : InvR (rText most s).2 := by
  unfold rText
  split
  · exact inv_count h
  · split
    · exact fun _ => rfl
    · exact fun h2 => absurd rfl h2
theorem rCount_most (most : Int) (s : RS) : ((rCount most s).1 : Int) ≤ max 0 most := by
  unfold rCount
  split
  · show ((0 : Nat) : Int) ≤ _; omega
  · split
    · show ((0 : Nat) : Int) ≤ _; omega
    · omega
theorem rText_most (most : Int) (s : RS) : ((rText most s).1.length : Int) ≤ max 0 most := by
  have := rCount_most most s
  unfold rText
  split
  · show ((0 : Nat) : Int) ≤ _; omega
  · split
    · show ((0 : Nat) : Int) ≤ _; omega
    · simp only [List.length_take]; omega
/-- f, n times. -/
def rMany {α : Type} (f : RS → α × RS) : Nat → RS → List α × RS
  | 0, s => ([], s)
  | n + 1, s => ((rMany f n s).1 ++ [(f (rMany f n s).2).1], (f (rMany f n s).2).2)
theorem rMany_len {α : Type} (f : RS → α × RS) (n : Nat) (s : RS) : (rMany f n s).1.length = n := by
  induction n with
  | zero => rfl
  | succ n ih => simp [rMany, ih]
theorem inv_many {α : Type} {f : RS → α × RS} (hf : ∀ s, InvR s → InvR (f s).2) (n : Nat) {s : RS} (h : InvR s) : InvR (rMany f n s).2 := by
  induction n with
  | zero => exact h
  | succ n ih => exact hf _ ih
theorem rest_many {α : Type} {f : RS → α × RS} (hf : ∀ s, (f s).2.1.length ≤ s.1.length) (n : Nat) (s : RS) : (rMany f n s).2.1.length ≤ s.1.length := by
  induction n with
  | zero => exact Nat.le_refl _
  | succ n ih => exact Nat.le_trans (hf _) ih
def z8 : List Int := [0, 0, 0, 0, 0, 0, 0, 0]
def rVec (s : RS) : List Int × RS := rMany rInt 8 s
def vecOk (s : RS) : Bool := decide ((rVec s).2.2 = 0) && mayVec (rVec s).1
def vecV (s : RS) : List Int := if vecOk s = true then (rVec s).1 else z8
theorem vecV_yes {s : RS} (h : vecOk s = true) : vecV s = (rVec s).1 := if_pos h
theorem vecV_no {s : RS} (h : vecOk s = false) : vecV s = z8 := if_neg (by rw [h]; decide)
theorem vec_yes {s : RS} {v : List Int} (hV : (rVec s).1 = v) (hG : (rVec s).2.2 = 0) (hM : mayVec v = true) : vecOk s = true := by unfold vecOk; rw [hV, hM, decide_eq_true hG]; rfl
theorem vec_no1 {s : RS} (hG : ¬ (rVec s).2.2 = 0) : vecOk s = false := by unfold vecOk; rw [decide_eq_false hG]; rfl
theorem vec_no2 {s : RS} {v : List Int} (hV : (rVec s).1 = v) (hM : mayVec v = false) : vecOk s = false := by unfold vecOk; rw [hV, hM, Bool.and_false]
def rDot (s : RS) : PDot × RS := ((((rNum s).1 : Int), (rInt (rNum s).2).1), (rInt (rNum s).2).2)
def capD (c : Int) (d : PDot) : PDot := (min d.1 c, d.2)
def rVal (s : RS) : PVal × RS := (((rDot s).1, (rText 200 (rFlag (rDot s).2).2).1, (rFlag (rDot s).2).1), (rText 200 (rFlag (rDot s).2).2).2)
def capV (c : Int) (v : PVal) : PVal := (capD c v.1, v.2)
def sibN (s : RS) : Nat × RS := rCount 16 (rVec s).2
def sibL (s : RS) : List PVal × RS := rMany rVal (sibN s).1 (sibN s).2
def sibOk (s : RS) : Bool := decide ((sibL s).2.2 = 0) && maySib ((rVec s).1, (sibL s).1)
def sibV (s : RS) : PSib := if sibOk s = true then ((rVec s).1, (sibL s).1) else (z8, [])
theorem rInt_rest (s : RS) : (rInt s).2.1.length ≤ s.1.length := rNum_rest s
theorem rDot_rest (s : RS) : (rDot s).2.1.length ≤ s.1.length := Nat.le_trans (rNum_rest _) (rNum_rest _)
theorem rVal_rest (s : RS) : (rVal s).2.1.length ≤ s.1.length := Nat.le_trans (rText_rest _ _) (Nat.le_trans (rFlag_rest _) (rDot_rest _))
theorem inv_dot {s : RS} (h : InvR s) : InvR (rDot s).2 := inv_num (inv_num h)
theorem inv_val {s : RS} (h : InvR s) : InvR (rVal s).2 := inv_text (inv_flag (inv_dot h))
theorem inv_vec {s : RS} (h : InvR s) : InvR (rVec s).2 := inv_many (fun _ => inv_int) 8 h
theorem inv_sib {s : RS} (h : InvR s) : InvR (sibL s).2 := inv_many (fun _ => inv_val) _ (inv_count (inv_vec h))
theorem vec_rest (s : RS) : (rVec s).2.1.length ≤ s.1.length := rest_many rInt_rest 8 s
theorem sibN_rest (s : RS) : (sibN s).2.1.length ≤ s.1.length := Nat.le_trans (rCount_rest _ _) (vec_rest s)
theorem sib_rest (s : RS) : (sibL s).2.1.length ≤ s.1.length := Nat.le_trans (rest_many rVal_rest _ _) (sibN_rest s)
theorem good_iff {s : RS} (h : InvR s) : (rEnd s = 0 ∨ 0 < s.1.length) ↔ s.2 = 0 := by
  unfold rEnd; unfold InvR at h
  split <;> omega
/-- An error stays. -/
theorem stay_many {α : Type} {f : RS → α × RS} (hf : ∀ s, ¬ s.2 = 0 → ¬ (f s).2.2 = 0) (n : Nat) {s : RS} (h : ¬ s.2 = 0) : ¬ (rMany f n s).2.2 = 0 := by
  induction n with
  | zero => exact h
  | succ n ih => exact hf _ ih
theorem stay_int (s : RS) (h : ¬ s.2 = 0) : ¬ (rInt s).2.2 = 0 := by rw [rInt_stay h]; exact h
theorem stay_dot (s : RS) (h : ¬ s.2 = 0) : ¬ (rDot s).2.2 = 0 := by unfold rDot; rw [rNum_stay h, rInt_stay h]; exact h
theorem stay_val (s : RS) (h : ¬ s.2 = 0) : ¬ (rVal s).2.2 = 0 := by
  have h1 := stay_dot s h
  unfold rVal
  rw [rFlag_stay h1, rText_stay h1]; exact h1
theorem sib_vec {s : RS} (h : (sibL s).2.2 = 0) : (rVec s).2.2 = 0 := Classical.byContradiction fun h2 => by
  have h3 : ¬ (sibN s).2.2 = 0 := by unfold sibN; rw [rCount_stay h2]; exact h2
  exact stay_many stay_val _ h3 h
theorem sibOk_vec {s : RS} (h : vecOk s = false) : sibOk s = false := by
  rw [Bool.eq_false_iff]
  intro h2
  unfold sibOk at h2
  simp only [Bool.and_eq_true, decide_eq_true_eq] at h2
  have h3 := sib_vec h2.1
  have h4 := (maySib_and h2.2).1
  unfold vecOk at h
  rw [h4, decide_eq_true h3] at h; cases h
/-- What is cut off may not be. -/
theorem capD_id {c : Int} {d : PDot} (h : d.1 ≤ c) : capD c d = d := by unfold capD; rw [show min d.1 c = d.1 by omega]
theorem covers_cap {v : List Int} {c : Int} {d : PDot} (hc : 8 ≤ c) : covers v (capD c d) = covers v d := by
  by_cases h : d.1 ≤ c
  · rw [capD_id h]
  · unfold covers capD; dsimp only
    rw [decide_eq_false (by omega), decide_eq_false (by omega)]
theorem dots_cap {v : List Int} {c : Int} (hc : 8 ≤ c) (l : List PDot) : rall l.length (dotAt v (l.map (capD c))) = rall l.length (dotAt v l) := by
  by_cases h : ∀ d ∈ l, d.1 ≤ c
  · rw [show l.map (capD c) = l from by
      conv => rhs; rw [← List.map_id l]
      exact List.map_congr_left fun d hd => capD_id (h d hd)]
  · have ⟨d, hd, hn⟩ : ∃ d ∈ l, ¬ d.1 ≤ c := Classical.byContradiction fun h2 => h fun d hd => Classical.byContradiction fun h3 => h2 ⟨d, hd, h3⟩
    obtain ⟨i, hi⟩ := List.mem_iff_getElem?.1 hd
    have hil := (List.getElem?_eq_some_iff.1 hi).1
    have h1 : covers v d = false := by unfold covers; exact decide_eq_false (by omega)
    rw [rall_no hil (k := i) (by rw [dotAt_eq (map_get (capD c) hi), covers_cap hc, h1]; rfl), rall_no hil (k := i) (by rw [dotAt_eq hi, h1]; rfl)]
theorem vals_cap {v : List Int} {c : Int} (hc : 8 ≤ c) (l : List PVal) : rall l.length (okAt v (l.map (capV c))) = rall l.length (okAt v l) := by
  by_cases h : ∀ d ∈ l, d.1.1 ≤ c
  · rw [show l.map (capV c) = l from by
      conv => rhs; rw [← List.map_id l]
      exact List.map_congr_left fun d hd => by unfold capV; rw [capD_id (h d hd)]; rfl]
  · have ⟨d, hd, hn⟩ : ∃ d ∈ l, ¬ d.1.1 ≤ c := Classical.byContradiction fun h2 => h fun d hd => Classical.byContradiction fun h3 => h2 ⟨d, hd, h3⟩
    obtain ⟨i, hi⟩ := List.mem_iff_getElem?.1 hd
    have hil := (List.getElem?_eq_some_iff.1 hi).1
    have h1 : covers v d.1 = false := by unfold covers; exact decide_eq_false (by omega)
    have e1 : okAt v (l.map (capV c)) i = false := by
      unfold okAt; rw [dotAt_eq (map_get (·.1) (map_get (capV c) hi))]
      show (_ && (covers v (capD c d.1) && _)) = false
      rw [covers_cap hc, h1, Bool.false_and, Bool.and_false]
    have e2 : okAt v l i = false := by unfold okAt; rw [dotAt_eq (map_get (·.1) hi), h1, Bool.false_and, Bool.and_false]
    rw [rall_no hil e1, rall_no hil e2]
theorem sib_cap {v : List Int} {c : Int} (hc : 8 ≤ c) (l : List PVal) : maySib (v, l.map (capV c)) = maySib (v, l) := by
  unfold maySib; dsimp only; rw [List.length_map, vals_cap hc]
theorem sib_capId {v : List Int} {c : Int} (hc : 8 ≤ c) {l : List PVal} (h : maySib (v, l) = true) : l.map (capV c) = l := by
  obtain ⟨hv, _, hr⟩ := maySib_and h
  conv => rhs; rw [← List.map_id l]
  refine List.map_congr_left fun d hd => ?_
  obtain ⟨i, hi⟩ := List.mem_iff_getElem?.1 hd
  have := (okAt_in hv hr hi).1
  unfold capV; rw [capD_id (by omega)]; rfl
theorem dig_cap {k : List UInt8} {v : List Int} {c : Int} (hc : 8 ≤ c) (l : List PDot) : mayDig (k, v, l.map (capD c)) = mayDig (k, v, l) := by
  unfold mayDig; dsimp only; rw [List.length_map, dots_cap hc]
theorem dig_capId {k : List UInt8} {v : List Int} {c : Int} (hc : 8 ≤ c) {l : List PDot} (h : mayDig (k, v, l) = true) : l.map (capD c) = l := by
  obtain ⟨_, hv, _, hr⟩ := mayDig_and h
  conv => rhs; rw [← List.map_id l]
  refine List.map_congr_left fun d hd => ?_
  obtain ⟨i, hi⟩ := List.mem_iff_getElem?.1 hd
  have := dotAt_in hv hr hi
  rw [capD_id (by omega)]; rfl
theorem put_vec {k m : Nat} {x : Int} : ∀ (A : List Int), A.length = k → Put (i64s (A ++ List.replicate (m + 1) 0)) k [.int .i64 x] (i64s (A ++ [x] ++ List.replicate m 0))
  | [], h => by subst h; exact .cons .nil
  | y :: A, h => by
    subst h
    exact .succ (put_vec A rfl)
theorem many_snoc {α β γ : Type} {f : RS → α × RS} {p : β → γ} {g : α → γ} {k : Nat} {s : RS} {L : List β} {x : β} (h : L.map p = (rMany f k s).1.map g) (he : p x = g (f (rMany f k s).2).1) : (L ++ [x]).map p = (rMany f (k + 1) s).1.map g := by
  show _ = ((rMany f k s).1 ++ [_]).map g
  rw [List.map_append, h, List.map_append]; simp [he]
theorem sibV_yes {s : RS} (h : sibOk s = true) : sibV s = ((rVec s).1, (sibL s).1) := if_pos h
theorem sibV_no {s : RS} (h : sibOk s = false) : sibV s = (z8, []) := if_neg (by rw [h]; decide)
/-- What reading sibs answers, whatever is cut off. -/
theorem sib_done {s : RS} {c : Int} (hc : 8 ≤ c) {l : List PVal} (hl : l = (sibL s).1.map (capV c)) (hv : vecOk s = true) (hs : (sibL s).2.2 = 0) (hm : maySib (vecV s, l) = true) : sibOk s = true ∧ (vecV s, l) = sibV s := by
  rw [vecV_yes hv] at *
  subst hl
  rw [sib_cap hc] at hm
  have h1 : sibOk s = true := by unfold sibOk; rw [decide_eq_true hs, hm]; rfl
  refine ⟨h1, ?_⟩
  rw [sibV_yes h1, sib_capId hc hm]
theorem sib_fail1 {s : RS} (hs : ¬ (sibL s).2.2 = 0) : sibOk s = false := by unfold sibOk; rw [decide_eq_false hs]; rfl
theorem sib_fail2 {s : RS} {c : Int} (hc : 8 ≤ c) {l : List PVal} (hl : l = (sibL s).1.map (capV c)) (hv : vecOk s = true) (hm : maySib (vecV s, l) = false) : sibOk s = false := by
  rw [vecV_yes hv] at hm
  subst hl
  rw [sib_cap hc] at hm
  unfold sibOk; rw [hm, Bool.and_false]
/-! ### Entries, digests, members -/
def entOk (s : RS) : Bool := sibOk (rText 32 s).2 && mayEnt ((rText 32 s).1, sibV (rText 32 s).2)
def entV (s : RS) : PEnt := if entOk s = true then ((rText 32 s).1, sibV (rText 32 s).2) else ([], z8, [])
def rEnt (s : RS) : (PEnt × Bool) × RS := ((entV s, entOk s), (sibL (rText 32 s).2).2)
theorem entV_yes {s : RS} (h : entOk s = true) : entV s = ((rText 32 s).1, sibV (rText 32 s).2) := if_pos h
theorem entV_no {s : RS} (h : entOk s = false) : entV s = ([], z8, []) := if_neg (by rw [h]; decide)
theorem ent_yes {s : RS} {e : PEnt} (he : ((rText 32 s).1, sibV (rText 32 s).2) = e) (h1 : sibOk (rText 32 s).2 = true) (h2 : mayEnt e = true) : entOk s = true := by subst he; unfold entOk; rw [h1, h2]; rfl
theorem ent_no1 {s : RS} (h1 : sibOk (rText 32 s).2 = false) : entOk s = false := by unfold entOk; rw [h1]; rfl
theorem ent_no2 {s : RS} {e : PEnt} (he : ((rText 32 s).1, sibV (rText 32 s).2) = e) (h2 : mayEnt e = false) : entOk s = false := by subst he; unfold entOk; rw [h2, Bool.and_false]
theorem sibOk_err {s : RS} (h : sibOk s = true) : (sibL s).2.2 = 0 := by unfold sibOk at h; simp only [Bool.and_eq_true, decide_eq_true_eq] at h; exact h.1
theorem ent_no3 {s : RS} (h : ¬ (sibL (rText 32 s).2).2.2 = 0) : entOk s = false := ent_no1 (sib_fail1 h)
def digN (s : RS) : Nat × RS := rCount 16 (rVec (rText 32 s).2).2
def digL (s : RS) : List PDot × RS := rMany rDot (digN s).1 (digN s).2
def digOk (s : RS) : Bool := decide ((digL s).2.2 = 0) && mayDig ((rText 32 s).1, (rVec (rText 32 s).2).1, (digL s).1)
def digV (s : RS) : PDig := if digOk s = true then ((rText 32 s).1, (rVec (rText 32 s).2).1, (digL s).1) else ([], z8, [])
def rDig (s : RS) : (PDig × Bool) × RS := ((digV s, digOk s), (digL s).2)
theorem digV_yes {s : RS} (h : digOk s = true) : digV s = ((rText 32 s).1, (rVec (rText 32 s).2).1, (digL s).1) := if_pos h
theorem digV_no {s : RS} (h : digOk s = false) : digV s = ([], z8, []) := if_neg (by rw [h]; decide)
theorem text_rest (s : RS) : (rText 32 s).2.1.length ≤ s.1.length := rText_rest _ _
theorem digN_rest (s : RS) : (digN s).2.1.length ≤ s.1.length := Nat.le_trans (rCount_rest _ _) (Nat.le_trans (vec_rest _) (text_rest s))
theorem dig_rest (s : RS) : (digL s).2.1.length ≤ s.1.length := Nat.le_trans (rest_many rDot_rest _ _) (digN_rest s)
theorem ent_rest (s : RS) : (rEnt s).2.1.length ≤ s.1.length := Nat.le_trans (sib_rest _) (text_rest s)
theorem inv_dig {s : RS} (h : InvR s) : InvR (digL s).2 := inv_many (fun _ => inv_dot) _ (inv_count (inv_vec (inv_text h)))
theorem inv_ent {s : RS} (h : InvR s) : InvR (rEnt s).2 := inv_sib (inv_text h)
theorem dig_vec {s : RS} (h : (digL s).2.2 = 0) : (rVec (rText 32 s).2).2.2 = 0 := Classical.byContradiction fun h2 => by
  have h3 : ¬ (digN s).2.2 = 0 := by unfold digN; rw [rCount_stay h2]; exact h2
  exact stay_many stay_dot _ h3 h
theorem digOk_vec {s : RS} (h : vecOk (rText 32 s).2 = false) : digOk s = false := by
  rw [Bool.eq_false_iff]
  intro h2
  unfold digOk at h2
  simp only [Bool.and_eq_true, decide_eq_true_eq] at h2
  have h3 := dig_vec h2.1
  have h4 := (mayDig_and h2.2).2.1
  unfold vecOk at h
  rw [h4, decide_eq_true h3] at h; cases h
theorem dig_done {s : RS} {c : Int} (hc : 8 ≤ c) {k : List UInt8} {l : List PDot} (hk : (rText 32 s).1 = k) (hl : l = (digL s).1.map (capD c)) (hv : vecOk (rText 32 s).2 = true) (hs : (digL s).2.2 = 0) (hm : mayDig (k, vecV (rText 32 s).2, l) = true) : digOk s = true ∧ (k, vecV (rText 32 s).2, l) = digV s := by
  rw [vecV_yes hv] at *
  subst hl; subst hk
  rw [dig_cap hc] at hm
  have h1 : digOk s = true := by unfold digOk; rw [decide_eq_true hs, hm]; rfl
  refine ⟨h1, ?_⟩
  rw [digV_yes h1, dig_capId hc hm]
theorem dig_fail1 {s : RS} (hs : ¬ (digL s).2.2 = 0) : digOk s = false := by unfold digOk; rw [decide_eq_false hs]; rfl
theorem dig_fail2 {s : RS} {c : Int} (hc : 8 ≤ c) {k : List UInt8} {l : List PDot} (hk : (rText 32 s).1 = k) (hl : l = (digL s).1.map (capD c)) (hv : vecOk (rText 32 s).2 = true) (hm : mayDig (k, vecV (rText 32 s).2, l) = false) : digOk s = false := by
  rw [vecV_yes hv] at hm
  subst hl; subst hk
  rw [dig_cap hc] at hm
  unfold digOk; rw [hm, Bool.and_false]
theorem end_left {s : RS} (h : InvR s) (h1 : ¬ rEnd s = 0) (h2 : s.1.length = 0) : ¬ s.2 = 0 := fun h3 => by
  rcases (good_iff h).2 h3 with h4 | h4
  · exact h1 h4
  · omega
theorem end_left2 {s : RS} (h : InvR s) (h1 : rEnd s = 0 ∨ ¬ s.1.length = 0) : s.2 = 0 := (good_iff h).1 (h1.imp id (by omega))
def memOk (s : RS) : Bool := decide ((rDot s).2.2 = 0) && mayMem (rDot s).1
def memV (s : RS) : PDot := if memOk s = true then (rDot s).1 else (0, 0)
def rMem (s : RS) : (PDot × Bool) × RS := ((memV s, memOk s), (rDot s).2)
theorem mem_cap {c : Int} {d : PDot} (hc : 3 ≤ c) : mayMem (capD c d) = mayMem d := by
  by_cases h : d.1 ≤ c
  · rw [capD_id h]
  · unfold mayMem capD; dsimp only
    rw [decide_eq_false (by omega), decide_eq_false (by omega)]
theorem mem_done {s : RS} {c : Int} (hc : 3 ≤ c) (hs : (rDot s).2.2 = 0) (hm : mayMem (capD c (rDot s).1) = true) : memOk s = true ∧ capD c (rDot s).1 = memV s := by
  have h2 := hm
  rw [mem_cap hc] at hm
  have h1 : memOk s = true := by unfold memOk; rw [decide_eq_true hs, hm]; rfl
  refine ⟨h1, ?_⟩
  have := mayMem_in hm
  unfold memV; rw [if_pos h1, capD_id (by omega)]
theorem mem_fail1 {s : RS} (hs : ¬ (rDot s).2.2 = 0) : memOk s = false := by unfold memOk; rw [decide_eq_false hs]; rfl
theorem mem_fail2 {s : RS} {c : Int} (hc : 3 ≤ c) (hm : mayMem (capD c (rDot s).1) = false) : memOk s = false := by rw [mem_cap hc] at hm; unfold memOk; rw [hm, Bool.and_false]
theorem memV_no {s : RS} (h : memOk s = false) : memV s = (0, 0) := if_neg (by rw [h]; decide)
/-- Values and dots that a call read itself. -/
def okVs (L : List ValT) : Prop := L.length ≤ 16 ∧ ∀ v ∈ L, v.2.1.2.2.length ≤ 200
theorem valR_own {W w : World} {l l' : List HP} {T B : Nat} {q : Option Addr} {c : Nat} {L : List ValT} (h : Sat W l w) (s : Sel (Rw T 4 q L.length c (L.flatMap valC)) l l') {l'' : List HP} (s2 : Sel (Rws B (L.map fun v : ValT => v.2.1)) l l'') (h1 : L.length ≤ 1000) (h2 : ∀ v ∈ L, v.2.1.2.2.length ≤ 200) : ValsAt w (q, c, L) :=
  ⟨h.slOfRw s, fun v hv => ⟨h.rws s2 v.2.1 (List.mem_map.2 ⟨v, hv, rfl⟩), by have := h2 v hv; omega⟩, by show L.length ≤ _; omega⟩
theorem Sat.valOwn {W w : World} {l l' : List HP} {T B : Nat} {q : Option Addr} {c : Nat} {L : List ValT} (h : Sat W l w) (s : Sel (ValR T B (q, c, L)) l l') (hk : okVs L) : ValsAt w (q, c, L) :=
  valR_own (Sat.unall (h.sel s)) .head (.tail .head) (by have := hk.1; omega) hk.2
end Go.Sl
