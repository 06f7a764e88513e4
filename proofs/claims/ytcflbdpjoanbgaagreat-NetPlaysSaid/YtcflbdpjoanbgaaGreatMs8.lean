/-
  Messages of bytes: what is cut off makes no difference.
  Conditions: none; it speaks of every program of the model.
-/
import Derived.Test.YtcflbdpjoanbgaaGreatMs7
namespace Go.Sl
open Go
set_option linter.unusedSimpArgs false
set_option linter.unusedVariables false

theorem and3 {a b : Bool} (h1 : a = true) (h2 : b = true) : ((true && a) && b) = true := by rw [h1, h2]; rfl
def zeroM : PMsg := ⟨0, 0, 0, 0, 0, [], 0, [], [], []⟩
def capM (c : Int) (x : PMsg) : PMsg := ⟨min x.kind c, min x.from' c, min x.to c, x.op, min x.for' c, x.key, min x.bucket c, x.ents, x.digs, x.mems⟩
theorem parts0 {k : Int} (h : 10 ≤ k) : partsI k = 0 := by
  unfold partsI
  rw [if_neg (by omega), if_neg (by omega), if_neg (by omega), if_neg (by omega), if_neg (by omega), if_neg (by omega), if_neg (by omega), if_neg (by omega)]
theorem mayM_parts {x : PMsg} (h : partsI x.kind = 0) : mayM x = false := mayM_no rfl (fun hh => hh.1 h)
theorem plI_min {b : Bool} {n c m : Int} (hm : 0 ≤ m ∧ m ≤ c) : (0 ≤ plI b (min n c) ∧ plI b (min n c) < m) ↔ (0 ≤ plI b n ∧ plI b n < m) := by
  cases b
  · exact Iff.rfl
  · show (0 ≤ min n c ∧ min n c < m) ↔ (0 ≤ n ∧ n < m); omega
theorem mayM_cap {c : Int} (hc : 60000 ≤ c) (x : PMsg) : mayM (capM c x) = mayM x := by
  obtain ⟨k, f, t, o, r, ky, b, es, ds, ms⟩ := x
  by_cases h : k ≤ c
  · unfold mayM mayPl plP capM
    dsimp only
    rw [show min k c = k by omega]
    congr 1
    apply decide_eq_decide.2
    unfold okM
    dsimp only
    refine and_congr Iff.rfl (and_congr (by omega) (and_congr (by omega) (and_congr Iff.rfl (and_congr ?_ (and_congr ?_ Iff.rfl)))))
    · cases hasP 1 k
      · exact Iff.rfl
      · show (0 ≤ min r c ∧ min r c ≤ 7) ↔ (0 ≤ r ∧ r ≤ 7); omega
    · cases hasP 3 k
      · exact Iff.rfl
      · show (0 ≤ min b c ∧ min b c ≤ 3) ↔ (0 ≤ b ∧ b ≤ 3); omega
  · rw [mayM_parts (x := capM c _) (by show partsI (min k c) = 0; rw [parts_cap (by omega)]; exact parts0 (by omega)), mayM_parts (by exact parts0 (by show 10 ≤ k; omega))]
theorem capM_id {c : Int} (hc : 60000 ≤ c) {x : PMsg} (h : mayM x = true) (hf : hasP 1 x.kind = false → x.for' = 0) (hb : hasP 3 x.kind = false → x.bucket = 0) : capM c x = x := by
  obtain ⟨⟨h1, h2, h3, h4, h5, h6, _⟩, _⟩ := mayM_and h
  obtain ⟨k, f, t, o, r, ky, b, es, ds, ms⟩ := x
  dsimp only [plP] at h1 h2 h3 h4 h5 h6 hf hb
  have hk := kind_in h1
  have hr : min r c = r := by
    cases h7 : hasP 1 k with
    | true => rw [h7] at h5; dsimp only [plI] at h5; omega
    | false => have := hf h7; omega
  have hbk : min b c = b := by
    cases h7 : hasP 3 k with
    | true => rw [h7] at h6; dsimp only [plI] at h6; omega
    | false => have := hb h7; omega
  unfold capM
  dsimp only
  rw [show min k c = k by omega, show min f c = f by omega, show min t c = t by omega, hr, hbk]
theorem mem_states (k : Nat) (s : RS) : (rMany rMem k s).2 = (rMany rDot k s).2 := by
  induction k with
  | zero => rfl
  | succ k ih => show (rDot (rMany rMem k s).2).2 = (rDot (rMany rDot k s).2).2; rw [ih]
theorem allOk_snoc {α : Type} {l : List (α × Bool)} {x : α × Bool} : allOk (l ++ [x]) = (allOk l && x.2) := by unfold allOk; rw [List.all_append]; simp
theorem memV_yes {s : RS} (h : memOk s = true) : memV s = (rDot s).1 := if_pos h
theorem mem_vals {k : Nat} {s : RS} (h : allOk (rMany rMem k s).1 = true) : fstOk (rMany rMem k s).1 = (rMany rDot k s).1 := by
  induction k with
  | zero => rfl
  | succ k ih =>
    change allOk ((rMany rMem k s).1 ++ [(rMem (rMany rMem k s).2).1]) = true at h
    rw [allOk_snoc, Bool.and_eq_true] at h
    show fstOk ((rMany rMem k s).1 ++ [(rMem (rMany rMem k s).2).1]) = (rMany rDot k s).1 ++ [(rDot (rMany rDot k s).2).1]
    unfold fstOk
    rw [List.map_append, show (rMany rMem k s).1.map (fun z => z.1) = (rMany rDot k s).1 from ih h.1]
    show _ ++ [memV (rMany rMem k s).2] = _
    rw [memV_yes h.2, mem_states]
theorem mem_all {k : Nat} {s : RS} (he : (rMany rDot k s).2.2 = 0) (hm : (rMany rDot k s).1.all mayMem = true) : allOk (rMany rMem k s).1 = true := by
  induction k with
  | zero => rfl
  | succ k ih =>
    change (rDot (rMany rDot k s).2).2.2 = 0 at he
    change ((rMany rDot k s).1 ++ [(rDot (rMany rDot k s).2).1]).all mayMem = true at hm
    rw [List.all_append, Bool.and_eq_true] at hm
    have h1 : (rMany rDot k s).2.2 = 0 := Classical.byContradiction fun h => stay_dot _ h he
    show allOk ((rMany rMem k s).1 ++ [(rMem (rMany rMem k s).2).1]) = true
    rw [allOk_snoc, ih h1 hm.1]
    show (true && memOk (rMany rMem k s).2) = true
    rw [mem_states]
    unfold memOk
    rw [decide_eq_true he]
    simpa using hm.2
theorem mX_state (s : RS) : (mX s).2 = (mM s).2 := by
  unfold mX mM
  cases mh 6 s
  · rfl
  · exact (mem_states _ _).symm
def mMsg (s : RS) : PMsg := ⟨mK s, ((rNum (m1 s)).1 : Nat), ((rNum (m2 s)).1 : Nat), (mO s).1, ((mR s).1 : Nat), (mY s).1, ((mB s).1 : Nat), fstOk (mE s).1, fstOk (mD s).1, fstOk (mM s).1⟩
def mMsgX (s : RS) : PMsg := ⟨mK s, ((rNum (m1 s)).1 : Nat), ((rNum (m2 s)).1 : Nat), (mO s).1, ((mR s).1 : Nat), (mY s).1, ((mB s).1 : Nat), fstOk (mE s).1, fstOk (mD s).1, (mX s).1⟩
def decOk (s : RS) : Bool := decide (rEnd (mM s).2 = 0) && ((allOk (mE s).1 && allOk (mD s).1) && mayM (mMsgX s))
theorem decOk_and {s : RS} (h : decOk s = true) : rEnd (mM s).2 = 0 ∧ allOk (mE s).1 = true ∧ allOk (mD s).1 = true ∧ mayM (mMsgX s) = true := by
  unfold decOk at h; simp only [Bool.and_eq_true, decide_eq_true_eq] at h; exact ⟨h.1, h.2.1.1, h.2.1.2, h.2.2⟩
theorem decOk_yes {s : RS} (h1 : rEnd (mM s).2 = 0) (h2 : allOk (mE s).1 = true) (h3 : allOk (mD s).1 = true) (h4 : mayM (mMsgX s) = true) : decOk s = true := by unfold decOk; rw [decide_eq_true h1, h2, h3, h4]; rfl
theorem mR_no {s : RS} (h : hasP 1 (mK s) = false) : (mR s).1 = 0 := by unfold mR mh; rw [opt_no h]
theorem mB_no {s : RS} (h : hasP 3 (mK s) = false) : (mB s).1 = 0 := by unfold mB mh; rw [opt_no h]
theorem mM_vals {s : RS} (h : allOk (mM s).1 = true) : fstOk (mM s).1 = (mX s).1 := by
  unfold mM at h ⊢; unfold mX
  cases hb : mh 6 s
  · rfl
  · rw [hb] at h
    exact mem_vals h
theorem mMsg_eq {s : RS} (h : allOk (mM s).1 = true) : mMsg s = mMsgX s := by unfold mMsg mMsgX; rw [mM_vals h]
theorem end_err {s : RS} (h : rEnd s = 0) : s.2 = 0 := by unfold rEnd at h; split at h <;> omega
theorem mM_all {s : RS} (h1 : rEnd (mM s).2 = 0) (h4 : mayM (mMsgX s) = true) : allOk (mM s).1 = true := by
  have h2 := end_err h1
  rw [← mX_state] at h2
  have h3 := (mayM_and h4).2.2.2
  unfold mM
  cases hb : mh 6 s with
  | false => rw [opt_no rfl]; rfl
  | true =>
    rw [opt_yes rfl]
    have e : mX s = manyC 8 rDot (mD s).2 := opt_yes hb
    rw [e] at h2
    have hb2 : hasP 6 (mK s) = true := hb
    dsimp only [plP, mMsgX] at h3
    rw [hb2, e] at h3
    exact mem_all h2 h3
/-- The program's answer. -/
theorem dec_yes {s : RS} (h1 : rEnd (mM s).2 = 0) (hb : (((decide (¬ partsI ((rNum s).1 : Int) = 0) && allOk (mE s).1) && allOk (mD s).1) && allOk (mM s).1) = true) (h4 : mayM (capM 60000 (mMsg s)) = true) : decOk s = true ∧ capM 60000 (mMsg s) = mMsgX s := by
  simp only [Bool.and_eq_true] at hb
  rw [mayM_cap (by decide), mMsg_eq hb.2] at h4
  refine ⟨decOk_yes h1 hb.1.1.2 hb.1.2 h4, ?_⟩
  rw [mMsg_eq hb.2]
  exact capM_id (by decide) h4 (fun h => by show (((mR s).1 : Nat) : Int) = 0; rw [mR_no h]; rfl) (fun h => by show (((mB s).1 : Nat) : Int) = 0; rw [mB_no h]; rfl)
theorem dec_no {s : RS} (h : ¬ (rEnd (mM s).2 = 0 ∧ (((decide (¬ partsI ((rNum s).1 : Int) = 0) && allOk (mE s).1) && allOk (mD s).1) && allOk (mM s).1) = true ∧ mayM (capM 60000 (mMsg s)) = true)) : decOk s = false := by
  rw [Bool.eq_false_iff]
  intro hd
  obtain ⟨h1, h2, h3, h4⟩ := decOk_and hd
  have h5 := mM_all h1 h4
  refine h ⟨h1, ?_, by rw [mayM_cap (by decide), mMsg_eq h5]; exact h4⟩
  rw [h2, h3, h5, decide_eq_true (show ¬ partsI ((rNum s).1 : Int) = 0 from fun h0 => by rw [mayM_parts (x := mMsgX s) h0] at h4; cases h4)]; rfl
/-- The reference's answer. -/
def capX (c : Int) (x : PMsg) : PMsg := ⟨min x.kind c, min x.from' c, min x.to c, x.op, min x.for' c, x.key, min x.bucket c, x.ents, x.digs, x.mems.map (capD c)⟩
theorem capX_may {c : Int} (hc : 60000 ≤ c) (x : PMsg) : mayM (capX c x) = mayM x := by
  rw [← mayM_cap hc x]
  unfold mayM mayPl plP capX capM
  dsimp only
  have e : ∀ b, (plL b (x.mems.map (capD c))).all mayMem = (plL b x.mems).all mayMem := fun b => by
    cases b
    · rfl
    · show (x.mems.map (capD c)).all mayMem = x.mems.all mayMem
      rw [List.all_map]
      congr 1
      funext d
      exact mem_cap (by omega)
  have e2 : ∀ b, (plL b (x.mems.map (capD c))).length = (plL b x.mems).length := fun b => by cases b <;> simp [plL]
  rw [e]
  congr 1
  apply decide_eq_decide.2
  unfold okM
  dsimp only
  rw [e2]
theorem mX_no {s : RS} (h : hasP 6 (mK s) = false) : (mX s).1 = [] := by unfold mX mh; rw [opt_no h]
theorem decX_yes {s : RS} {c : Int} (hc : 60000 ≤ c) (h1 : rEnd (mX s).2 = 0) (h2 : allOk (mE s).1 = true) (h3 : allOk (mD s).1 = true) (h4 : mayM (capX c (mMsgX s)) = true) : decOk s = true ∧ capX c (mMsgX s) = mMsgX s := by
  rw [capX_may hc] at h4
  rw [mX_state] at h1
  refine ⟨decOk_yes h1 h2 h3 h4, ?_⟩
  have e1 := capM_id hc h4 (fun h => by show (((mR s).1 : Nat) : Int) = 0; rw [mR_no h]; rfl) (fun h => by show (((mB s).1 : Nat) : Int) = 0; rw [mB_no h]; rfl)
  have e2 : (mMsgX s).mems.map (capD c) = (mMsgX s).mems := by
    have h5 := (mayM_and h4).2.2.2
    cases hb : hasP 6 (mK s) with
    | false => show (mX s).1.map _ = (mX s).1; rw [mX_no hb]; rfl
    | true =>
      dsimp only [plP, mMsgX] at h5
      rw [hb] at h5
      show (mX s).1.map (capD c) = (mX s).1
      conv => rhs; rw [← List.map_id (mX s).1]
      refine List.map_congr_left fun d hd => ?_
      have := mayMem_in (List.all_eq_true.1 h5 d hd)
      rw [capD_id (by omega)]; rfl
  have e3 : capX c (mMsgX s) = { capM c (mMsgX s) with mems := (mMsgX s).mems.map (capD c) } := rfl
  rw [e3, e2, e1]
theorem decX_no {s : RS} {c : Int} (hc : 60000 ≤ c) (h : ¬ (rEnd (mX s).2 = 0 ∧ allOk (mE s).1 = true ∧ allOk (mD s).1 = true ∧ mayM (capX c (mMsgX s)) = true)) : decOk s = false := by
  rw [Bool.eq_false_iff]
  intro hd
  obtain ⟨h1, h2, h3, h4⟩ := decOk_and hd
  exact h ⟨by rw [mX_state]; exact h1, h2, h3, by rw [capX_may hc]; exact h4⟩
def ansE (bs : List UInt8) : Int := if 60000 < bs.length then 4 else if decOk (bs, 0) = true then 0 else 3
def ansV (bs : List UInt8) : PMsg := if ¬ 60000 < bs.length ∧ decOk (bs, 0) = true then mMsgX (bs, 0) else zeroM
theorem dec_long {bs : List UInt8} (h : 60000 < bs.length) : ansE bs = 4 ∧ ansV bs = zeroM := ⟨if_pos h, if_neg (fun h2 => h2.1 h)⟩
theorem dec_good {bs : List UInt8} (h : ¬ 60000 < bs.length) (h2 : decOk (bs, 0) = true) : ansE bs = 0 ∧ ansV bs = mMsgX (bs, 0) := ⟨by unfold ansE; rw [if_neg h, if_pos h2], if_pos ⟨h, h2⟩⟩
theorem dec_bad {bs : List UInt8} (h : ¬ 60000 < bs.length) (h2 : decOk (bs, 0) = false) : ansE bs = 3 ∧ ansV bs = zeroM := ⟨by unfold ansE; rw [if_neg h, if_neg (by rw [h2]; decide)], if_neg (fun h3 => by rw [h2] at h3; cases h3.2)⟩
end Go.Sl
