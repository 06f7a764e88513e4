/-
  The statement WireBack, walked.
  Conditions: none.
-/
import Derived.Test.YtmohhhokplpgkaaWire2
namespace Go.Proofs.Ytmohhhokplpgkaa
open Go Go.Sl
set_option linter.unusedVariables false
set_option linter.unusedSimpArgs false
theorem ag2 : aggO Try.prog 2 = some false := by kernel_rfl
theorem ag22 : aggO Try.prog 22 = some false := by kernel_rfl
theorem ag37 : aggO Try.prog 37 = some false := by kernel_rfl
theorem ag43 : aggO Try.prog 43 = some true := by kernel_rfl
theorem fb43_0 : fieldB Try.prog 43 0 0 = true := by kernel_rfl
theorem fb43_1 : fieldB Try.prog 43 1 1 = true := by kernel_rfl
theorem fb43_2 : fieldB Try.prog 43 2 2 = true := by kernel_rfl
theorem fb43_3 : fieldB Try.prog 43 3 3 = true := by kernel_rfl
theorem fb43_4 : fieldB Try.prog 43 4 4 = true := by kernel_rfl
theorem fn17 : fnB Try.prog 17 = true := by kernel_rfl
theorem fn18 : fnB Try.prog 18 = true := by kernel_rfl
theorem fn19 : fnB Try.prog 19 = true := by kernel_rfl
theorem fn20 : fnB Try.prog 20 = true := by kernel_rfl
theorem fn22 : fnB Try.prog 22 = true := by kernel_rfl
theorem fn24 : fnB Try.prog 24 = true := by kernel_rfl
theorem fn25 : fnB Try.prog 25 = true := by kernel_rfl
theorem fn28 : fnB Try.prog 28 = true := by kernel_rfl
theorem fn34 : fnB Try.prog 34 = true := by kernel_rfl
theorem fn39 : fnB Try.prog 39 = true := by kernel_rfl
theorem fn44 : fnB Try.prog 44 = true := by kernel_rfl
theorem fn45 : fnB Try.prog 45 = true := by kernel_rfl
theorem fn46 : fnB Try.prog 46 = true := by kernel_rfl
theorem fn47 : fnB Try.prog 47 = true := by kernel_rfl
theorem pl40 : placesO Try.prog 40 = some [(0, 1), (1, 1), (2, 1)] := by kernel_rfl
theorem sz43 : (Try.prog.info? 43).map (·.size) = some 6 := by kernel_rfl
theorem zr40 : (Try.prog.info? 40).bind (·.zero) = some (.agg #[.slice none 0 0, .int .i64 0, .bool false]) := by kernel_rfl
theorem zr43 : (Try.prog.info? 43).bind (·.zero) = some (.agg #[.int .i64 0, .int .u64 0, .int .i64 0, .bool false, .slice none 0 0, .int .i64 0]) := by kernel_rfl
abbrev CallT := Int × Nat × Int × Bool × Sli UInt8 × Int × Unit
def callC (x : CallT) : List Value := [.int .i64 x.1, .int .u64 (x.2.1 : Nat), .int .i64 x.2.2.1, .bool x.2.2.2.1, .slice x.2.2.2.2.1.1 x.2.2.2.2.1.2.2.length x.2.2.2.2.1.2.1, .int .i64 x.2.2.2.2.2.1]
theorem callC_len (x : CallT) : (callC x).length = 6 := rfl
structure CallOk (W : World) (R : List HP) (x : CallT) : Prop where
  num : x.2.1 < 18446744073709551616
  int : -9223372036854775808 ≤ x.2.2.1 ∧ x.2.2.1 ≤ 9223372036854775807
  len : x.2.2.2.2.1.2.2.length ≤ 140737488351232
  most : -9223372036854775808 ≤ x.2.2.2.2.2.1 ∧ x.2.2.2.2.2.1 ≤ 9223372036854775807
  view : ∀ w, Sat W R w → SlAt w x.2.2.2.2.1.1 x.2.2.2.2.1.2.2.length 1 (bvs x.2.2.2.2.1.2.2)
theorem CallOk.sub {W : World} {R R' : List HP} {x : CallT} (h : CallOk W R x) (f : ∀ w, Sat W R' w → Sat W R w) : CallOk W R' x := ⟨h.num, h.int, h.len, h.most, fun w hw => h.view w (f w hw)⟩
theorem CallOk.of {W : World} {P : Program} {e : TypeId} {x : CallT} (h : (-9223372036854775808 ≤ x.1 ∧ x.1 ≤ 9223372036854775807) ∧ x.2.1 < 18446744073709551616 ∧ (-9223372036854775808 ≤ x.2.2.1 ∧ x.2.2.1 ≤ 9223372036854775807) ∧ True ∧
    Sli.ok P W e 1 1 (fun c : UInt8 => [bv c]) (fun _ => True) x.2.2.2.2.1 ∧ (-9223372036854775808 ≤ x.2.2.2.2.2.1 ∧ x.2.2.2.2.2.1 ≤ 9223372036854775807) ∧ True) : CallOk W [Old W] x := by
  obtain ⟨_, h2, h3, _, ⟨s1, s2, s3, s4, s5, s6⟩, h6, _⟩ := h
  exact ⟨h2, h3, by omega, h6, fun w h => h.slOfOld .head (by rw [flat_bv] at s1; exact s1)⟩

def encC (x : CallT) : List UInt8 := if x.1 = 0 then numB x.2.1 else if x.1 = 1 then numB (zz x.2.2.1) else if x.1 = 2 then flagB x.2.2.2.1 else textB x.2.2.2.2.1.2.2

theorem write_c (p1 p2 : Nat) (most : Int) (s : WS) (x : CallT) {W : World} {R : List HP} {w : World} (hS : Sat W (WrP 5 67 p1 most s :: WrP 5 40 p2 most s :: R) w) (hm : 0 ≤ most ∧ most ≤ 9223372036854775807) (hr : most ≤ 140737488355328 ∨ s.1.length + (encC x).length ≤ 140737488355328) (hx : CallOk W R x) : Calls Try.prog 19 [.pointer (some ⟨p1, 0, none⟩), .pointer (some ⟨p2, 0, none⟩), .agg (callC x).toArray].toArray w (Ret fun v w' => v = .tuple #[] ∧ Sat W (WrP 5 67 p1 most (wput most s (encC x)) :: WrP 5 40 p2 most (wput most s (encC x)) :: R) w') := by
  refine fn_start 46 Try.func19 rfl rfl rfl ?_
  intro a hf
  obtain ⟨hx1, hx2, hx3, hx4, hx5⟩ := hx
  refine c_seq ?_
  refine c_region ?_
  refine step_l (st_box hf (Wn.none rfl) hS rfl rfl (by rfl) rfl rfl ?_)
  clear hf hS; intro b_1 a w hf hS
  refine done_l ?_
  refine t_normal ?_
  refine c_seq ?_
  refine c_region ?_
  refine step_l (st_rd hf (Wn.none rfl) (rd_fieldAddrB hf rfl rfl fb43_0 rfl) hS rfl rfl ?_)
  clear hf; intro a hf
  refine step_l (st_rd hf (Wn.none rfl) (rd_load1 hf rfl rfl ag3 (by intro _ h; first | exact h.cell (by repeat (first | exact Sel.head | apply Sel.tail)) (by rfl))) hS rfl rfl ?_)
  clear hf; intro a hf
  refine done_l ?_
  refine t_normal ?_
  refine c_block ?_
  refine c_seq ?_
  refine c_region ?_
  refine step_l (st_rdB hf (Wn.none rfl) (rd_eql hf rfl rfl rfl) hS rfl rfl ?_ ?_)
  · clear hf; intro hc2 a hf
    have he : encC x = numB x.2.1 := if_pos hc2; rw [he] at hr
    refine step_l (st_rd hf (Wn.none rfl) (rd_assign hf rfl rfl) hS rfl rfl ?_)
    clear hf; intro a hf
    refine done_l ?_
    refine t_normal ?_
    refine c_true hf rfl ?_
    refine c_seq ?_
    refine c_region ?_
    refine step_l (st_rd hf (Wn.none rfl) (rd_move hf rfl rfl) hS rfl rfl ?_)
    clear hf; intro a hf
    refine step_l (st_rd hf (Wn.none rfl) (rd_fieldAddrB hf rfl rfl fb43_1 rfl) hS rfl rfl ?_)
    clear hf; intro a hf
    refine step_l (st_rd hf (Wn.none rfl) (rd_load1 hf rfl rfl ag22 (by intro _ h; first | exact h.cell (by repeat (first | exact Sel.head | apply Sel.tail)) (by rfl))) hS rfl rfl ?_)
    clear hf; intro a hf
    refine step_l (st_call hf (Wn.none rfl) rfl rfl rfl fn14 (WNum_c _ _ _ _ (hS.sel (by repeat (first | exact Sel.head | apply Sel.tail))) hm hr hx1) rfl rfl ?_)
    clear hf hS; rintro v a w ⟨rfl, hS⟩ hf
    refine done_l ?_
    refine t_normal ?_
    refine c_region ?_
    refine step_l (st_rd hf (Wn.none rfl) (rd_move hf rfl rfl) hS rfl rfl ?_)
    clear hf; intro a hf
    refine step_l (st_rd hf (Wn.none rfl) (rd_fieldAddrB hf rfl rfl fb43_1 rfl) hS rfl rfl ?_)
    clear hf; intro a hf
    refine step_l (st_rd hf (Wn.none rfl) (rd_load1 hf rfl rfl ag22 (by intro _ h; first | exact h.cell (by repeat (first | exact Sel.head | apply Sel.tail)) (by rfl))) hS rfl rfl ?_)
    clear hf; intro a hf
    refine step_l (st_call hf (Wn.none rfl) rfl rfl rfl fn44 (VNum_c _ _ _ _ (hS.sel (by repeat (first | exact Sel.head | apply Sel.tail))) hm hr hx1) rfl rfl ?_)
    clear hf hS; rintro v a w ⟨rfl, hS⟩ hf
    refine done_l ?_
    refine b_normal ?_
    refine e_none' hf rfl ?_
    rw [he]; exact ⟨rfl, hS.sub (by repeat (first | exact Sub.refl | exact Sub.none | exact Sub.behind | (apply Sub.cons; (focus ((repeat (first | exact Sel.head | apply Sel.tail)); done))) | apply Sub.skip))⟩
  · clear hf; intro hc2 a hf
    refine step_l (st_rd hf (Wn.none rfl) (rd_assign hf rfl rfl) hS rfl rfl ?_)
    clear hf; intro a hf
    refine done_l ?_
    refine t_normal ?_
    refine c_false hf rfl ?_
    refine c_seq ?_
    refine c_region ?_
    refine step_l (st_rdB hf (Wn.none rfl) (rd_eql hf rfl rfl rfl) hS rfl rfl ?_ ?_)
    · clear hf; intro hc3 a hf
      have he : encC x = numB (zz x.2.2.1) := (if_neg (by assumption)).trans (if_pos hc3); rw [he] at hr
      refine step_l (st_rd hf (Wn.none rfl) (rd_assign hf rfl rfl) hS rfl rfl ?_)
      clear hf; intro a hf
      refine done_l ?_
      refine t_normal ?_
      refine c_true hf rfl ?_
      refine c_seq ?_
      refine c_region ?_
      refine step_l (st_rd hf (Wn.none rfl) (rd_move hf rfl rfl) hS rfl rfl ?_)
      clear hf; intro a hf
      refine step_l (st_rd hf (Wn.none rfl) (rd_fieldAddrB hf rfl rfl fb43_2 rfl) hS rfl rfl ?_)
      clear hf; intro a hf
      refine step_l (st_rd hf (Wn.none rfl) (rd_load1 hf rfl rfl ag2 (by intro _ h; first | exact h.cell (by repeat (first | exact Sel.head | apply Sel.tail)) (by rfl))) hS rfl rfl ?_)
      clear hf; intro a hf
      refine step_l (st_call hf (Wn.none rfl) rfl rfl rfl fn15 (WInt_c _ _ _ _ (hS.sel (by repeat (first | exact Sel.head | apply Sel.tail))) hm hr hx2) rfl rfl ?_)
      clear hf hS; rintro v a w ⟨rfl, hS⟩ hf
      refine done_l ?_
      refine t_normal ?_
      refine c_region ?_
      refine step_l (st_rd hf (Wn.none rfl) (rd_move hf rfl rfl) hS rfl rfl ?_)
      clear hf; intro a hf
      refine step_l (st_rd hf (Wn.none rfl) (rd_fieldAddrB hf rfl rfl fb43_2 rfl) hS rfl rfl ?_)
      clear hf; intro a hf
      refine step_l (st_rd hf (Wn.none rfl) (rd_load1 hf rfl rfl ag2 (by intro _ h; first | exact h.cell (by repeat (first | exact Sel.head | apply Sel.tail)) (by rfl))) hS rfl rfl ?_)
      clear hf; intro a hf
      refine step_l (st_call hf (Wn.none rfl) rfl rfl rfl fn45 (VInt_c _ _ _ _ (hS.sel (by repeat (first | exact Sel.head | apply Sel.tail))) hm hr hx2) rfl rfl ?_)
      clear hf hS; rintro v a w ⟨rfl, hS⟩ hf
      refine done_l ?_
      refine b_normal ?_
      refine e_none' hf rfl ?_
      rw [he]; exact ⟨rfl, hS.sub (by repeat (first | exact Sub.refl | exact Sub.none | exact Sub.behind | (apply Sub.cons; (focus ((repeat (first | exact Sel.head | apply Sel.tail)); done))) | apply Sub.skip))⟩
    · clear hf; intro hc3 a hf
      refine step_l (st_rd hf (Wn.none rfl) (rd_assign hf rfl rfl) hS rfl rfl ?_)
      clear hf; intro a hf
      refine done_l ?_
      refine t_normal ?_
      refine c_false hf rfl ?_
      refine c_seq ?_
      refine c_region ?_
      refine step_l (st_rdB hf (Wn.none rfl) (rd_eql hf rfl rfl rfl) hS rfl rfl ?_ ?_)
      · clear hf; intro hc4 a hf
        have he : encC x = flagB x.2.2.2.1 := (if_neg (by assumption)).trans ((if_neg (by assumption)).trans (if_pos hc4)); rw [he] at hr
        refine step_l (st_rd hf (Wn.none rfl) (rd_assign hf rfl rfl) hS rfl rfl ?_)
        clear hf; intro a hf
        refine done_l ?_
        refine t_normal ?_
        refine c_true hf rfl ?_
        refine c_seq ?_
        refine c_region ?_
        refine step_l (st_rd hf (Wn.none rfl) (rd_move hf rfl rfl) hS rfl rfl ?_)
        clear hf; intro a hf
        refine step_l (st_rd hf (Wn.none rfl) (rd_fieldAddrB hf rfl rfl fb43_3 rfl) hS rfl rfl ?_)
        clear hf; intro a hf
        refine step_l (st_rd hf (Wn.none rfl) (rd_load1 hf rfl rfl ag4 (by intro _ h; first | exact h.cell (by repeat (first | exact Sel.head | apply Sel.tail)) (by rfl))) hS rfl rfl ?_)
        clear hf; intro a hf
        refine step_l (st_call hf (Wn.none rfl) rfl rfl rfl fn39 (WFlag_c _ _ _ _ (hS.sel (by repeat (first | exact Sel.head | apply Sel.tail))) hm (by simpa [flagB] using hr)) rfl rfl ?_)
        clear hf hS; rintro v a w ⟨rfl, hS⟩ hf
        refine done_l ?_
        refine t_normal ?_
        refine c_region ?_
        refine step_l (st_rd hf (Wn.none rfl) (rd_move hf rfl rfl) hS rfl rfl ?_)
        clear hf; intro a hf
        refine step_l (st_rd hf (Wn.none rfl) (rd_fieldAddrB hf rfl rfl fb43_3 rfl) hS rfl rfl ?_)
        clear hf; intro a hf
        refine step_l (st_rd hf (Wn.none rfl) (rd_load1 hf rfl rfl ag4 (by intro _ h; first | exact h.cell (by repeat (first | exact Sel.head | apply Sel.tail)) (by rfl))) hS rfl rfl ?_)
        clear hf; intro a hf
        refine step_l (st_call hf (Wn.none rfl) rfl rfl rfl fn46 (VFlag_c _ _ _ _ (hS.sel (by repeat (first | exact Sel.head | apply Sel.tail))) hm (by simpa [flagB] using hr)) rfl rfl ?_)
        clear hf hS; rintro v a w ⟨rfl, hS⟩ hf
        refine done_l ?_
        refine b_normal ?_
        refine e_none' hf rfl ?_
        rw [he]; exact ⟨rfl, hS.sub (by repeat (first | exact Sub.refl | exact Sub.none | exact Sub.behind | (apply Sub.cons; (focus ((repeat (first | exact Sel.head | apply Sel.tail)); done))) | apply Sub.skip))⟩
      · clear hf; intro hc4 a hf
        have he : encC x = textB x.2.2.2.2.1.2.2 := (if_neg (by assumption)).trans ((if_neg (by assumption)).trans (if_neg hc4)); rw [he] at hr
        refine step_l (st_rd hf (Wn.none rfl) (rd_assign hf rfl rfl) hS rfl rfl ?_)
        clear hf; intro a hf
        refine done_l ?_
        refine t_normal ?_
        refine c_false hf rfl ?_
        refine c_seq ?_
        refine c_region ?_
        refine step_l (st_rd hf (Wn.none rfl) (rd_move hf rfl rfl) hS rfl rfl ?_)
        clear hf; intro a hf
        refine step_l (st_rd hf (Wn.none rfl) (rd_fieldAddrB hf rfl rfl fb43_4 rfl) hS rfl rfl ?_)
        clear hf; intro a hf
        refine step_l (st_rd hf (Wn.none rfl) (rd_load1 hf rfl rfl ag29 (by intro _ h; first | exact h.cell (by repeat (first | exact Sel.head | apply Sel.tail)) (by rfl))) hS rfl rfl ?_)
        clear hf; intro a hf
        refine step_l (st_call hf (Wn.none rfl) rfl rfl rfl fn18 (WText_c _ _ _ _ _ _ _ (hS.sel (by repeat (first | exact Sel.head | apply Sel.tail))) hm hr rfl (by omega) (fun _ h => hx5 _ (h.sub (by repeat (first | exact Sub.refl | exact Sub.none | exact Sub.behind | (apply Sub.cons; (focus ((repeat (first | exact Sel.head | apply Sel.tail)); done))) | apply Sub.skip))))) rfl rfl ?_)
        clear hf hS; rintro v a w ⟨rfl, hS⟩ hf
        refine done_l ?_
        refine t_normal ?_
        refine c_region ?_
        refine step_l (st_rd hf (Wn.none rfl) (rd_move hf rfl rfl) hS rfl rfl ?_)
        clear hf; intro a hf
        refine step_l (st_rd hf (Wn.none rfl) (rd_fieldAddrB hf rfl rfl fb43_4 rfl) hS rfl rfl ?_)
        clear hf; intro a hf
        refine step_l (st_rd hf (Wn.none rfl) (rd_load1 hf rfl rfl ag29 (by intro _ h; first | exact h.cell (by repeat (first | exact Sel.head | apply Sel.tail)) (by rfl))) hS rfl rfl ?_)
        clear hf; intro a hf
        refine step_l (st_call hf (Wn.none rfl) rfl rfl rfl fn47 (VText_c _ _ _ _ _ _ _ (hS.sel (by repeat (first | exact Sel.head | apply Sel.tail))) hm hr rfl (by omega) (fun _ h => hx5 _ (h.sub (by repeat (first | exact Sub.refl | exact Sub.none | exact Sub.behind | (apply Sub.cons; (focus ((repeat (first | exact Sel.head | apply Sel.tail)); done))) | apply Sub.skip))))) rfl rfl ?_)
        clear hf hS; rintro v a w ⟨rfl, hS⟩ hf
        refine done_l ?_
        refine b_normal ?_
        refine e_none' hf rfl ?_
        rw [he]; exact ⟨rfl, hS.sub (by repeat (first | exact Sub.refl | exact Sub.none | exact Sub.behind | (apply Sub.cons; (focus ((repeat (first | exact Sel.head | apply Sel.tail)); done))) | apply Sub.skip))⟩

abbrev txt (x : CallT) : List UInt8 := x.2.2.2.2.1.2.2
def encL : List CallT → List UInt8
  | [] => []
  | x :: L => (if (txt x).length ≤ 300 then encC x else []) ++ encL L
def cntL : List CallT → Nat
  | [] => 0
  | x :: L => (if (txt x).length ≤ 300 then 1 else 0) + cntL L
def wf (x : CallT) : Prop := x.2.1 < 18446744073709551616 ∧ (-9223372036854775808 ≤ x.2.2.1 ∧ x.2.2.1 ≤ 9223372036854775807)
theorem encC_len {x : CallT} (h : wf x) (hs : (txt x).length ≤ 300) : (encC x).length ≤ 310 ∧ 1 ≤ (encC x).length := by
  have h1 := numB_10 h.1; have h2 := numB_10 (zz_lt h.2); have h3 := numB_10 (show (txt x).length < 18446744073709551616 by omega)
  have h4 := numB_pos x.2.1; have h5 := numB_pos (zz x.2.2.1); have h6 := numB_pos (txt x).length
  unfold encC
  split
  · omega
  · split
    · omega
    · split
      · simp [flagB]
      · show (textB (txt x)).length ≤ 310 ∧ 1 ≤ (textB (txt x)).length
        simp only [textB, List.length_append]; omega
theorem encL_append : ∀ (L M : List CallT), encL (L ++ M) = encL L ++ encL M
  | [], M => rfl
  | x :: L, M => by simp only [List.cons_append, encL, encL_append L M, List.append_assoc]
theorem cntL_append : ∀ (L M : List CallT), cntL (L ++ M) = cntL L + cntL M
  | [], M => by simp [cntL]
  | x :: L, M => by simp only [List.cons_append, cntL, cntL_append L M, Nat.add_assoc]
theorem encL_len : ∀ (L : List CallT), (∀ x ∈ L, wf x) → (encL L).length ≤ 310 * L.length ∧ cntL L ≤ (encL L).length
  | [], _ => by simp [encL, cntL]
  | x :: L, h => by
    have ih := encL_len L (fun y hy => h y (by simp [hy]))
    simp only [encL, cntL, List.length_append, List.length_cons]
    split
    · rename_i hs; have := encC_len (h x (by simp)) hs; omega
    · simp; omega
def read1 (x : CallT) (s : RS) : Bool × RS := if x.1 = 0 then (decide ((rNum s).1 = x.2.1), (rNum s).2) else if x.1 = 1 then (decide ((rInt s).1 = x.2.2.1), (rInt s).2) else if x.1 = 2 then (decide ((rFlag s).1 = x.2.2.2.1), (rFlag s).2) else (decide ((rText 300 s).1 = txt x), (rText 300 s).2)
def readL : List CallT → RS → Bool × Int
  | [], s => (true, rEnd s)
  | x :: L, s => if (txt x).length > 300 then readL L s else if (read1 x s).1 then readL L (read1 x s).2 else (false, rEnd (read1 x s).2)
theorem readL_big {x : CallT} {L : List CallT} {s : RS} (h : (txt x).length > 300) : readL (x :: L) s = readL L s := if_pos h
theorem readL_yes {x : CallT} {L : List CallT} {s t : RS} (h : ¬ (txt x).length > 300) (h1 : read1 x s = (true, t)) : readL (x :: L) s = readL L t := by
  simp only [readL]; rw [if_neg h, h1]; rfl
theorem readL_no {x : CallT} {L : List CallT} {s t : RS} (h : ¬ (txt x).length > 300) (h1 : read1 x s = (false, t)) : readL (x :: L) s = (false, rEnd t) := by
  simp only [readL]; rw [if_neg h, h1]; rfl
theorem read1_ok {x : CallT} (h : wf x) (hs : (txt x).length ≤ 300) (r : List UInt8) : read1 x (encC x ++ r, 0) = (true, r, 0) := by
  unfold read1 encC
  by_cases h0 : x.1 = 0
  · rw [if_pos h0, if_pos h0, rNum_numB r h.1]; simp
  · rw [if_neg h0, if_neg h0]
    by_cases h1 : x.1 = 1
    · rw [if_pos h1, if_pos h1, rInt_numB r h.2]; simp
    · rw [if_neg h1, if_neg h1]
      by_cases h2 : x.1 = 2
      · rw [if_pos h2, if_pos h2, rFlag_flagB]; simp
      · rw [if_neg h2, if_neg h2]
        have := rText_textB (t := txt x) (most := 300) r (by omega) (by omega)
        rw [show textB x.2.2.2.2.1.2.2 = textB (txt x) from rfl, this]; simp
theorem rNum_cut {n k : Nat} (h : n < 18446744073709551616) (hk : k < (numB n).length) : rNum ((numB n).take k, 0) = (0, [], 2) := by
  unfold rNum rNumI
  rw [if_neg (fun k => k rfl)]
  exact numD_cut n 0 0 k (by omega) (.inl rfl) hk
theorem cut_text {t : List UInt8} {k : Nat} (hs : t.length ≤ 300) (hk : k < (textB t).length) : (rText 300 ((textB t).take k, 0)).2 = ([], 2) := by
  simp only [textB] at hk ⊢
  have h64 : t.length < 18446744073709551616 := by omega
  by_cases hk2 : k < (numB t.length).length
  · rw [List.take_append_of_le_length (by omega)]
    rw [rText_a (by rw [rCount_a (by rw [rNum_cut h64 hk2]; simp)]; rw [rNum_cut h64 hk2]; simp), rCount_a (by rw [rNum_cut h64 hk2]; simp), rNum_cut h64 hk2]
  · rw [List.take_append, List.take_of_length_le (show (numB t.length).length ≤ k by omega)]
    have hc : rCount 300 (numB t.length ++ t.take (k - (numB t.length).length), 0) = (t.length, t.take (k - (numB t.length).length), 0) := rCount_numB _ h64 (by omega)
    rw [rText_b (by rw [hc]) (by rw [hc]; simp only [List.length_append, List.length_take] at hk ⊢; omega)]
theorem read1_cut {x : CallT} (h : wf x) (hs : (txt x).length ≤ 300) {k : Nat} (hk : k < (encC x).length) : (read1 x ((encC x).take k, 0)).2 = ([], 2) := by
  unfold read1 encC at *
  by_cases h0 : x.1 = 0
  · rw [if_pos h0] at hk ⊢
    rw [if_pos h0, rNum_cut h.1 hk]
  · rw [if_neg h0] at hk ⊢
    rw [if_neg h0]
    by_cases h1 : x.1 = 1
    · rw [if_pos h1] at hk ⊢
      rw [if_pos h1]
      unfold rInt
      rw [rNum_cut (zz_lt h.2) hk]
    · rw [if_neg h1] at hk ⊢
      rw [if_neg h1]
      by_cases h2 : x.1 = 2
      · rw [if_pos h2] at hk ⊢
        rw [if_pos h2]
        have : k = 0 := by simp [flagB] at hk; omega
        subst this
        simp [rFlag]
      · rw [if_neg h2] at hk ⊢
        rw [if_neg h2]
        exact cut_text hs hk
theorem read1_stay {x : CallT} {s : RS} (h : ¬ s.2 = 0) : (read1 x s).2 = s := by
  unfold read1
  split
  · rw [rNum_stay h]
  · split
    · rw [rInt_stay h]
    · split
      · rw [rFlag_stay h]
      · rw [rText_stay h]
theorem rEnd_stay {s : RS} (h : ¬ s.2 = 0) : rEnd s = s.2 := by unfold rEnd; rw [if_neg (fun k => h k.1)]
theorem readL_stay {s : RS} (h : ¬ s.2 = 0) : ∀ L : List CallT, (readL L s).2 = s.2
  | [] => by simp only [readL]; exact rEnd_stay h
  | x :: L => by
    simp only [readL]
    split
    · exact readL_stay h L
    · split
      · rw [read1_stay h]; exact readL_stay h L
      · rw [read1_stay h]; exact rEnd_stay h
theorem readL_ok : ∀ L : List CallT, (∀ x ∈ L, wf x) → readL L (encL L, 0) = (true, 0)
  | [], _ => by simp [readL, encL, rEnd]
  | x :: L, h => by
    have ih := readL_ok L (fun y hy => h y (by simp [hy]))
    simp only [encL]
    by_cases hs : (txt x).length ≤ 300
    · rw [if_pos hs, readL_yes (by omega) (read1_ok (h x (by simp)) hs _)]; exact ih
    · rw [if_neg hs, readL_big (by omega)]; simpa using ih
theorem readL_cut : ∀ (L : List CallT) (k : Nat), (∀ x ∈ L, wf x) → k < (encL L).length → (readL L ((encL L).take k, 0)).2 ≠ 0
  | [], k, _, hk => by simp [encL] at hk
  | x :: L, k, h, hk => by
    have ih := fun k => readL_cut L k (fun y hy => h y (by simp [hy]))
    have hx := h x (by simp)
    simp only [encL] at hk ⊢
    by_cases hs : (txt x).length ≤ 300
    · rw [if_pos hs] at hk ⊢
      by_cases hk2 : k < (encC x).length
      · rw [List.take_append_of_le_length (by omega)]
        have h2 := read1_cut hx hs hk2
        simp only [readL]
        rw [if_neg (by omega), h2]
        split
        · rw [readL_stay (by simp)]; simp
        · rw [rEnd_stay (by simp)]; simp
      · rw [List.take_append, List.take_of_length_le (by omega), readL_yes (by omega) (read1_ok hx hs _)]
        exact ih _ (by rw [List.length_append] at hk; omega)
    · rw [if_neg hs] at hk ⊢
      rw [readL_big (by omega)]
      simpa using ih k (by simpa using hk)
theorem u64modN (n : Int) {m : Nat} (hm : 0 < m) : (IntKind.u64.wrap n).tmod ((m : Nat) : Int) = (((n % 18446744073709551616).toNat % m : Nat) : Int) := by
  rw [wrapP]
  have h0 : 0 ≤ n % 18446744073709551616 := Int.emod_nonneg _ (by omega)
  rw [Int.tmod_eq_emod_of_nonneg h0, Int.natCast_emod, Int.toNat_of_nonneg h0]

theorem read_c (bs : List UInt8) (q : Option Addr) (cap : Nat) (nb bl : Nat) (l : List CallT) (ql : Option Addr) (capl : Nat) {W : World} {R : List HP} {w : World} (hS : Sat W (R) w) (hnb : nb = bs.length) (hb : bs.length ≤ 140737488351232) (hv : ∀ w, Sat W R w → SlAt w q bs.length 1 (bvs bs)) (hl : ∀ x ∈ l, CallOk W R x) (hvl : ∀ w, Sat W R w → SlAt w ql l.length 6 (l.flatMap callC)) (hc : ∀ w, Sat W R w → w.cell? ⟨bl, 0, none⟩ = some (.slice ql l.length capl)) : Calls Try.prog 34 [.slice q nb cap, .pointer (some ⟨bl, 0, none⟩)].toArray w (Ret fun v w' => v = .tuple #[.bool (readL (l.take 40) (bs, 0)).1, .int .i64 (readL (l.take 40) (bs, 0)).2] ∧ Sat W R w') := by
  refine fn_start 65 Try.func34 rfl rfl rfl ?_
  intro a hf
  refine c_seq ?_
  refine c_region ?_
  refine step_l (st_rd hf (Wn.none rfl) (rd_assign hf rfl rfl) hS rfl rfl ?_)
  clear hf; intro a hf
  refine step_l (st_rd hf (Wn.none rfl) (rd_assign hf rfl rfl) hS rfl rfl ?_)
  clear hf; intro a hf
  refine done_l ?_
  refine t_normal ?_
  refine c_seq ?_
  refine c_region ?_
  refine step_l (st_rd hf (Wn.none rfl) (rd_move hf rfl rfl) hS rfl rfl ?_)
  clear hf; intro a hf
  refine step_l (st_call hf (Wn.none rfl) rfl rfl rfl fn20 (NewReader_c bs _ _ _ hS hnb (by omega) (fun _ h => hv _ h)) rfl rfl ?_)
  clear hf hS; rintro v a w ⟨pr, rfl, hS⟩ hf
  refine step_l (st_rd hf (Wn.none rfl) (rd_assign hf rfl rfl) hS rfl rfl ?_)
  clear hf; intro a hf
  refine done_l ?_
  refine t_normal ?_
  refine c_seq ?_
  refine c_seq ?_
  refine c_region ?_
  refine step_l (st_rd hf (Wn.none rfl) (rd_assign hf rfl rfl) hS rfl rfl ?_)
  clear hf; intro a hf
  refine done_l ?_
  refine t_normal ?_
  refine c_block ?_
  refine c_loop (α := Nat × RS) (fun ⟨i, s⟩ a w => Fits 65 a [(1, .pointer (some ⟨bl, 0, none⟩)), (5, .pointer (some ⟨pr, 0, none⟩)), (6, .int .i64 (i : Nat))] ∧ Sat W (RdP 71 pr s :: R) w ∧ i ≤ 40 ∧ s.1.length ≤ 140737488351232 ∧ readL (l.take 40) (bs, 0) = readL ((l.take 40).drop i) s) (fun ⟨i, s⟩ => 40 - i) (0, (bs, 0)) ?_ ?_
  · exact ⟨(((hf.k0.kb hf 6 rfl (by rfl)).kb hf 5 rfl (by rfl)).kb hf 1 rfl (by rfl)), hS.sub (by repeat (first | exact Sub.refl | exact Sub.none | exact Sub.behind | (apply Sub.cons; (focus ((repeat (first | exact Sel.head | apply Sel.tail)); done))) | apply Sub.skip)), ⟨by omega, hb, rfl⟩⟩
  · clear hf hS; rintro ⟨i, s⟩ a w ⟨hf, hS, ⟨hi, hs, hrec⟩⟩
    refine c_seq ?_
    refine c_seq ?_
    refine c_region ?_
    refine step_l (st_rd hf (Wn.none rfl) (rd_move hf rfl rfl) hS rfl rfl ?_)
    clear hf; intro a hf
    refine step_l (st_rd hf (Wn.none rfl) (rd_load1 hf rfl rfl ag37 (by intro _ h; exact hc _ (h.sub (by repeat (first | exact Sub.refl | exact Sub.none | exact Sub.behind | (apply Sub.cons; (focus ((repeat (first | exact Sel.head | apply Sel.tail)); done))) | apply Sub.skip))))) hS rfl rfl ?_)
    clear hf; intro a hf
    refine step_l (st_rd hf (Wn.none rfl) (rd_len hf rfl rfl Try.underlying37) hS rfl rfl ?_)
    clear hf; intro a hf
    refine step_l (st_rdB hf (Wn.none rfl) (rd_lss hf rfl rfl rfl) hS rfl rfl ?_ ?_)
    · clear hf; intro hc1 a hf
      refine step_l (st_rd hf (Wn.none rfl) (rd_move hf rfl rfl) hS rfl rfl ?_)
      clear hf; intro a hf
      refine step_l (st_rd hf (Wn.some hf rfl rfl rfl rfl) (rd_move hf rfl rfl) hS rfl rfl ?_)
      clear hf; intro a hf
      refine step_l (st_rdB hf (Wn.some hf rfl rfl rfl rfl) (rd_lss hf rfl rfl rfl) hS rfl rfl ?_ ?_)
      · clear hf; intro hc2 a hf
        obtain ⟨x, hget⟩ := get_of_lt (l := l) (k := i) (by omega) rfl; have hxt : (txt x).length = x.2.2.2.2.1.2.2.length := rfl; have hx := hl x (List.mem_of_getElem? hget); obtain ⟨hx1, hx2, hx3, hx4, hx5⟩ := hx; obtain ⟨adl, rfl⟩ := (hvl _ (hS.sub (by repeat (first | exact Sub.refl | exact Sub.none | exact Sub.behind | (apply Sub.cons; (focus ((repeat (first | exact Sel.head | apply Sel.tail)); done))) | apply Sub.skip)))).some (by omega); have hdrop : (l.take 40).drop i = x :: (l.take 40).drop (i + 1) := drop_at (by rw [List.getElem?_take_of_lt (by omega)]; exact hget)
        refine step_l (st_rd hf (Wn.none rfl) (rd_pick_t hf rfl rfl rfl) hS rfl rfl ?_)
        clear hf; intro a hf
        refine done_l ?_
        refine t_normal ?_
        refine c_true hf rfl ?_
        refine c_skip ?_
        refine t_normal ?_
        refine c_seq ?_
        refine c_block ?_
        refine c_seq ?_
        refine c_region ?_
        refine step_l (st_rd hf (Wn.none rfl) (rd_load1 hf rfl rfl ag37 (by intro _ h; exact hc _ (h.sub (by repeat (first | exact Sub.refl | exact Sub.none | exact Sub.behind | (apply Sub.cons; (focus ((repeat (first | exact Sel.head | apply Sel.tail)); done))) | apply Sub.skip))))) hS rfl rfl ?_)
        clear hf; intro a hf
        refine step_l (st_rd hf (Wn.none rfl) (rd_move hf rfl rfl) hS rfl rfl ?_)
        clear hf; intro a hf
        refine step_l (st_rd hf (Wn.none rfl) ((by first | exact rd_indexAddrN hf rfl rfl rfl Try.underlying37 sz43 (by omega) | exact rd_indexAddr hf rfl rfl rfl Try.underlying37 sz43 (by first | decide | omega) (by omega))) hS rfl rfl ?_)
        clear hf; intro a hf
        refine step_l (st_rd hf (Wn.none rfl) (rd_loadN hf rfl rfl ag43 sz43 (by intro _ h; exact (hvl _ (h.sub (by repeat (first | exact Sub.refl | exact Sub.none | exact Sub.behind | (apply Sub.cons; (focus ((repeat (first | exact Sel.head | apply Sel.tail)); done))) | apply Sub.skip)))).elem callC_len hget)) hS rfl rfl ?_)
        clear hf; intro a hf
        refine step_l (st_alloc hf (Wn.none rfl) hS rfl zr43 (by rfl) rfl rfl ?_)
        clear hf hS; intro b_c a w hf hS
        refine step_l (st_store hf (Wn.none rfl) hS rfl rfl rfl (by rfl) sz43 (by rfl) (by rfl) (by repeat (first | exact Sel.head | apply Sel.tail)) (by repeat (first | exact Put.nil | apply Put.cons | apply Put.succ)) rfl ?_)
        clear hf hS; intro a w hf hS
        refine done_l ?_
        refine t_normal ?_
        refine c_seq ?_
        refine c_seq ?_
        refine c_region ?_
        refine step_l (st_rd hf (Wn.none rfl) (rd_fieldAddrB hf rfl rfl fb43_4 rfl) hS rfl rfl ?_)
        clear hf; intro a hf
        refine step_l (st_rd hf (Wn.none rfl) (rd_load1 hf rfl rfl ag29 (by intro _ h; first | exact h.cell (by repeat (first | exact Sel.head | apply Sel.tail)) (by rfl))) hS rfl rfl ?_)
        clear hf; intro a hf
        refine step_l (st_rd hf (Wn.none rfl) (rd_len hf rfl rfl Try.underlying29) hS rfl rfl ?_)
        clear hf; intro a hf
        refine step_l (st_rdB hf (Wn.none rfl) (rd_gtr hf rfl rfl rfl) hS rfl rfl ?_ ?_)
        · clear hf; intro hc4 a hf
          refine done_l ?_
          refine t_normal ?_
          refine c_true hf rfl ?_
          refine c_exit ?_
          refine t_exit ?_
          refine b_exit ?_
          refine t_normal ?_
          refine c_region ?_
          refine step_l (st_rd hf (Wn.none rfl) (rd_move hf rfl rfl) hS rfl rfl ?_)
          clear hf; intro a hf
          refine step_l (st_rd hf (Wn.none rfl) (rd_add hf rfl rfl rfl (by first | exact Go.IntWalk.i64_in _ (by omega) | exact rfl)) hS rfl rfl ?_)
          clear hf; intro a hf
          refine step_l (st_rd hf (Wn.none rfl) (rd_assign hf rfl rfl) hS rfl rfl ?_)
          clear hf; intro a hf
          refine done_l ?_
          refine t_normal ⟨(i + 1, s), ⟨(((hf.k0.kb hf 6 rfl (by first | rfl | exact int_eq (by omega))).kb hf 5 rfl (by rfl)).kb hf 1 rfl (by rfl)), hS.sub (by repeat (first | exact Sub.refl | exact Sub.none | exact Sub.behind | (apply Sub.cons; (focus ((repeat (first | exact Sel.head | apply Sel.tail)); done))) | apply Sub.skip)), ⟨by omega, hs, by rw [hrec, hdrop, readL_big (by omega)]⟩⟩, by first | omega | (simp only []; omega)⟩
        · clear hf; intro hc4 a hf
          refine done_l ?_
          refine t_normal ?_
          refine c_false hf rfl ?_
          refine c_skip ?_
          refine t_normal ?_
          refine c_seq ?_
          refine c_region ?_
          refine step_l (st_rd hf (Wn.none rfl) (rd_assign hf rfl rfl) hS rfl rfl ?_)
          clear hf; intro a hf
          refine done_l ?_
          refine t_normal ?_
          refine c_seq ?_
          refine c_seq ?_
          refine c_region ?_
          refine step_l (st_rd hf (Wn.none rfl) (rd_fieldAddrB hf rfl rfl fb43_0 rfl) hS rfl rfl ?_)
          clear hf; intro a hf
          refine step_l (st_rd hf (Wn.none rfl) (rd_load1 hf rfl rfl ag3 (by intro _ h; first | exact h.cell (by repeat (first | exact Sel.head | apply Sel.tail)) (by rfl))) hS rfl rfl ?_)
          clear hf; intro a hf
          refine done_l ?_
          refine t_normal ?_
          refine c_block ?_
          refine c_seq ?_
          refine c_region ?_
          refine step_l (st_rdB hf (Wn.none rfl) (rd_eql hf rfl rfl rfl) hS rfl rfl ?_ ?_)
          · clear hf; intro hc5 a hf
            have hr0 : read1 x s = (decide ((rNum s).1 = x.2.1), (rNum s).2) := if_pos hc5
            refine step_l (st_rd hf (Wn.none rfl) (rd_assign hf rfl rfl) hS rfl rfl ?_)
            clear hf; intro a hf
            refine done_l ?_
            refine t_normal ?_
            refine c_true hf rfl ?_
            refine any_begin (S := Sat W (Blk b_c (callC x) 43 :: R)) mixed (hS.drew.sub (by repeat (first | exact Sub.refl | exact Sub.none | exact Sub.behind | (apply Sub.cons; (focus ((repeat (first | exact Sel.head | apply Sel.tail)); done))) | apply Sub.skip))) ?_
            have hT : Sat W (Blk b_c (callC x) 43 :: R) _ := hS.drew.sub (by repeat (first | exact Sub.refl | exact Sub.none | exact Sub.behind | (apply Sub.cons; (focus ((repeat (first | exact Sel.head | apply Sel.tail)); done))) | apply Sub.skip))
            replace hS := hS.drew
            refine any_take (i := 0) hf rfl (by kernel_rfl) (by kernel_rfl) (by kernel_rfl) (fun _ _ _ h => h) (Wn.none rfl) (rd_move hf rfl rfl) hT rfl rfl ?_
            clear hf; intro a hf
            refine any_take (i := 2) hf rfl (by kernel_rfl) (by kernel_rfl) (by kernel_rfl) (fun _ _ _ h => h) (Wn.none rfl) (rd_fieldAddrB hf rfl rfl fb43_1 rfl) hT rfl rfl ?_
            clear hf; intro a hf
            refine any_take (i := 3) hf rfl (by kernel_rfl) (by kernel_rfl) (by kernel_rfl) (fun _ _ _ h => h) (Wn.none rfl) (rd_load1 hf rfl rfl ag22 (by intro _ h; first | exact h.cell (by repeat (first | exact Sel.head | apply Sel.tail)) (by rfl))) hT rfl rfl ?_
            clear hf; intro a hf
            refine any_one (i := 1) rfl (by kernel_rfl) (st_call hf (Wn.none rfl) rfl rfl rfl fn21 (RWNum_c _ _ (hS.sel (by repeat (first | exact Sel.head | apply Sel.tail)))) rfl rfl ?_)
            clear hf hS; rintro v a w ⟨rfl, hS⟩ hf
            replace hT := hS.sub' hT (by repeat (first | exact Sub.refl | exact Sub.none | exact Sub.behind | (apply Sub.cons; (focus ((repeat (first | exact Sel.head | apply Sel.tail)); done))) | apply Sub.skip))
            refine ⟨hT, ?_⟩
            refine any_takeB (i := 4) hf rfl (by kernel_rfl) (by kernel_rfl) (by kernel_rfl) (fun _ _ _ _ h => h) (Wn.none rfl) (rd_eql hf rfl rfl rfl) hT rfl rfl ?_ ?_
            · clear hf; intro hc6 a hf
              have hr1 : read1 x s = (true, _) := hr0.trans (by rw [decide_eq_true (by first | assumption | omega)])
              refine any_take (i := 5) hf rfl (by kernel_rfl) (by kernel_rfl) (by kernel_rfl) (fun _ _ _ h => h) (Wn.none rfl) (rd_assign hf rfl rfl) hT rfl rfl ?_
              clear hf; intro a hf
              refine any_done (by kernel_rfl) ?_
              refine b_normal ?_
              refine t_normal ?_
              refine c_seq ?_
              refine c_region ?_
              refine step_l (st_rd hf (Wn.none rfl) (rd_move hf rfl rfl) hS rfl rfl ?_)
              clear hf; intro a hf
              refine step_l (st_rd hf (Wn.none rfl) (rd_not hf rfl rfl) hS rfl rfl ?_)
              clear hf; intro a hf
              refine done_l ?_
              refine t_normal ?_
              refine c_false hf rfl ?_
              refine c_skip ?_
              refine b_normal ?_
              refine t_normal ?_
              refine c_region ?_
              refine step_l (st_rd hf (Wn.none rfl) (rd_move hf rfl rfl) hS rfl rfl ?_)
              clear hf; intro a hf
              refine step_l (st_rd hf (Wn.none rfl) (rd_add hf rfl rfl rfl (by first | exact Go.IntWalk.i64_in _ (by omega) | exact rfl)) hS rfl rfl ?_)
              clear hf; intro a hf
              refine step_l (st_rd hf (Wn.none rfl) (rd_assign hf rfl rfl) hS rfl rfl ?_)
              clear hf; intro a hf
              refine done_l ?_
              refine t_normal ⟨(i + 1, (rNum s).2), ⟨(((hf.k0.kb hf 6 rfl (by first | rfl | exact int_eq (by omega))).kb hf 5 rfl (by rfl)).kb hf 1 rfl (by rfl)), hS.sub (by repeat (first | exact Sub.refl | exact Sub.none | exact Sub.behind | (apply Sub.cons; (focus ((repeat (first | exact Sel.head | apply Sel.tail)); done))) | apply Sub.skip)), ⟨by omega, Nat.le_trans (rNum_rest s) hs, by rw [hrec, hdrop, readL_yes (by omega) hr1]⟩⟩, by first | omega | (simp only []; omega)⟩
            · clear hf; intro hc6 a hf
              have hr1 : read1 x s = (false, _) := hr0.trans (by rw [decide_eq_false (by first | assumption | omega)])
              refine any_take (i := 5) hf rfl (by kernel_rfl) (by kernel_rfl) (by kernel_rfl) (fun _ _ _ h => h) (Wn.none rfl) (rd_assign hf rfl rfl) hT rfl rfl ?_
              clear hf; intro a hf
              refine any_done (by kernel_rfl) ?_
              refine b_normal ?_
              refine t_normal ?_
              refine c_seq ?_
              refine c_region ?_
              refine step_l (st_rd hf (Wn.none rfl) (rd_move hf rfl rfl) hS rfl rfl ?_)
              clear hf; intro a hf
              refine step_l (st_rd hf (Wn.none rfl) (rd_not hf rfl rfl) hS rfl rfl ?_)
              clear hf; intro a hf
              refine done_l ?_
              refine t_normal ?_
              refine c_true hf rfl ?_
              refine c_seq ?_
              refine c_region ?_
              refine step_l (st_rd hf (Wn.none rfl) (rd_move hf rfl rfl) hS rfl rfl ?_)
              clear hf; intro a hf
              refine step_l (st_call hf (Wn.none rfl) rfl rfl rfl fn25 (RWEnd_c _ _ (hS.sel (by repeat (first | exact Sel.head | apply Sel.tail)))) rfl rfl ?_)
              clear hf hS; rintro v a w ⟨rfl, hS⟩ hf
              refine step_l (st_rd hf (Wn.none rfl) (rd_assign hf rfl rfl) hS rfl rfl ?_)
              clear hf; intro a hf
              refine step_l (st_rd hf (Wn.none rfl) (rd_assign hf rfl rfl) hS rfl rfl ?_)
              clear hf; intro a hf
              refine done_l ?_
              refine t_normal ?_
              refine c_ret ?_
              refine b_ret ?_
              refine t_ret ?_
              refine t_ret ?_
              refine b_ret ?_
              refine t_ret ?_
              refine e_resN hf.defers rfl (res_tmp hf rfl (res_tmp hf rfl .nil)) ?_
              first | (rw [hrec, hdrop, readL_no (by omega) hr1]; exact ⟨rfl, hS.sub (by repeat (first | exact Sub.refl | exact Sub.none | exact Sub.behind | (apply Sub.cons; (focus ((repeat (first | exact Sel.head | apply Sel.tail)); done))) | apply Sub.skip))⟩) | (rw [hrec, List.drop_of_length_le (by rw [List.length_take]; omega)]; exact ⟨rfl, hS.sub (by repeat (first | exact Sub.refl | exact Sub.none | exact Sub.behind | (apply Sub.cons; (focus ((repeat (first | exact Sel.head | apply Sel.tail)); done))) | apply Sub.skip))⟩)
          · clear hf; intro hc5 a hf
            refine step_l (st_rd hf (Wn.none rfl) (rd_assign hf rfl rfl) hS rfl rfl ?_)
            clear hf; intro a hf
            refine done_l ?_
            refine t_normal ?_
            refine c_false hf rfl ?_
            refine c_seq ?_
            refine c_region ?_
            refine step_l (st_rdB hf (Wn.none rfl) (rd_eql hf rfl rfl rfl) hS rfl rfl ?_ ?_)
            · clear hf; intro hc7 a hf
              have hr0 : read1 x s = (decide ((rInt s).1 = x.2.2.1), (rInt s).2) := (if_neg (by assumption)).trans (if_pos hc7)
              refine step_l (st_rd hf (Wn.none rfl) (rd_assign hf rfl rfl) hS rfl rfl ?_)
              clear hf; intro a hf
              refine done_l ?_
              refine t_normal ?_
              refine c_true hf rfl ?_
              refine any_begin (S := Sat W (Blk b_c (callC x) 43 :: R)) mixed (hS.drew.sub (by repeat (first | exact Sub.refl | exact Sub.none | exact Sub.behind | (apply Sub.cons; (focus ((repeat (first | exact Sel.head | apply Sel.tail)); done))) | apply Sub.skip))) ?_
              have hT : Sat W (Blk b_c (callC x) 43 :: R) _ := hS.drew.sub (by repeat (first | exact Sub.refl | exact Sub.none | exact Sub.behind | (apply Sub.cons; (focus ((repeat (first | exact Sel.head | apply Sel.tail)); done))) | apply Sub.skip))
              replace hS := hS.drew
              refine any_take (i := 0) hf rfl (by kernel_rfl) (by kernel_rfl) (by kernel_rfl) (fun _ _ _ h => h) (Wn.none rfl) (rd_move hf rfl rfl) hT rfl rfl ?_
              clear hf; intro a hf
              refine any_take (i := 2) hf rfl (by kernel_rfl) (by kernel_rfl) (by kernel_rfl) (fun _ _ _ h => h) (Wn.none rfl) (rd_fieldAddrB hf rfl rfl fb43_2 rfl) hT rfl rfl ?_
              clear hf; intro a hf
              refine any_take (i := 3) hf rfl (by kernel_rfl) (by kernel_rfl) (by kernel_rfl) (fun _ _ _ h => h) (Wn.none rfl) (rd_load1 hf rfl rfl ag2 (by intro _ h; first | exact h.cell (by repeat (first | exact Sel.head | apply Sel.tail)) (by rfl))) hT rfl rfl ?_
              clear hf; intro a hf
              refine any_one (i := 1) rfl (by kernel_rfl) (st_call hf (Wn.none rfl) rfl rfl rfl fn24 (RWInt_c _ _ (hS.sel (by repeat (first | exact Sel.head | apply Sel.tail)))) rfl rfl ?_)
              clear hf hS; rintro v a w ⟨rfl, hS⟩ hf
              replace hT := hS.sub' hT (by repeat (first | exact Sub.refl | exact Sub.none | exact Sub.behind | (apply Sub.cons; (focus ((repeat (first | exact Sel.head | apply Sel.tail)); done))) | apply Sub.skip))
              refine ⟨hT, ?_⟩
              refine any_takeB (i := 4) hf rfl (by kernel_rfl) (by kernel_rfl) (by kernel_rfl) (fun _ _ _ _ h => h) (Wn.none rfl) (rd_eql hf rfl rfl rfl) hT rfl rfl ?_ ?_
              · clear hf; intro hc8 a hf
                have hr1 : read1 x s = (true, _) := hr0.trans (by rw [decide_eq_true (by first | assumption | omega)])
                refine any_take (i := 5) hf rfl (by kernel_rfl) (by kernel_rfl) (by kernel_rfl) (fun _ _ _ h => h) (Wn.none rfl) (rd_assign hf rfl rfl) hT rfl rfl ?_
                clear hf; intro a hf
                refine any_done (by kernel_rfl) ?_
                refine b_normal ?_
                refine t_normal ?_
                refine c_seq ?_
                refine c_region ?_
                refine step_l (st_rd hf (Wn.none rfl) (rd_move hf rfl rfl) hS rfl rfl ?_)
                clear hf; intro a hf
                refine step_l (st_rd hf (Wn.none rfl) (rd_not hf rfl rfl) hS rfl rfl ?_)
                clear hf; intro a hf
                refine done_l ?_
                refine t_normal ?_
                refine c_false hf rfl ?_
                refine c_skip ?_
                refine b_normal ?_
                refine t_normal ?_
                refine c_region ?_
                refine step_l (st_rd hf (Wn.none rfl) (rd_move hf rfl rfl) hS rfl rfl ?_)
                clear hf; intro a hf
                refine step_l (st_rd hf (Wn.none rfl) (rd_add hf rfl rfl rfl (by first | exact Go.IntWalk.i64_in _ (by omega) | exact rfl)) hS rfl rfl ?_)
                clear hf; intro a hf
                refine step_l (st_rd hf (Wn.none rfl) (rd_assign hf rfl rfl) hS rfl rfl ?_)
                clear hf; intro a hf
                refine done_l ?_
                refine t_normal ⟨(i + 1, (rInt s).2), ⟨(((hf.k0.kb hf 6 rfl (by first | rfl | exact int_eq (by omega))).kb hf 5 rfl (by rfl)).kb hf 1 rfl (by rfl)), hS.sub (by repeat (first | exact Sub.refl | exact Sub.none | exact Sub.behind | (apply Sub.cons; (focus ((repeat (first | exact Sel.head | apply Sel.tail)); done))) | apply Sub.skip)), ⟨by omega, Nat.le_trans (rNum_rest s) hs, by rw [hrec, hdrop, readL_yes (by omega) hr1]⟩⟩, by first | omega | (simp only []; omega)⟩
              · clear hf; intro hc8 a hf
                have hr1 : read1 x s = (false, _) := hr0.trans (by rw [decide_eq_false (by first | assumption | omega)])
                refine any_take (i := 5) hf rfl (by kernel_rfl) (by kernel_rfl) (by kernel_rfl) (fun _ _ _ h => h) (Wn.none rfl) (rd_assign hf rfl rfl) hT rfl rfl ?_
                clear hf; intro a hf
                refine any_done (by kernel_rfl) ?_
                refine b_normal ?_
                refine t_normal ?_
                refine c_seq ?_
                refine c_region ?_
                refine step_l (st_rd hf (Wn.none rfl) (rd_move hf rfl rfl) hS rfl rfl ?_)
                clear hf; intro a hf
                refine step_l (st_rd hf (Wn.none rfl) (rd_not hf rfl rfl) hS rfl rfl ?_)
                clear hf; intro a hf
                refine done_l ?_
                refine t_normal ?_
                refine c_true hf rfl ?_
                refine c_seq ?_
                refine c_region ?_
                refine step_l (st_rd hf (Wn.none rfl) (rd_move hf rfl rfl) hS rfl rfl ?_)
                clear hf; intro a hf
                refine step_l (st_call hf (Wn.none rfl) rfl rfl rfl fn25 (RWEnd_c _ _ (hS.sel (by repeat (first | exact Sel.head | apply Sel.tail)))) rfl rfl ?_)
                clear hf hS; rintro v a w ⟨rfl, hS⟩ hf
                refine step_l (st_rd hf (Wn.none rfl) (rd_assign hf rfl rfl) hS rfl rfl ?_)
                clear hf; intro a hf
                refine step_l (st_rd hf (Wn.none rfl) (rd_assign hf rfl rfl) hS rfl rfl ?_)
                clear hf; intro a hf
                refine done_l ?_
                refine t_normal ?_
                refine c_ret ?_
                refine b_ret ?_
                refine t_ret ?_
                refine t_ret ?_
                refine b_ret ?_
                refine t_ret ?_
                refine e_resN hf.defers rfl (res_tmp hf rfl (res_tmp hf rfl .nil)) ?_
                first | (rw [hrec, hdrop, readL_no (by omega) hr1]; exact ⟨rfl, hS.sub (by repeat (first | exact Sub.refl | exact Sub.none | exact Sub.behind | (apply Sub.cons; (focus ((repeat (first | exact Sel.head | apply Sel.tail)); done))) | apply Sub.skip))⟩) | (rw [hrec, List.drop_of_length_le (by rw [List.length_take]; omega)]; exact ⟨rfl, hS.sub (by repeat (first | exact Sub.refl | exact Sub.none | exact Sub.behind | (apply Sub.cons; (focus ((repeat (first | exact Sel.head | apply Sel.tail)); done))) | apply Sub.skip))⟩)
            · clear hf; intro hc7 a hf
              refine step_l (st_rd hf (Wn.none rfl) (rd_assign hf rfl rfl) hS rfl rfl ?_)
              clear hf; intro a hf
              refine done_l ?_
              refine t_normal ?_
              refine c_false hf rfl ?_
              refine c_seq ?_
              refine c_region ?_
              refine step_l (st_rdB hf (Wn.none rfl) (rd_eql hf rfl rfl rfl) hS rfl rfl ?_ ?_)
              · clear hf; intro hc9 a hf
                have hr0 : read1 x s = (decide ((rFlag s).1 = x.2.2.2.1), (rFlag s).2) := (if_neg (by assumption)).trans ((if_neg (by assumption)).trans (if_pos hc9))
                refine step_l (st_rd hf (Wn.none rfl) (rd_assign hf rfl rfl) hS rfl rfl ?_)
                clear hf; intro a hf
                refine done_l ?_
                refine t_normal ?_
                refine c_true hf rfl ?_
                refine any_begin (S := Sat W (Blk b_c (callC x) 43 :: R)) mixed (hS.drew.sub (by repeat (first | exact Sub.refl | exact Sub.none | exact Sub.behind | (apply Sub.cons; (focus ((repeat (first | exact Sel.head | apply Sel.tail)); done))) | apply Sub.skip))) ?_
                have hT : Sat W (Blk b_c (callC x) 43 :: R) _ := hS.drew.sub (by repeat (first | exact Sub.refl | exact Sub.none | exact Sub.behind | (apply Sub.cons; (focus ((repeat (first | exact Sel.head | apply Sel.tail)); done))) | apply Sub.skip))
                replace hS := hS.drew
                refine any_take (i := 0) hf rfl (by kernel_rfl) (by kernel_rfl) (by kernel_rfl) (fun _ _ _ h => h) (Wn.none rfl) (rd_move hf rfl rfl) hT rfl rfl ?_
                clear hf; intro a hf
                refine any_take (i := 2) hf rfl (by kernel_rfl) (by kernel_rfl) (by kernel_rfl) (fun _ _ _ h => h) (Wn.none rfl) (rd_fieldAddrB hf rfl rfl fb43_3 rfl) hT rfl rfl ?_
                clear hf; intro a hf
                refine any_take (i := 3) hf rfl (by kernel_rfl) (by kernel_rfl) (by kernel_rfl) (fun _ _ _ h => h) (Wn.none rfl) (rd_load1 hf rfl rfl ag4 (by intro _ h; first | exact h.cell (by repeat (first | exact Sel.head | apply Sel.tail)) (by rfl))) hT rfl rfl ?_
                clear hf; intro a hf
                refine any_one (i := 1) rfl (by kernel_rfl) (st_call hf (Wn.none rfl) rfl rfl rfl fn28 (RWFlag_c _ _ (hS.sel (by repeat (first | exact Sel.head | apply Sel.tail)))) rfl rfl ?_)
                clear hf hS; rintro v a w ⟨rfl, hS⟩ hf
                replace hT := hS.sub' hT (by repeat (first | exact Sub.refl | exact Sub.none | exact Sub.behind | (apply Sub.cons; (focus ((repeat (first | exact Sel.head | apply Sel.tail)); done))) | apply Sub.skip))
                refine ⟨hT, ?_⟩
                refine any_takeB (i := 4) hf rfl (by kernel_rfl) (by kernel_rfl) (by kernel_rfl) (fun _ _ _ _ h => h) (Wn.none rfl) (rd_eqlBool hf rfl rfl rfl Try.underlying4) hT rfl rfl ?_ ?_
                · clear hf; intro hc10 a hf
                  have hr1 : read1 x s = (true, _) := hr0.trans (by rw [decide_eq_true (by first | assumption | omega)])
                  refine any_take (i := 5) hf rfl (by kernel_rfl) (by kernel_rfl) (by kernel_rfl) (fun _ _ _ h => h) (Wn.none rfl) (rd_assign hf rfl rfl) hT rfl rfl ?_
                  clear hf; intro a hf
                  refine any_done (by kernel_rfl) ?_
                  refine b_normal ?_
                  refine t_normal ?_
                  refine c_seq ?_
                  refine c_region ?_
                  refine step_l (st_rd hf (Wn.none rfl) (rd_move hf rfl rfl) hS rfl rfl ?_)
                  clear hf; intro a hf
                  refine step_l (st_rd hf (Wn.none rfl) (rd_not hf rfl rfl) hS rfl rfl ?_)
                  clear hf; intro a hf
                  refine done_l ?_
                  refine t_normal ?_
                  refine c_false hf rfl ?_
                  refine c_skip ?_
                  refine b_normal ?_
                  refine t_normal ?_
                  refine c_region ?_
                  refine step_l (st_rd hf (Wn.none rfl) (rd_move hf rfl rfl) hS rfl rfl ?_)
                  clear hf; intro a hf
                  refine step_l (st_rd hf (Wn.none rfl) (rd_add hf rfl rfl rfl (by first | exact Go.IntWalk.i64_in _ (by omega) | exact rfl)) hS rfl rfl ?_)
                  clear hf; intro a hf
                  refine step_l (st_rd hf (Wn.none rfl) (rd_assign hf rfl rfl) hS rfl rfl ?_)
                  clear hf; intro a hf
                  refine done_l ?_
                  refine t_normal ⟨(i + 1, (rFlag s).2), ⟨(((hf.k0.kb hf 6 rfl (by first | rfl | exact int_eq (by omega))).kb hf 5 rfl (by rfl)).kb hf 1 rfl (by rfl)), hS.sub (by repeat (first | exact Sub.refl | exact Sub.none | exact Sub.behind | (apply Sub.cons; (focus ((repeat (first | exact Sel.head | apply Sel.tail)); done))) | apply Sub.skip)), ⟨by omega, Nat.le_trans (rFlag_rest s) hs, by rw [hrec, hdrop, readL_yes (by omega) hr1]⟩⟩, by first | omega | (simp only []; omega)⟩
                · clear hf; intro hc10 a hf
                  have hr1 : read1 x s = (false, _) := hr0.trans (by rw [decide_eq_false (by first | assumption | omega)])
                  refine any_take (i := 5) hf rfl (by kernel_rfl) (by kernel_rfl) (by kernel_rfl) (fun _ _ _ h => h) (Wn.none rfl) (rd_assign hf rfl rfl) hT rfl rfl ?_
                  clear hf; intro a hf
                  refine any_done (by kernel_rfl) ?_
                  refine b_normal ?_
                  refine t_normal ?_
                  refine c_seq ?_
                  refine c_region ?_
                  refine step_l (st_rd hf (Wn.none rfl) (rd_move hf rfl rfl) hS rfl rfl ?_)
                  clear hf; intro a hf
                  refine step_l (st_rd hf (Wn.none rfl) (rd_not hf rfl rfl) hS rfl rfl ?_)
                  clear hf; intro a hf
                  refine done_l ?_
                  refine t_normal ?_
                  refine c_true hf rfl ?_
                  refine c_seq ?_
                  refine c_region ?_
                  refine step_l (st_rd hf (Wn.none rfl) (rd_move hf rfl rfl) hS rfl rfl ?_)
                  clear hf; intro a hf
                  refine step_l (st_call hf (Wn.none rfl) rfl rfl rfl fn25 (RWEnd_c _ _ (hS.sel (by repeat (first | exact Sel.head | apply Sel.tail)))) rfl rfl ?_)
                  clear hf hS; rintro v a w ⟨rfl, hS⟩ hf
                  refine step_l (st_rd hf (Wn.none rfl) (rd_assign hf rfl rfl) hS rfl rfl ?_)
                  clear hf; intro a hf
                  refine step_l (st_rd hf (Wn.none rfl) (rd_assign hf rfl rfl) hS rfl rfl ?_)
                  clear hf; intro a hf
                  refine done_l ?_
                  refine t_normal ?_
                  refine c_ret ?_
                  refine b_ret ?_
                  refine t_ret ?_
                  refine t_ret ?_
                  refine b_ret ?_
                  refine t_ret ?_
                  refine e_resN hf.defers rfl (res_tmp hf rfl (res_tmp hf rfl .nil)) ?_
                  first | (rw [hrec, hdrop, readL_no (by omega) hr1]; exact ⟨rfl, hS.sub (by repeat (first | exact Sub.refl | exact Sub.none | exact Sub.behind | (apply Sub.cons; (focus ((repeat (first | exact Sel.head | apply Sel.tail)); done))) | apply Sub.skip))⟩) | (rw [hrec, List.drop_of_length_le (by rw [List.length_take]; omega)]; exact ⟨rfl, hS.sub (by repeat (first | exact Sub.refl | exact Sub.none | exact Sub.behind | (apply Sub.cons; (focus ((repeat (first | exact Sel.head | apply Sel.tail)); done))) | apply Sub.skip))⟩)
              · clear hf; intro hc9 a hf
                have hr0 : read1 x s = (decide ((rText 300 s).1 = txt x), (rText 300 s).2) := (if_neg (by assumption)).trans ((if_neg (by assumption)).trans (if_neg hc9))
                refine step_l (st_rd hf (Wn.none rfl) (rd_assign hf rfl rfl) hS rfl rfl ?_)
                clear hf; intro a hf
                refine done_l ?_
                refine t_normal ?_
                refine c_false hf rfl ?_
                refine any_begin (S := Sat W (Blk b_c (callC x) 43 :: R)) mixed (hS.drew.sub (by repeat (first | exact Sub.refl | exact Sub.none | exact Sub.behind | (apply Sub.cons; (focus ((repeat (first | exact Sel.head | apply Sel.tail)); done))) | apply Sub.skip))) ?_
                have hT : Sat W (Blk b_c (callC x) 43 :: R) _ := hS.drew.sub (by repeat (first | exact Sub.refl | exact Sub.none | exact Sub.behind | (apply Sub.cons; (focus ((repeat (first | exact Sel.head | apply Sel.tail)); done))) | apply Sub.skip))
                replace hS := hS.drew
                refine any_take (i := 0) hf rfl (by kernel_rfl) (by kernel_rfl) (by kernel_rfl) (fun _ _ _ h => h) (Wn.none rfl) (rd_move hf rfl rfl) hT rfl rfl ?_
                clear hf; intro a hf
                refine any_take (i := 3) hf rfl (by kernel_rfl) (by kernel_rfl) (by kernel_rfl) (fun _ _ _ h => h) (Wn.none rfl) (rd_fieldAddrB hf rfl rfl fb43_4 rfl) hT rfl rfl ?_
                clear hf; intro a hf
                refine any_take (i := 4) hf rfl (by kernel_rfl) (by kernel_rfl) (by kernel_rfl) (fun _ _ _ h => h) (Wn.none rfl) (rd_load1 hf rfl rfl ag29 (by intro _ h; first | exact h.cell (by repeat (first | exact Sel.head | apply Sel.tail)) (by rfl))) hT rfl rfl ?_
                clear hf; intro a hf
                refine any_take (i := 5) hf rfl (by kernel_rfl) (by kernel_rfl) (by kernel_rfl) (fun _ _ _ h => h) (Wn.none rfl) (rd_str hf rfl rfl Try.underlying29 Try.underlying9 Try.underlying5 (by intro _ h; first | exact h.slOfRw (by repeat (first | exact Sel.head | apply Sel.tail)) | exact h.slOfBlkPre (by repeat (first | exact Sel.head | apply Sel.tail)) (bvs_len1 _) | exact hx5 _ (h.sub (by repeat (first | exact Sub.refl | exact Sub.none | exact Sub.behind | (apply Sub.cons; (focus ((repeat (first | exact Sel.head | apply Sel.tail)); done))) | apply Sub.skip))))) hT rfl rfl ?_
                clear hf; intro a hf
                refine any_one (i := 1) rfl (by kernel_rfl) (st_call hf (Wn.none rfl) rfl rfl rfl fn22 (RWText_c _ _ _ (hS.sel (by repeat (first | exact Sel.head | apply Sel.tail))) (by decide) (by omega)) rfl rfl ?_)
                clear hf hS; rintro v a w ⟨qt_11, capt_11, rfl, hS⟩ hf
                replace hT := hS.sub' hT (by repeat (first | exact Sub.refl | exact Sub.none | exact Sub.behind | (apply Sub.cons; (focus ((repeat (first | exact Sel.head | apply Sel.tail)); done))) | apply Sub.skip))
                refine ⟨hT, ?_⟩
                refine any_one (i := 2) rfl (by kernel_rfl) (st_rd hf (Wn.none rfl) (rd_str hf rfl rfl Try.underlying29 Try.underlying9 Try.underlying5 (by intro _ h; first | exact h.slOfRw (by repeat (first | exact Sel.head | apply Sel.tail)) | exact h.slOfBlkPre (by repeat (first | exact Sel.head | apply Sel.tail)) (bvs_len1 _) | exact hx5 _ (h.sub (by repeat (first | exact Sub.refl | exact Sub.none | exact Sub.behind | (apply Sub.cons; (focus ((repeat (first | exact Sel.head | apply Sel.tail)); done))) | apply Sub.skip))))) hS rfl rfl ?_)
                clear hf; intro a hf
                refine ⟨hT, ?_⟩
                refine any_takeB (i := 6) hf rfl (by kernel_rfl) (by kernel_rfl) (by kernel_rfl) (fun _ _ _ _ h => h) (Wn.none rfl) (rd_eqlS hf rfl rfl rfl) hT rfl rfl ?_ ?_
                · clear hf; intro hc12 a hf
                  have hr1 : read1 x s = (true, _) := hr0.trans (by rw [decide_eq_true (by first | assumption | omega)])
                  refine any_take (i := 7) hf rfl (by kernel_rfl) (by kernel_rfl) (by kernel_rfl) (fun _ _ _ h => h) (Wn.none rfl) (rd_assign hf rfl rfl) hT rfl rfl ?_
                  clear hf; intro a hf
                  refine any_done (by kernel_rfl) ?_
                  refine b_normal ?_
                  refine t_normal ?_
                  refine c_seq ?_
                  refine c_region ?_
                  refine step_l (st_rd hf (Wn.none rfl) (rd_move hf rfl rfl) hS rfl rfl ?_)
                  clear hf; intro a hf
                  refine step_l (st_rd hf (Wn.none rfl) (rd_not hf rfl rfl) hS rfl rfl ?_)
                  clear hf; intro a hf
                  refine done_l ?_
                  refine t_normal ?_
                  refine c_false hf rfl ?_
                  refine c_skip ?_
                  refine b_normal ?_
                  refine t_normal ?_
                  refine c_region ?_
                  refine step_l (st_rd hf (Wn.none rfl) (rd_move hf rfl rfl) hS rfl rfl ?_)
                  clear hf; intro a hf
                  refine step_l (st_rd hf (Wn.none rfl) (rd_add hf rfl rfl rfl (by first | exact Go.IntWalk.i64_in _ (by omega) | exact rfl)) hS rfl rfl ?_)
                  clear hf; intro a hf
                  refine step_l (st_rd hf (Wn.none rfl) (rd_assign hf rfl rfl) hS rfl rfl ?_)
                  clear hf; intro a hf
                  refine done_l ?_
                  refine t_normal ⟨(i + 1, (rText 300 s).2), ⟨(((hf.k0.kb hf 6 rfl (by first | rfl | exact int_eq (by omega))).kb hf 5 rfl (by rfl)).kb hf 1 rfl (by rfl)), hS.sub (by repeat (first | exact Sub.refl | exact Sub.none | exact Sub.behind | (apply Sub.cons; (focus ((repeat (first | exact Sel.head | apply Sel.tail)); done))) | apply Sub.skip)), ⟨by omega, Nat.le_trans (rText_rest 300 s) hs, by rw [hrec, hdrop, readL_yes (by omega) hr1]⟩⟩, by first | omega | (simp only []; omega)⟩
                · clear hf; intro hc12 a hf
                  have hr1 : read1 x s = (false, _) := hr0.trans (by rw [decide_eq_false (by first | assumption | omega)])
                  refine any_take (i := 7) hf rfl (by kernel_rfl) (by kernel_rfl) (by kernel_rfl) (fun _ _ _ h => h) (Wn.none rfl) (rd_assign hf rfl rfl) hT rfl rfl ?_
                  clear hf; intro a hf
                  refine any_done (by kernel_rfl) ?_
                  refine b_normal ?_
                  refine t_normal ?_
                  refine c_seq ?_
                  refine c_region ?_
                  refine step_l (st_rd hf (Wn.none rfl) (rd_move hf rfl rfl) hS rfl rfl ?_)
                  clear hf; intro a hf
                  refine step_l (st_rd hf (Wn.none rfl) (rd_not hf rfl rfl) hS rfl rfl ?_)
                  clear hf; intro a hf
                  refine done_l ?_
                  refine t_normal ?_
                  refine c_true hf rfl ?_
                  refine c_seq ?_
                  refine c_region ?_
                  refine step_l (st_rd hf (Wn.none rfl) (rd_move hf rfl rfl) hS rfl rfl ?_)
                  clear hf; intro a hf
                  refine step_l (st_call hf (Wn.none rfl) rfl rfl rfl fn25 (RWEnd_c _ _ (hS.sel (by repeat (first | exact Sel.head | apply Sel.tail)))) rfl rfl ?_)
                  clear hf hS; rintro v a w ⟨rfl, hS⟩ hf
                  refine step_l (st_rd hf (Wn.none rfl) (rd_assign hf rfl rfl) hS rfl rfl ?_)
                  clear hf; intro a hf
                  refine step_l (st_rd hf (Wn.none rfl) (rd_assign hf rfl rfl) hS rfl rfl ?_)
                  clear hf; intro a hf
                  refine done_l ?_
                  refine t_normal ?_
                  refine c_ret ?_
                  refine b_ret ?_
                  refine t_ret ?_
                  refine t_ret ?_
                  refine b_ret ?_
                  refine t_ret ?_
                  refine e_resN hf.defers rfl (res_tmp hf rfl (res_tmp hf rfl .nil)) ?_
                  first | (rw [hrec, hdrop, readL_no (by omega) hr1]; exact ⟨rfl, hS.sub (by repeat (first | exact Sub.refl | exact Sub.none | exact Sub.behind | (apply Sub.cons; (focus ((repeat (first | exact Sel.head | apply Sel.tail)); done))) | apply Sub.skip))⟩) | (rw [hrec, List.drop_of_length_le (by rw [List.length_take]; omega)]; exact ⟨rfl, hS.sub (by repeat (first | exact Sub.refl | exact Sub.none | exact Sub.behind | (apply Sub.cons; (focus ((repeat (first | exact Sel.head | apply Sel.tail)); done))) | apply Sub.skip))⟩)
      · clear hf; intro hc2 a hf
        refine step_l (st_rd hf (Wn.none rfl) (rd_pick_t hf rfl rfl rfl) hS rfl rfl ?_)
        clear hf; intro a hf
        refine done_l ?_
        refine t_normal ?_
        refine c_false hf rfl ?_
        refine c_exit ?_
        refine t_exit ?_
        refine t_exit ?_
        refine b_exit ?_
        refine t_normal ?_
        refine c_seq ?_
        refine c_region ?_
        refine step_l (st_rd hf (Wn.none rfl) (rd_move hf rfl rfl) hS rfl rfl ?_)
        clear hf; intro a hf
        refine step_l (st_call hf (Wn.none rfl) rfl rfl rfl fn25 (RWEnd_c _ _ (hS.sel (by repeat (first | exact Sel.head | apply Sel.tail)))) rfl rfl ?_)
        clear hf hS; rintro v a w ⟨rfl, hS⟩ hf
        refine step_l (st_rd hf (Wn.none rfl) (rd_assign hf rfl rfl) hS rfl rfl ?_)
        clear hf; intro a hf
        refine step_l (st_rd hf (Wn.none rfl) (rd_assign hf rfl rfl) hS rfl rfl ?_)
        clear hf; intro a hf
        refine done_l ?_
        refine t_normal ?_
        refine c_ret ?_
        refine e_resN hf.defers rfl (res_tmp hf rfl (res_tmp hf rfl .nil)) ?_
        first | (rw [hrec, hdrop, readL_no (by omega) hr1]; exact ⟨rfl, hS.sub (by repeat (first | exact Sub.refl | exact Sub.none | exact Sub.behind | (apply Sub.cons; (focus ((repeat (first | exact Sel.head | apply Sel.tail)); done))) | apply Sub.skip))⟩) | (rw [hrec, List.drop_of_length_le (by rw [List.length_take]; omega)]; exact ⟨rfl, hS.sub (by repeat (first | exact Sub.refl | exact Sub.none | exact Sub.behind | (apply Sub.cons; (focus ((repeat (first | exact Sel.head | apply Sel.tail)); done))) | apply Sub.skip))⟩)
    · clear hf; intro hc1 a hf
      refine step_l (st_rd hf (Wn.none rfl) (rd_move hf rfl rfl) hS rfl rfl ?_)
      clear hf; intro a hf
      refine step_l (st_skip hf (Wn.some hf rfl rfl rfl rfl) rfl rfl ?_)
      clear hf; intro a hf
      refine step_l (st_skip hf (Wn.some hf rfl rfl rfl rfl) rfl rfl ?_)
      clear hf; intro a hf
      refine step_l (st_rd hf (Wn.none rfl) (rd_pick_f hf rfl rfl rfl) hS rfl rfl ?_)
      clear hf; intro a hf
      refine done_l ?_
      refine t_normal ?_
      refine c_false hf rfl ?_
      refine c_exit ?_
      refine t_exit ?_
      refine t_exit ?_
      refine b_exit ?_
      refine t_normal ?_
      refine c_seq ?_
      refine c_region ?_
      refine step_l (st_rd hf (Wn.none rfl) (rd_move hf rfl rfl) hS rfl rfl ?_)
      clear hf; intro a hf
      refine step_l (st_call hf (Wn.none rfl) rfl rfl rfl fn25 (RWEnd_c _ _ (hS.sel (by repeat (first | exact Sel.head | apply Sel.tail)))) rfl rfl ?_)
      clear hf hS; rintro v a w ⟨rfl, hS⟩ hf
      refine step_l (st_rd hf (Wn.none rfl) (rd_assign hf rfl rfl) hS rfl rfl ?_)
      clear hf; intro a hf
      refine step_l (st_rd hf (Wn.none rfl) (rd_assign hf rfl rfl) hS rfl rfl ?_)
      clear hf; intro a hf
      refine done_l ?_
      refine t_normal ?_
      refine c_ret ?_
      refine e_resN hf.defers rfl (res_tmp hf rfl (res_tmp hf rfl .nil)) ?_
      first | (rw [hrec, hdrop, readL_no (by omega) hr1]; exact ⟨rfl, hS.sub (by repeat (first | exact Sub.refl | exact Sub.none | exact Sub.behind | (apply Sub.cons; (focus ((repeat (first | exact Sel.head | apply Sel.tail)); done))) | apply Sub.skip))⟩) | (rw [hrec, List.drop_of_length_le (by rw [List.length_take]; omega)]; exact ⟨rfl, hS.sub (by repeat (first | exact Sub.refl | exact Sub.none | exact Sub.behind | (apply Sub.cons; (focus ((repeat (first | exact Sel.head | apply Sel.tail)); done))) | apply Sub.skip))⟩)

theorem cell_sub {w : World} {ad : Addr} {sz : Nat} {vs : List Value} (h : AggAt w ad sz vs) {k : Nat} {v : Value} (hk : vs[k]? = some v) : w.cell? (ad.add k) = some v := h.2 k v hk
theorem take40 {l : List CallT} {i : Nat} (h : i ≤ 40) (h2 : l.length ≤ i ∨ 40 ≤ i) : l.take i = l.take 40 := by
  rcases h2 with h2 | h2
  · rw [List.take_of_length_le h2, List.take_of_length_le (by omega)]
  · rw [show i = 40 from by omega]
theorem len_take40 (l : List CallT) : (l.take 40).length ≤ 40 := by rw [List.length_take]; omega

set_option maxHeartbeats 2000000 in
theorem WireBack_c (l : List CallT) (ql : Option Addr) (capl : Nat) (cut : Int) {W : World} {R : List HP} {w : World} (hS : Sat W (R) w) (hl : ∀ x ∈ l, CallOk W R x) (hvl : ∀ w, Sat W R w → SlAt w ql l.length 6 (l.flatMap callC)) : Calls Try.prog 9 [.slice ql l.length capl, .int .i64 cut].toArray w (Ret fun v w' => v = .bool true ∧ Sat W R w') := by
  refine fn_start 92 Try.func9 rfl rfl rfl ?_
  intro a hf
  have hwf : ∀ x ∈ l, wf x := fun x hx => ⟨(hl x hx).num, (hl x hx).int⟩
  have hE := encL_len (l.take 40) (fun y hy => hwf y (List.mem_of_mem_take hy)); have hlt40 := len_take40 l; have hok := readL_ok (l.take 40) (fun y hy => hwf y (List.mem_of_mem_take hy))
  refine c_seq ?_
  refine c_region ?_
  refine step_l (st_box hf (Wn.none rfl) hS rfl rfl (by rfl) rfl rfl ?_)
  clear hf hS; intro b_l a w hf hS
  refine step_l (st_rd hf (Wn.none rfl) (rd_assign hf rfl rfl) hS rfl rfl ?_)
  clear hf; intro a hf
  refine done_l ?_
  refine t_normal ?_
  refine c_seq ?_
  refine c_region ?_
  refine step_l (st_call hf (Wn.none rfl) rfl rfl rfl fn13 (NewWriter_c _ hS) rfl rfl ?_)
  clear hf hS; rintro v a w ⟨pw, rfl, hS⟩ hf; rw [show max 0 100000 = (100000 : Int) from by decide] at hS
  refine step_l (st_rd hf (Wn.none rfl) (rd_build hf rfl rfl zr40 (by rfl) pl40 (.cons rfl (by rfl) (by rfl) (by repeat (first | exact Put.nil | apply Put.cons | apply Put.succ)) .nil)) hS rfl rfl ?_)
  clear hf; intro a hf
  refine step_l (st_box hf (Wn.none rfl) hS rfl rfl (by rfl) rfl rfl ?_)
  clear hf hS; intro b_m a w hf hS
  refine step_l (st_rd hf (Wn.none rfl) (rd_assign hf rfl rfl) hS rfl rfl ?_)
  clear hf; intro a hf
  refine step_l (st_rd hf (Wn.none rfl) (rd_assign hf rfl rfl) hS rfl rfl ?_)
  clear hf; intro a hf
  refine done_l ?_
  refine t_normal ?_
  refine c_seq ?_
  replace hS := wr_shut (s := ([], false)) (T := 40) (p := b_m) (q := none) (n := 0) (cap := 0) ((hS.rwNil 5 1).sub (.cons (.tail .head) (.cons .head .refl))) rfl rfl rfl
  refine c_region ?_
  refine step_l (st_rd hf (Wn.none rfl) (rd_assign hf rfl rfl) hS rfl rfl ?_)
  clear hf; intro a hf
  refine done_l ?_
  refine t_normal ?_
  refine c_seq ?_
  refine c_seq ?_
  refine c_region ?_
  refine step_l (st_rd hf (Wn.none rfl) (rd_assign hf rfl rfl) hS rfl rfl ?_)
  clear hf; intro a hf
  refine done_l ?_
  refine t_normal ?_
  refine c_block ?_
  refine c_loop (α := Nat) (fun i a w => Fits 92 a [(2, .pointer (some ⟨b_l, 0, none⟩)), (1, .int .i64 cut), (5, .pointer (some ⟨pw, 0, none⟩)), (6, .pointer (some ⟨b_m, 0, none⟩)), (7, .int .i64 (cntL (l.take i) : Nat)), (8, .int .i64 (i : Nat))] ∧ Sat W (Blk b_l [.slice ql l.length capl] 37 :: WrP 5 67 pw 100000 (encL (l.take i), false) :: WrP 5 40 b_m 100000 (encL (l.take i), false) :: R) w ∧ i ≤ 40) (fun i => 40 - i) 0 ?_ ?_
  · exact ⟨((((((hf.k0.kb hf 8 rfl (by rfl)).kb hf 7 rfl (by rfl)).kb hf 6 rfl (by rfl)).kb hf 5 rfl (by rfl)).kb hf 1 rfl (by rfl)).kb hf 2 rfl (by rfl)), hS.sub (by repeat (first | exact Sub.refl | exact Sub.none | exact Sub.behind | (apply Sub.cons; (focus ((repeat (first | exact Sel.head | apply Sel.tail)); done))) | apply Sub.skip)), by omega⟩
  · clear hf hS; rintro i a w ⟨hf, hS, hi⟩
    have hel := encL_len (l.take i) (fun y hy => hwf y (List.mem_of_mem_take hy)); have hlt := List.length_take_le i l
    refine c_seq ?_
    refine c_seq ?_
    refine c_region ?_
    refine step_l (st_rd hf (Wn.none rfl) (rd_move hf rfl rfl) hS rfl rfl ?_)
    clear hf; intro a hf
    refine step_l (st_rd hf (Wn.none rfl) (rd_load1 hf rfl rfl ag37 (by intro _ h; first | exact h.cell (by repeat (first | exact Sel.head | apply Sel.tail)) (by rfl))) hS rfl rfl ?_)
    clear hf; intro a hf
    refine step_l (st_rd hf (Wn.none rfl) (rd_len hf rfl rfl Try.underlying37) hS rfl rfl ?_)
    clear hf; intro a hf
    refine step_l (st_rdB hf (Wn.none rfl) (rd_lss hf rfl rfl rfl) hS rfl rfl ?_ ?_)
    · clear hf; intro hc3 a hf
      first
      | (first | exact absurd hcut hc3 | exact absurd rfl hc3 | exact Bool.noConfusion hc3 | exact absurd hc3 (by omega) | exact absurd (by omega) hc3; done)
      | (
        refine step_l (st_rd hf (Wn.none rfl) (rd_move hf rfl rfl) hS rfl rfl ?_)
        clear hf; intro a hf
        refine step_l (st_rd hf (Wn.some hf rfl rfl rfl rfl) (rd_move hf rfl rfl) hS rfl rfl ?_)
        clear hf; intro a hf
        refine step_l (st_rdB hf (Wn.some hf rfl rfl rfl rfl) (rd_lss hf rfl rfl rfl) hS rfl rfl ?_ ?_)
        · clear hf; intro hc4 a hf
          obtain ⟨x, hget⟩ := get_of_lt (l := l) (k := i) (by omega) rfl; have hxt : (txt x).length = x.2.2.2.2.1.2.2.length := rfl; have hx := hl x (List.mem_of_getElem? hget); obtain ⟨hx1, hx2, hx3, hx4, hx5⟩ := hx; obtain ⟨adl, rfl⟩ := (hvl _ (hS.sub (by repeat (first | exact Sub.refl | exact Sub.none | exact Sub.behind | (apply Sub.cons; (focus ((repeat (first | exact Sel.head | apply Sel.tail)); done))) | apply Sub.skip)))).some (by omega); have htk := take_succ_get hget; have hen : encL (l.take (i + 1)) = encL (l.take i) ++ (if (txt x).length ≤ 300 then encC x else []) := by rw [htk, encL_append]; simp [encL]
          have hcn : cntL (l.take (i + 1)) = cntL (l.take i) + (if (txt x).length ≤ 300 then 1 else 0) := by rw [htk, cntL_append]; simp [cntL]
          first
          | (first | exact absurd hcut hc4 | exact absurd rfl hc4 | exact Bool.noConfusion hc4 | exact absurd hc4 (by omega) | exact absurd (by omega) hc4; done)
          | (
            refine step_l (st_rd hf (Wn.none rfl) (rd_pick_t hf rfl rfl rfl) hS rfl rfl ?_)
            clear hf; intro a hf
            refine done_l ?_
            refine t_normal ?_
            refine c_true hf rfl ?_
            refine c_skip ?_
            refine t_normal ?_
            refine c_seq ?_
            refine c_block ?_
            refine c_seq ?_
            refine c_region ?_
            refine step_l (st_rd hf (Wn.none rfl) (rd_load1 hf rfl rfl ag37 (by intro _ h; first | exact h.cell (by repeat (first | exact Sel.head | apply Sel.tail)) (by rfl))) hS rfl rfl ?_)
            clear hf; intro a hf
            refine step_l (st_rd hf (Wn.none rfl) (rd_move hf rfl rfl) hS rfl rfl ?_)
            clear hf; intro a hf
            refine step_l (st_rd hf (Wn.none rfl) ((by first | exact rd_indexAddrN hf rfl rfl rfl Try.underlying37 sz43 (by omega) | exact rd_indexAddr hf rfl rfl rfl Try.underlying37 sz43 (by first | decide | omega) (by omega))) hS rfl rfl ?_)
            clear hf; intro a hf
            refine step_l (st_rd hf (Wn.none rfl) ((by first | exact rd_fieldAddrB hf rfl rfl fb43_4 rfl | exact rd_fieldAddr hf rfl rfl fb43_4)) hS rfl rfl ?_)
            clear hf; intro a hf
            refine step_l (st_rd hf (Wn.none rfl) (rd_load1 hf rfl rfl ag29 (by intro _ h; exact cell_sub (k := 4) ((hvl _ (h.sub (by repeat (first | exact Sub.refl | exact Sub.none | exact Sub.behind | (apply Sub.cons; (focus ((repeat (first | exact Sel.head | apply Sel.tail)); done))) | apply Sub.skip)))).elem callC_len hget) rfl)) hS rfl rfl ?_)
            clear hf; intro a hf
            refine step_l (st_rd hf (Wn.none rfl) (rd_len hf rfl rfl Try.underlying29) hS rfl rfl ?_)
            clear hf; intro a hf
            refine step_l (st_rdB hf (Wn.none rfl) (rd_leq hf rfl rfl rfl) hS rfl rfl ?_ ?_)
            · clear hf; intro hc5 a hf
              first
              | (first | exact absurd hcut hc5 | exact absurd rfl hc5 | exact Bool.noConfusion hc5 | exact absurd hc5 (by omega) | exact absurd (by omega) hc5; done)
              | (
                refine done_l ?_
                refine t_normal ?_
                refine c_true hf rfl ?_
                refine c_seq ?_
                refine c_region ?_
                refine step_l (st_rd hf (Wn.none rfl) (rd_move hf rfl rfl) hS rfl rfl ?_)
                clear hf; intro a hf
                refine step_l (st_rd hf (Wn.none rfl) (rd_move hf rfl rfl) hS rfl rfl ?_)
                clear hf; intro a hf
                refine step_l (st_rd hf (Wn.none rfl) (rd_load1 hf rfl rfl ag37 (by intro _ h; first | exact h.cell (by repeat (first | exact Sel.head | apply Sel.tail)) (by rfl))) hS rfl rfl ?_)
                clear hf; intro a hf
                refine step_l (st_rd hf (Wn.none rfl) (rd_move hf rfl rfl) hS rfl rfl ?_)
                clear hf; intro a hf
                refine step_l (st_rd hf (Wn.none rfl) ((by first | exact rd_indexAddrN hf rfl rfl rfl Try.underlying37 sz43 (by omega) | exact rd_indexAddr hf rfl rfl rfl Try.underlying37 sz43 (by first | decide | omega) (by omega))) hS rfl rfl ?_)
                clear hf; intro a hf
                refine step_l (st_rd hf (Wn.none rfl) (rd_loadN hf rfl rfl ag43 sz43 (by intro _ h; exact (hvl _ (h.sub (by repeat (first | exact Sub.refl | exact Sub.none | exact Sub.behind | (apply Sub.cons; (focus ((repeat (first | exact Sel.head | apply Sel.tail)); done))) | apply Sub.skip)))).elem callC_len hget)) hS rfl rfl ?_)
                clear hf; intro a hf
                refine step_l (st_call hf (Wn.none rfl) rfl rfl rfl fn19 (write_c _ _ _ _ x (hS.sels (.cons (by repeat (first | exact Sel.head | apply Sel.tail)) (.cons (by repeat (first | exact Sel.head | apply Sel.tail)) .nil))) (by first | assumption | exact ⟨by omega, by omega⟩) (by first | assumption | exact .inl (by omega) | exact .inr (by omega)) ((hl x (List.mem_of_getElem? hget)).sub (fun _ h => h.sub (by repeat (first | exact Sub.refl | exact Sub.none | exact Sub.behind | (apply Sub.cons; (focus ((repeat (first | exact Sel.head | apply Sel.tail)); done))) | apply Sub.skip))))) rfl rfl ?_)
                clear hf hS; rintro v a w ⟨rfl, hS⟩ hf; rw [wput_yes rfl (by have := encC_len (hwf x (List.mem_of_getElem? hget)) (by omega); simp only []; omega)] at hS
                refine done_l ?_
                refine t_normal ?_
                refine c_region ?_
                refine step_l (st_rd hf (Wn.none rfl) (rd_move hf rfl rfl) hS rfl rfl ?_)
                clear hf; intro a hf
                refine step_l (st_rd hf (Wn.none rfl) (rd_add hf rfl rfl rfl (by first | exact Go.IntWalk.i64_in _ (by omega) | exact rfl)) hS rfl rfl ?_)
                clear hf; intro a hf
                refine step_l (st_rd hf (Wn.none rfl) (rd_assign hf rfl rfl) hS rfl rfl ?_)
                clear hf; intro a hf
                refine done_l ?_
                refine b_normal ?_
                refine t_normal ?_
                refine c_region ?_
                refine step_l (st_rd hf (Wn.none rfl) (rd_move hf rfl rfl) hS rfl rfl ?_)
                clear hf; intro a hf
                refine step_l (st_rd hf (Wn.none rfl) (rd_add hf rfl rfl rfl (by first | exact Go.IntWalk.i64_in _ (by omega) | exact rfl)) hS rfl rfl ?_)
                clear hf; intro a hf
                refine step_l (st_rd hf (Wn.none rfl) (rd_assign hf rfl rfl) hS rfl rfl ?_)
                clear hf; intro a hf
                refine done_l ?_
                refine t_normal ⟨i + 1, ⟨((((((hf.k0.kb hf 8 rfl (by first | rfl | exact int_eq (by omega))).kb hf 7 rfl (by exact int_eq (by rw [hcn]; (try rw [if_pos (by omega)]); (try rw [if_neg (by omega)]); omega))).kb hf 6 rfl (by rfl)).kb hf 5 rfl (by rfl)).kb hf 1 rfl (by rfl)).kb hf 2 rfl (by rfl)), (by rw [hen]; first | (rw [if_pos (by omega)]; exact hS.sub (by repeat (first | exact Sub.refl | exact Sub.none | exact Sub.behind | (apply Sub.cons; (focus ((repeat (first | exact Sel.head | apply Sel.tail)); done))) | apply Sub.skip))) | (rw [if_neg (by omega), List.append_nil]; exact hS.sub (by repeat (first | exact Sub.refl | exact Sub.none | exact Sub.behind | (apply Sub.cons; (focus ((repeat (first | exact Sel.head | apply Sel.tail)); done))) | apply Sub.skip)))), by omega⟩, by omega⟩
                )
            · clear hf; intro hc5 a hf
              first
              | (first | exact absurd hcut hc5 | exact absurd rfl hc5 | exact Bool.noConfusion hc5 | exact absurd hc5 (by omega) | exact absurd (by omega) hc5; done)
              | (
                refine done_l ?_
                refine t_normal ?_
                refine c_false hf rfl ?_
                refine c_skip ?_
                refine b_normal ?_
                refine t_normal ?_
                refine c_region ?_
                refine step_l (st_rd hf (Wn.none rfl) (rd_move hf rfl rfl) hS rfl rfl ?_)
                clear hf; intro a hf
                refine step_l (st_rd hf (Wn.none rfl) (rd_add hf rfl rfl rfl (by first | exact Go.IntWalk.i64_in _ (by omega) | exact rfl)) hS rfl rfl ?_)
                clear hf; intro a hf
                refine step_l (st_rd hf (Wn.none rfl) (rd_assign hf rfl rfl) hS rfl rfl ?_)
                clear hf; intro a hf
                refine done_l ?_
                refine t_normal ⟨i + 1, ⟨((((((hf.k0.kb hf 8 rfl (by first | rfl | exact int_eq (by omega))).kb hf 7 rfl (by exact int_eq (by rw [hcn]; (try rw [if_pos (by omega)]); (try rw [if_neg (by omega)]); omega))).kb hf 6 rfl (by rfl)).kb hf 5 rfl (by rfl)).kb hf 1 rfl (by rfl)).kb hf 2 rfl (by rfl)), (by rw [hen]; first | (rw [if_pos (by omega)]; exact hS.sub (by repeat (first | exact Sub.refl | exact Sub.none | exact Sub.behind | (apply Sub.cons; (focus ((repeat (first | exact Sel.head | apply Sel.tail)); done))) | apply Sub.skip))) | (rw [if_neg (by omega), List.append_nil]; exact hS.sub (by repeat (first | exact Sub.refl | exact Sub.none | exact Sub.behind | (apply Sub.cons; (focus ((repeat (first | exact Sel.head | apply Sel.tail)); done))) | apply Sub.skip)))), by omega⟩, by omega⟩
                )
            )
        · clear hf; intro hc4 a hf
          have hti : l.take i = l.take 40 := take40 hi (by omega)
          have hcn40 : cntL (l.take i) = cntL (l.take 40) := by rw [hti]
          rw [hti] at hS
          first
          | (first | exact absurd hcut hc4 | exact absurd rfl hc4 | exact Bool.noConfusion hc4 | exact absurd hc4 (by omega) | exact absurd (by omega) hc4; done)
          | (
            refine step_l (st_rd hf (Wn.none rfl) (rd_pick_t hf rfl rfl rfl) hS rfl rfl ?_)
            clear hf; intro a hf
            refine done_l ?_
            refine t_normal ?_
            refine c_false hf rfl ?_
            refine c_exit ?_
            refine t_exit ?_
            refine t_exit ?_
            refine b_exit ?_
            refine t_normal ?_
            refine c_seq ?_
            refine c_region ?_
            refine step_l (st_rd hf (Wn.none rfl) (rd_move hf rfl rfl) hS rfl rfl ?_)
            clear hf; intro a hf
            refine step_l (st_call hf (Wn.none rfl) rfl rfl rfl fn16 (Done_c _ _ _ (hS.sel (by repeat (first | exact Sel.head | apply Sel.tail))) (by simp only []; omega)) rfl rfl ?_)
            clear hf hS; rintro v a w ⟨qd_6, capd_6, hvr, hS⟩ hf; rw [doneB_ok, doneE_ok] at hvr; rw [doneB_ok] at hS; subst hvr
            refine step_l (st_rd hf (Wn.none rfl) (rd_move hf rfl rfl) hS rfl rfl ?_)
            clear hf; intro a hf
            refine step_l (st_rd hf (Wn.none rfl) (rd_extract hf rfl rfl rfl) hS rfl rfl ?_)
            clear hf; intro a hf
            refine step_l (st_rd hf (Wn.none rfl) (rd_extract hf rfl rfl rfl) hS rfl rfl ?_)
            clear hf; intro a hf
            refine step_l (st_rd hf (Wn.none rfl) (rd_assign hf rfl rfl) hS rfl rfl ?_)
            clear hf; intro a hf
            refine step_l (st_rd hf (Wn.none rfl) (rd_assign hf rfl rfl) hS rfl rfl ?_)
            clear hf; intro a hf
            refine done_l ?_
            refine t_normal ?_
            refine c_seq ?_
            refine c_seq ?_
            refine c_region ?_
            refine step_l (st_rd hf (Wn.none rfl) (rd_move hf rfl rfl) hS rfl rfl ?_)
            clear hf; intro a hf
            refine step_l (st_rdB hf (Wn.none rfl) (rd_neq hf rfl rfl rfl) hS rfl rfl ?_ ?_)
            · clear hf; intro hc7 a hf
              first
              | (first | exact absurd hcut hc7 | exact absurd rfl hc7 | exact Bool.noConfusion hc7 | exact absurd hc7 (by omega) | exact absurd (by omega) hc7; done)
              | (
                refine done_l ?_
                refine t_normal ?_
                refine c_true hf rfl ?_
                refine c_seq ?_
                refine c_region ?_
                refine step_l (st_rd hf (Wn.none rfl) (rd_assign hf rfl rfl) hS rfl rfl ?_)
                clear hf; intro a hf
                refine done_l ?_
                refine t_normal ?_
                refine c_ret ?_
                refine t_ret ?_
                refine e_res1 hf.defers rfl (res_tmp hf rfl .nil) ?_
                exact ⟨rfl, hS.sub (by repeat (first | exact Sub.refl | exact Sub.none | exact Sub.behind | (apply Sub.cons; (focus ((repeat (first | exact Sel.head | apply Sel.tail)); done))) | apply Sub.skip))⟩
                )
            · clear hf; intro hc7 a hf
              first
              | (first | exact absurd hcut hc7 | exact absurd rfl hc7 | exact Bool.noConfusion hc7 | exact absurd hc7 (by omega) | exact absurd (by omega) hc7; done)
              | (
                refine done_l ?_
                refine t_normal ?_
                refine c_false hf rfl ?_
                refine c_skip ?_
                refine t_normal ?_
                refine c_seq ?_
                refine c_region ?_
                refine step_l (st_rd hf (Wn.none rfl) (rd_makeFunc hf rfl rfl rfl) hS rfl rfl ?_)
                clear hf; intro a hf
                refine step_l (st_rd hf (Wn.none rfl) (rd_assign hf rfl rfl) hS rfl rfl ?_)
                clear hf; intro a hf
                refine done_l ?_
                refine t_normal ?_
                refine c_seq ?_
                refine c_seq ?_
                refine c_region ?_
                refine step_l (st_rd hf (Wn.none rfl) (rd_move hf rfl rfl) hS rfl rfl ?_)
                clear hf; intro a hf
                refine step_l (st_rd hf (Wn.none rfl) (rd_move hf rfl rfl) hS rfl rfl ?_)
                clear hf; intro a hf
                refine step_l (st_call hf (Wn.none rfl) rfl rfl rfl fn34 (read_c (encL (l.take 40)) _ _ _ _ _ _ _ hS rfl (by first | omega | (rw [List.length_take]; omega)) (fun _ h => h.slOfRw (by repeat (first | exact Sel.head | apply Sel.tail))) (fun x hx => (hl x hx).sub (fun _ h => h.sub (by repeat (first | exact Sub.refl | exact Sub.none | exact Sub.behind | (apply Sub.cons; (focus ((repeat (first | exact Sel.head | apply Sel.tail)); done))) | apply Sub.skip)))) (fun _ h => hvl _ (h.sub (by repeat (first | exact Sub.refl | exact Sub.none | exact Sub.behind | (apply Sub.cons; (focus ((repeat (first | exact Sel.head | apply Sel.tail)); done))) | apply Sub.skip)))) (fun _ h => h.cell (by repeat (first | exact Sel.head | apply Sel.tail)) rfl)) rfl rfl ?_)
                clear hf hS; rintro v a w ⟨hvr, hS⟩ hf; rw [hok] at hvr; subst hvr
                refine step_l (st_rd hf (Wn.none rfl) (rd_move hf rfl rfl) hS rfl rfl ?_)
                clear hf; intro a hf
                refine step_l (st_rdb hf (Wn.none rfl) (rd_extract hf rfl rfl rfl) hS rfl rfl ?_ ?_)
                · clear hf; intro hc8 a hf
                  first
                  | (first | exact absurd hcut hc8 | exact absurd rfl hc8 | exact Bool.noConfusion hc8 | exact absurd hc8 (by omega) | exact absurd (by omega) hc8; done)
                  | (
                    refine step_l (st_rd hf (Wn.none rfl) (rd_extract hf rfl rfl rfl) hS rfl rfl ?_)
                    clear hf; intro a hf
                    refine step_l (st_rd hf (Wn.none rfl) (rd_assign hf rfl rfl) hS rfl rfl ?_)
                    clear hf; intro a hf
                    refine step_l (st_rd hf (Wn.none rfl) (rd_assign hf rfl rfl) hS rfl rfl ?_)
                    clear hf; intro a hf
                    refine done_l ?_
                    refine t_normal ?_
                    refine c_seq ?_
                    refine c_region ?_
                    refine step_l (st_rd hf (Wn.none rfl) (rd_move hf rfl rfl) hS rfl rfl ?_)
                    clear hf; intro a hf
                    refine step_l (st_rd hf (Wn.none rfl) (rd_not hf rfl rfl) hS rfl rfl ?_)
                    clear hf; intro a hf
                    refine step_l (st_rd hf (Wn.none rfl) (rd_move hf rfl rfl) hS rfl rfl ?_)
                    clear hf; intro a hf
                    refine step_l (st_rd hf (Wn.some hf rfl rfl rfl rfl) (rd_move hf rfl rfl) hS rfl rfl ?_)
                    clear hf; intro a hf
                    refine step_l (st_rdB hf (Wn.some hf rfl rfl rfl rfl) (rd_neq hf rfl rfl rfl) hS rfl rfl ?_ ?_)
                    · clear hf; intro hc9 a hf
                      first
                      | (first | exact absurd hcut hc9 | exact absurd rfl hc9 | exact Bool.noConfusion hc9 | exact absurd hc9 (by omega) | exact absurd (by omega) hc9; done)
                      | (
                        refine step_l (st_rd hf (Wn.none rfl) (rd_pick_f hf rfl rfl rfl) hS rfl rfl ?_)
                        clear hf; intro a hf
                        refine done_l ?_
                        refine t_normal ?_
                        refine c_true hf rfl ?_
                        refine c_seq ?_
                        refine c_region ?_
                        refine step_l (st_rd hf (Wn.none rfl) (rd_assign hf rfl rfl) hS rfl rfl ?_)
                        clear hf; intro a hf
                        refine done_l ?_
                        refine t_normal ?_
                        refine c_ret ?_
                        refine t_ret ?_
                        refine e_res1 hf.defers rfl (res_tmp hf rfl .nil) ?_
                        exact ⟨rfl, hS.sub (by repeat (first | exact Sub.refl | exact Sub.none | exact Sub.behind | (apply Sub.cons; (focus ((repeat (first | exact Sel.head | apply Sel.tail)); done))) | apply Sub.skip))⟩
                        )
                    · clear hf; intro hc9 a hf
                      first
                      | (first | exact absurd hcut hc9 | exact absurd rfl hc9 | exact Bool.noConfusion hc9 | exact absurd hc9 (by omega) | exact absurd (by omega) hc9; done)
                      | (
                        refine step_l (st_rd hf (Wn.none rfl) (rd_pick_f hf rfl rfl rfl) hS rfl rfl ?_)
                        clear hf; intro a hf
                        refine done_l ?_
                        refine t_normal ?_
                        refine c_false hf rfl ?_
                        refine c_skip ?_
                        refine t_normal ?_
                        refine c_seq ?_
                        refine c_seq ?_
                        refine c_region ?_
                        refine step_l (st_rd hf (Wn.none rfl) (rd_move hf rfl rfl) hS rfl rfl ?_)
                        clear hf; intro a hf
                        refine step_l (st_rd hf (Wn.none rfl) (rd_len hf rfl rfl Try.underlying29) hS rfl rfl ?_)
                        clear hf; intro a hf
                        refine step_l (st_rdB hf (Wn.none rfl) (rd_eql hf rfl rfl rfl) hS rfl rfl ?_ ?_)
                        · clear hf; intro hc10 a hf
                          first
                          | (first | exact absurd hcut hc10 | exact absurd rfl hc10 | exact Bool.noConfusion hc10 | exact absurd hc10 (by omega) | exact absurd (by omega) hc10; done)
                          | (
                            refine done_l ?_
                            refine t_normal ?_
                            refine c_true hf rfl ?_
                            refine c_seq ?_
                            refine c_region ?_
                            refine step_l (st_rd hf (Wn.none rfl) (rd_move hf rfl rfl) hS rfl rfl ?_)
                            clear hf; intro a hf
                            refine step_l (st_rdB hf (Wn.none rfl) (rd_eql hf rfl rfl rfl) hS rfl rfl ?_ ?_)
                            · clear hf; intro hc11 a hf
                              first
                              | (first | exact absurd hcut hc11 | exact absurd rfl hc11 | exact Bool.noConfusion hc11 | exact absurd hc11 (by omega) | exact absurd (by omega) hc11; done)
                              | (
                                refine step_l (st_rd hf (Wn.none rfl) (rd_move hf rfl rfl) hS rfl rfl ?_)
                                clear hf; intro a hf
                                refine step_l (st_call hf (Wn.some hf rfl rfl rfl rfl) rfl rfl rfl fn17 (awake_c hS) rfl rfl ?_)
                                clear hf hS; rintro v a w ⟨rfl, hS⟩ hf
                                refine step_l (st_rd hf (Wn.none rfl) (rd_pick_t hf rfl rfl rfl) hS rfl rfl ?_)
                                clear hf; intro a hf
                                refine step_l (st_rd hf (Wn.none rfl) (rd_assign hf rfl rfl) hS rfl rfl ?_)
                                clear hf; intro a hf
                                refine done_l ?_
                                refine t_normal ?_
                                refine c_ret ?_
                                refine t_ret ?_
                                refine e_res1 hf.defers rfl (res_tmp hf rfl .nil) ?_
                                exact ⟨rfl, hS.sub (by repeat (first | exact Sub.refl | exact Sub.none | exact Sub.behind | (apply Sub.cons; (focus ((repeat (first | exact Sel.head | apply Sel.tail)); done))) | apply Sub.skip))⟩
                                )
                            · clear hf; intro hc11 a hf
                              first
                              | (first | exact absurd hcut hc11 | exact absurd rfl hc11 | exact Bool.noConfusion hc11 | exact absurd hc11 (by omega) | exact absurd (by omega) hc11; done)
                              | (
                                refine step_l (st_rd hf (Wn.none rfl) (rd_move hf rfl rfl) hS rfl rfl ?_)
                                clear hf; intro a hf
                                refine step_l (st_skip hf (Wn.some hf rfl rfl rfl rfl) rfl rfl ?_)
                                clear hf; intro a hf
                                refine step_l (st_rd hf (Wn.none rfl) (rd_pick_f hf rfl rfl rfl) hS rfl rfl ?_)
                                clear hf; intro a hf
                                refine step_l (st_rd hf (Wn.none rfl) (rd_assign hf rfl rfl) hS rfl rfl ?_)
                                clear hf; intro a hf
                                refine done_l ?_
                                refine t_normal ?_
                                refine c_ret ?_
                                refine t_ret ?_
                                refine e_res1 hf.defers rfl (res_tmp hf rfl .nil) ?_
                                exact ⟨rfl, hS.sub (by repeat (first | exact Sub.refl | exact Sub.none | exact Sub.behind | (apply Sub.cons; (focus ((repeat (first | exact Sel.head | apply Sel.tail)); done))) | apply Sub.skip))⟩
                                )
                            )
                        · clear hf; intro hc10 a hf
                          have hpos : 0 < (encL (l.take 40)).length := by omega
                          have hmod := Nat.mod_lt ((cut % 18446744073709551616).toNat) hpos
                          obtain ⟨k, hk⟩ : ∃ k, k = (cut % 18446744073709551616).toNat % (encL (l.take 40)).length := ⟨_, rfl⟩
                          rw [← hk] at hmod
                          have hcapE := (hS.rwLen (by repeat (first | exact Sel.head | apply Sel.tail))).2.1
                          have hcut := readL_cut (l.take 40) k (fun y hy => hwf y (List.mem_of_mem_take hy)) hmod
                          first
                          | (first | exact absurd hcut hc10 | exact absurd rfl hc10 | exact Bool.noConfusion hc10 | exact absurd hc10 (by omega) | exact absurd (by omega) hc10; done)
                          | (
                            refine done_l ?_
                            refine t_normal ?_
                            refine c_false hf rfl ?_
                            refine c_skip ?_
                            refine t_normal ?_
                            refine c_seq ?_
                            refine c_region ?_
                            refine step_l (st_rd hf (Wn.none rfl) (rd_move hf rfl rfl) hS rfl rfl ?_)
                            clear hf; intro a hf
                            refine step_l (st_rd hf (Wn.none rfl) (rd_move hf rfl rfl) hS rfl rfl ?_)
                            clear hf; intro a hf
                            refine step_l (st_rd hf (Wn.none rfl) (rd_move hf rfl rfl) hS rfl rfl ?_)
                            clear hf; intro a hf
                            refine step_l (st_rd hf (Wn.none rfl) (rd_convInt hf rfl rfl Try.underlying3 Try.underlying22 rfl) hS rfl rfl ?_)
                            clear hf; intro a hf
                            refine step_l (st_rd hf (Wn.none rfl) (rd_move hf rfl rfl) hS rfl rfl ?_)
                            clear hf; intro a hf
                            refine step_l (st_rd hf (Wn.none rfl) (rd_len hf rfl rfl Try.underlying29) hS rfl rfl ?_)
                            clear hf; intro a hf
                            refine step_l (st_rd hf (Wn.none rfl) (rd_convInt hf rfl rfl Try.underlying3 Try.underlying22 (wrap64 (by omega))) hS rfl rfl ?_)
                            clear hf; intro a hf
                            refine step_l (st_rd hf (Wn.none rfl) (rd_rem hf rfl rfl rfl (by first | decide | omega) ((u64modN cut (by omega)).trans (congrArg (fun z : Nat => (z : Int)) hk.symm))) hS rfl rfl ?_)
                            clear hf; intro a hf
                            refine step_l (st_rd hf (Wn.none rfl) (rd_convInt hf rfl rfl Try.underlying22 Try.underlying3 (Go.IntWalk.i64_in _ (by omega))) hS rfl rfl ?_)
                            clear hf; intro a hf
                            refine step_l (st_rd hf (Wn.none rfl) (rd_sliceH hf rfl rfl rfl Try.underlying29 sz5 (by omega) (by omega)) hS rfl rfl ?_)
                            clear hf; intro a hf
                            refine step_l (st_call hf (Wn.none rfl) rfl rfl rfl fn34 (read_c ((encL (l.take 40)).take k) _ _ _ _ _ _ _ hS (by rw [List.length_take, Int.toNat_natCast, Nat.min_eq_left (by omega)]) (by first | omega | (rw [List.length_take]; omega)) (fun _ h => (by rw [bvs_take, List.length_take, Nat.min_eq_left (by omega)]; exact (h.slOfRw (by repeat (first | exact Sel.head | apply Sel.tail))).take (by omega))) (fun x hx => (hl x hx).sub (fun _ h => h.sub (by repeat (first | exact Sub.refl | exact Sub.none | exact Sub.behind | (apply Sub.cons; (focus ((repeat (first | exact Sel.head | apply Sel.tail)); done))) | apply Sub.skip)))) (fun _ h => hvl _ (h.sub (by repeat (first | exact Sub.refl | exact Sub.none | exact Sub.behind | (apply Sub.cons; (focus ((repeat (first | exact Sel.head | apply Sel.tail)); done))) | apply Sub.skip)))) (fun _ h => h.cell (by repeat (first | exact Sel.head | apply Sel.tail)) rfl)) rfl rfl ?_)
                            clear hf hS; rintro v a w ⟨rfl, hS⟩ hf
                            refine step_l (st_rd hf (Wn.none rfl) (rd_move hf rfl rfl) hS rfl rfl ?_)
                            clear hf; intro a hf
                            refine step_l (st_rd hf (Wn.none rfl) (rd_extract hf rfl rfl rfl) hS rfl rfl ?_)
                            clear hf; intro a hf
                            refine step_l (st_rd hf (Wn.none rfl) (rd_extract hf rfl rfl rfl) hS rfl rfl ?_)
                            clear hf; intro a hf
                            refine step_l (st_rd hf (Wn.none rfl) (rd_assign hf rfl rfl) hS rfl rfl ?_)
                            clear hf; intro a hf
                            refine step_l (st_rd hf (Wn.none rfl) (rd_assign hf rfl rfl) hS rfl rfl ?_)
                            clear hf; intro a hf
                            refine done_l ?_
                            refine t_normal ?_
                            refine c_seq ?_
                            refine c_region ?_
                            refine step_l (st_rd hf (Wn.none rfl) (rd_move hf rfl rfl) hS rfl rfl ?_)
                            clear hf; intro a hf
                            refine step_l (st_rdB hf (Wn.none rfl) (rd_neq hf rfl rfl rfl) hS rfl rfl ?_ ?_)
                            · clear hf; intro hc12 a hf
                              first
                              | (first | exact absurd hcut hc12 | exact absurd rfl hc12 | exact Bool.noConfusion hc12 | exact absurd hc12 (by omega) | exact absurd (by omega) hc12; done)
                              | (
                                refine step_l (st_rd hf (Wn.none rfl) (rd_move hf rfl rfl) hS rfl rfl ?_)
                                clear hf; intro a hf
                                refine step_l (st_call hf (Wn.some hf rfl rfl rfl rfl) rfl rfl rfl fn17 (awake_c hS) rfl rfl ?_)
                                clear hf hS; rintro v a w ⟨rfl, hS⟩ hf
                                refine step_l (st_rd hf (Wn.none rfl) (rd_pick_t hf rfl rfl rfl) hS rfl rfl ?_)
                                clear hf; intro a hf
                                refine step_l (st_rd hf (Wn.none rfl) (rd_assign hf rfl rfl) hS rfl rfl ?_)
                                clear hf; intro a hf
                                refine done_l ?_
                                refine t_normal ?_
                                refine c_ret ?_
                                refine e_res1 hf.defers rfl (res_tmp hf rfl .nil) ?_
                                exact ⟨rfl, hS.sub (by repeat (first | exact Sub.refl | exact Sub.none | exact Sub.behind | (apply Sub.cons; (focus ((repeat (first | exact Sel.head | apply Sel.tail)); done))) | apply Sub.skip))⟩
                                )
                            · clear hf; intro hc12 a hf
                              first
                              | (first | exact absurd hcut hc12 | exact absurd rfl hc12 | exact Bool.noConfusion hc12 | exact absurd hc12 (by omega) | exact absurd (by omega) hc12; done)
                              | (
                                refine step_l (st_rd hf (Wn.none rfl) (rd_move hf rfl rfl) hS rfl rfl ?_)
                                clear hf; intro a hf
                                refine step_l (st_skip hf (Wn.some hf rfl rfl rfl rfl) rfl rfl ?_)
                                clear hf; intro a hf
                                refine step_l (st_rd hf (Wn.none rfl) (rd_pick_f hf rfl rfl rfl) hS rfl rfl ?_)
                                clear hf; intro a hf
                                refine step_l (st_rd hf (Wn.none rfl) (rd_assign hf rfl rfl) hS rfl rfl ?_)
                                clear hf; intro a hf
                                refine done_l ?_
                                refine t_normal ?_
                                refine c_ret ?_
                                refine e_res1 hf.defers rfl (res_tmp hf rfl .nil) ?_
                                exact ⟨rfl, hS.sub (by repeat (first | exact Sub.refl | exact Sub.none | exact Sub.behind | (apply Sub.cons; (focus ((repeat (first | exact Sel.head | apply Sel.tail)); done))) | apply Sub.skip))⟩
                                )
                            )
                        )
                    )
                · clear hf; intro hc8 a hf
                  first
                  | (first | exact absurd hcut hc8 | exact absurd rfl hc8 | exact Bool.noConfusion hc8 | exact absurd hc8 (by omega) | exact absurd (by omega) hc8; done)
                  | (
                    refine step_l (st_rd hf (Wn.none rfl) (rd_extract hf rfl rfl rfl) hS rfl rfl ?_)
                    clear hf; intro a hf
                    refine step_l (st_rd hf (Wn.none rfl) (rd_assign hf rfl rfl) hS rfl rfl ?_)
                    clear hf; intro a hf
                    refine step_l (st_rd hf (Wn.none rfl) (rd_assign hf rfl rfl) hS rfl rfl ?_)
                    clear hf; intro a hf
                    refine done_l ?_
                    refine t_normal ?_
                    refine c_seq ?_
                    refine c_region ?_
                    refine step_l (st_rd hf (Wn.none rfl) (rd_move hf rfl rfl) hS rfl rfl ?_)
                    clear hf; intro a hf
                    refine step_l (st_rd hf (Wn.none rfl) (rd_not hf rfl rfl) hS rfl rfl ?_)
                    clear hf; intro a hf
                    refine step_l (st_rd hf (Wn.none rfl) (rd_move hf rfl rfl) hS rfl rfl ?_)
                    clear hf; intro a hf
                    refine step_l (st_skip hf (Wn.some hf rfl rfl rfl rfl) rfl rfl ?_)
                    clear hf; intro a hf
                    refine step_l (st_skip hf (Wn.some hf rfl rfl rfl rfl) rfl rfl ?_)
                    clear hf; intro a hf
                    refine step_l (st_rd hf (Wn.none rfl) (rd_pick_t hf rfl rfl rfl) hS rfl rfl ?_)
                    clear hf; intro a hf
                    refine done_l ?_
                    refine t_normal ?_
                    refine c_true hf rfl ?_
                    refine c_seq ?_
                    refine c_region ?_
                    refine step_l (st_rd hf (Wn.none rfl) (rd_assign hf rfl rfl) hS rfl rfl ?_)
                    clear hf; intro a hf
                    refine done_l ?_
                    refine t_normal ?_
                    refine c_ret ?_
                    refine t_ret ?_
                    refine e_res1 hf.defers rfl (res_tmp hf rfl .nil) ?_
                    exact ⟨rfl, hS.sub (by repeat (first | exact Sub.refl | exact Sub.none | exact Sub.behind | (apply Sub.cons; (focus ((repeat (first | exact Sel.head | apply Sel.tail)); done))) | apply Sub.skip))⟩
                    )
                )
            )
        )
    · clear hf; intro hc3 a hf
      have hti : l.take i = l.take 40 := take40 hi (by omega)
      have hcn40 : cntL (l.take i) = cntL (l.take 40) := by rw [hti]
      rw [hti] at hS
      first
      | (first | exact absurd hcut hc3 | exact absurd rfl hc3 | exact Bool.noConfusion hc3 | exact absurd hc3 (by omega) | exact absurd (by omega) hc3; done)
      | (
        refine step_l (st_rd hf (Wn.none rfl) (rd_move hf rfl rfl) hS rfl rfl ?_)
        clear hf; intro a hf
        refine step_l (st_skip hf (Wn.some hf rfl rfl rfl rfl) rfl rfl ?_)
        clear hf; intro a hf
        refine step_l (st_skip hf (Wn.some hf rfl rfl rfl rfl) rfl rfl ?_)
        clear hf; intro a hf
        refine step_l (st_rd hf (Wn.none rfl) (rd_pick_f hf rfl rfl rfl) hS rfl rfl ?_)
        clear hf; intro a hf
        refine done_l ?_
        refine t_normal ?_
        refine c_false hf rfl ?_
        refine c_exit ?_
        refine t_exit ?_
        refine t_exit ?_
        refine b_exit ?_
        refine t_normal ?_
        refine c_seq ?_
        refine c_region ?_
        refine step_l (st_rd hf (Wn.none rfl) (rd_move hf rfl rfl) hS rfl rfl ?_)
        clear hf; intro a hf
        refine step_l (st_call hf (Wn.none rfl) rfl rfl rfl fn16 (Done_c _ _ _ (hS.sel (by repeat (first | exact Sel.head | apply Sel.tail))) (by simp only []; omega)) rfl rfl ?_)
        clear hf hS; rintro v a w ⟨qd_13, capd_13, hvr, hS⟩ hf; rw [doneB_ok, doneE_ok] at hvr; rw [doneB_ok] at hS; subst hvr
        refine step_l (st_rd hf (Wn.none rfl) (rd_move hf rfl rfl) hS rfl rfl ?_)
        clear hf; intro a hf
        refine step_l (st_rd hf (Wn.none rfl) (rd_extract hf rfl rfl rfl) hS rfl rfl ?_)
        clear hf; intro a hf
        refine step_l (st_rd hf (Wn.none rfl) (rd_extract hf rfl rfl rfl) hS rfl rfl ?_)
        clear hf; intro a hf
        refine step_l (st_rd hf (Wn.none rfl) (rd_assign hf rfl rfl) hS rfl rfl ?_)
        clear hf; intro a hf
        refine step_l (st_rd hf (Wn.none rfl) (rd_assign hf rfl rfl) hS rfl rfl ?_)
        clear hf; intro a hf
        refine done_l ?_
        refine t_normal ?_
        refine c_seq ?_
        refine c_seq ?_
        refine c_region ?_
        refine step_l (st_rd hf (Wn.none rfl) (rd_move hf rfl rfl) hS rfl rfl ?_)
        clear hf; intro a hf
        refine step_l (st_rdB hf (Wn.none rfl) (rd_neq hf rfl rfl rfl) hS rfl rfl ?_ ?_)
        · clear hf; intro hc14 a hf
          first
          | (first | exact absurd hcut hc14 | exact absurd rfl hc14 | exact Bool.noConfusion hc14 | exact absurd hc14 (by omega) | exact absurd (by omega) hc14; done)
          | (
            refine done_l ?_
            refine t_normal ?_
            refine c_true hf rfl ?_
            refine c_seq ?_
            refine c_region ?_
            refine step_l (st_rd hf (Wn.none rfl) (rd_assign hf rfl rfl) hS rfl rfl ?_)
            clear hf; intro a hf
            refine done_l ?_
            refine t_normal ?_
            refine c_ret ?_
            refine t_ret ?_
            refine e_res1 hf.defers rfl (res_tmp hf rfl .nil) ?_
            exact ⟨rfl, hS.sub (by repeat (first | exact Sub.refl | exact Sub.none | exact Sub.behind | (apply Sub.cons; (focus ((repeat (first | exact Sel.head | apply Sel.tail)); done))) | apply Sub.skip))⟩
            )
        · clear hf; intro hc14 a hf
          first
          | (first | exact absurd hcut hc14 | exact absurd rfl hc14 | exact Bool.noConfusion hc14 | exact absurd hc14 (by omega) | exact absurd (by omega) hc14; done)
          | (
            refine done_l ?_
            refine t_normal ?_
            refine c_false hf rfl ?_
            refine c_skip ?_
            refine t_normal ?_
            refine c_seq ?_
            refine c_region ?_
            refine step_l (st_rd hf (Wn.none rfl) (rd_makeFunc hf rfl rfl rfl) hS rfl rfl ?_)
            clear hf; intro a hf
            refine step_l (st_rd hf (Wn.none rfl) (rd_assign hf rfl rfl) hS rfl rfl ?_)
            clear hf; intro a hf
            refine done_l ?_
            refine t_normal ?_
            refine c_seq ?_
            refine c_seq ?_
            refine c_region ?_
            refine step_l (st_rd hf (Wn.none rfl) (rd_move hf rfl rfl) hS rfl rfl ?_)
            clear hf; intro a hf
            refine step_l (st_rd hf (Wn.none rfl) (rd_move hf rfl rfl) hS rfl rfl ?_)
            clear hf; intro a hf
            refine step_l (st_call hf (Wn.none rfl) rfl rfl rfl fn34 (read_c (encL (l.take 40)) _ _ _ _ _ _ _ hS rfl (by first | omega | (rw [List.length_take]; omega)) (fun _ h => h.slOfRw (by repeat (first | exact Sel.head | apply Sel.tail))) (fun x hx => (hl x hx).sub (fun _ h => h.sub (by repeat (first | exact Sub.refl | exact Sub.none | exact Sub.behind | (apply Sub.cons; (focus ((repeat (first | exact Sel.head | apply Sel.tail)); done))) | apply Sub.skip)))) (fun _ h => hvl _ (h.sub (by repeat (first | exact Sub.refl | exact Sub.none | exact Sub.behind | (apply Sub.cons; (focus ((repeat (first | exact Sel.head | apply Sel.tail)); done))) | apply Sub.skip)))) (fun _ h => h.cell (by repeat (first | exact Sel.head | apply Sel.tail)) rfl)) rfl rfl ?_)
            clear hf hS; rintro v a w ⟨hvr, hS⟩ hf; rw [hok] at hvr; subst hvr
            refine step_l (st_rd hf (Wn.none rfl) (rd_move hf rfl rfl) hS rfl rfl ?_)
            clear hf; intro a hf
            refine step_l (st_rdb hf (Wn.none rfl) (rd_extract hf rfl rfl rfl) hS rfl rfl ?_ ?_)
            · clear hf; intro hc15 a hf
              first
              | (first | exact absurd hcut hc15 | exact absurd rfl hc15 | exact Bool.noConfusion hc15 | exact absurd hc15 (by omega) | exact absurd (by omega) hc15; done)
              | (
                refine step_l (st_rd hf (Wn.none rfl) (rd_extract hf rfl rfl rfl) hS rfl rfl ?_)
                clear hf; intro a hf
                refine step_l (st_rd hf (Wn.none rfl) (rd_assign hf rfl rfl) hS rfl rfl ?_)
                clear hf; intro a hf
                refine step_l (st_rd hf (Wn.none rfl) (rd_assign hf rfl rfl) hS rfl rfl ?_)
                clear hf; intro a hf
                refine done_l ?_
                refine t_normal ?_
                refine c_seq ?_
                refine c_region ?_
                refine step_l (st_rd hf (Wn.none rfl) (rd_move hf rfl rfl) hS rfl rfl ?_)
                clear hf; intro a hf
                refine step_l (st_rd hf (Wn.none rfl) (rd_not hf rfl rfl) hS rfl rfl ?_)
                clear hf; intro a hf
                refine step_l (st_rd hf (Wn.none rfl) (rd_move hf rfl rfl) hS rfl rfl ?_)
                clear hf; intro a hf
                refine step_l (st_rd hf (Wn.some hf rfl rfl rfl rfl) (rd_move hf rfl rfl) hS rfl rfl ?_)
                clear hf; intro a hf
                refine step_l (st_rdB hf (Wn.some hf rfl rfl rfl rfl) (rd_neq hf rfl rfl rfl) hS rfl rfl ?_ ?_)
                · clear hf; intro hc16 a hf
                  first
                  | (first | exact absurd hcut hc16 | exact absurd rfl hc16 | exact Bool.noConfusion hc16 | exact absurd hc16 (by omega) | exact absurd (by omega) hc16; done)
                  | (
                    refine step_l (st_rd hf (Wn.none rfl) (rd_pick_f hf rfl rfl rfl) hS rfl rfl ?_)
                    clear hf; intro a hf
                    refine done_l ?_
                    refine t_normal ?_
                    refine c_true hf rfl ?_
                    refine c_seq ?_
                    refine c_region ?_
                    refine step_l (st_rd hf (Wn.none rfl) (rd_assign hf rfl rfl) hS rfl rfl ?_)
                    clear hf; intro a hf
                    refine done_l ?_
                    refine t_normal ?_
                    refine c_ret ?_
                    refine t_ret ?_
                    refine e_res1 hf.defers rfl (res_tmp hf rfl .nil) ?_
                    exact ⟨rfl, hS.sub (by repeat (first | exact Sub.refl | exact Sub.none | exact Sub.behind | (apply Sub.cons; (focus ((repeat (first | exact Sel.head | apply Sel.tail)); done))) | apply Sub.skip))⟩
                    )
                · clear hf; intro hc16 a hf
                  first
                  | (first | exact absurd hcut hc16 | exact absurd rfl hc16 | exact Bool.noConfusion hc16 | exact absurd hc16 (by omega) | exact absurd (by omega) hc16; done)
                  | (
                    refine step_l (st_rd hf (Wn.none rfl) (rd_pick_f hf rfl rfl rfl) hS rfl rfl ?_)
                    clear hf; intro a hf
                    refine done_l ?_
                    refine t_normal ?_
                    refine c_false hf rfl ?_
                    refine c_skip ?_
                    refine t_normal ?_
                    refine c_seq ?_
                    refine c_seq ?_
                    refine c_region ?_
                    refine step_l (st_rd hf (Wn.none rfl) (rd_move hf rfl rfl) hS rfl rfl ?_)
                    clear hf; intro a hf
                    refine step_l (st_rd hf (Wn.none rfl) (rd_len hf rfl rfl Try.underlying29) hS rfl rfl ?_)
                    clear hf; intro a hf
                    refine step_l (st_rdB hf (Wn.none rfl) (rd_eql hf rfl rfl rfl) hS rfl rfl ?_ ?_)
                    · clear hf; intro hc17 a hf
                      first
                      | (first | exact absurd hcut hc17 | exact absurd rfl hc17 | exact Bool.noConfusion hc17 | exact absurd hc17 (by omega) | exact absurd (by omega) hc17; done)
                      | (
                        refine done_l ?_
                        refine t_normal ?_
                        refine c_true hf rfl ?_
                        refine c_seq ?_
                        refine c_region ?_
                        refine step_l (st_rd hf (Wn.none rfl) (rd_move hf rfl rfl) hS rfl rfl ?_)
                        clear hf; intro a hf
                        refine step_l (st_rdB hf (Wn.none rfl) (rd_eql hf rfl rfl rfl) hS rfl rfl ?_ ?_)
                        · clear hf; intro hc18 a hf
                          first
                          | (first | exact absurd hcut hc18 | exact absurd rfl hc18 | exact Bool.noConfusion hc18 | exact absurd hc18 (by omega) | exact absurd (by omega) hc18; done)
                          | (
                            refine step_l (st_rd hf (Wn.none rfl) (rd_move hf rfl rfl) hS rfl rfl ?_)
                            clear hf; intro a hf
                            refine step_l (st_call hf (Wn.some hf rfl rfl rfl rfl) rfl rfl rfl fn17 (awake_c hS) rfl rfl ?_)
                            clear hf hS; rintro v a w ⟨rfl, hS⟩ hf
                            refine step_l (st_rd hf (Wn.none rfl) (rd_pick_t hf rfl rfl rfl) hS rfl rfl ?_)
                            clear hf; intro a hf
                            refine step_l (st_rd hf (Wn.none rfl) (rd_assign hf rfl rfl) hS rfl rfl ?_)
                            clear hf; intro a hf
                            refine done_l ?_
                            refine t_normal ?_
                            refine c_ret ?_
                            refine t_ret ?_
                            refine e_res1 hf.defers rfl (res_tmp hf rfl .nil) ?_
                            exact ⟨rfl, hS.sub (by repeat (first | exact Sub.refl | exact Sub.none | exact Sub.behind | (apply Sub.cons; (focus ((repeat (first | exact Sel.head | apply Sel.tail)); done))) | apply Sub.skip))⟩
                            )
                        · clear hf; intro hc18 a hf
                          first
                          | (first | exact absurd hcut hc18 | exact absurd rfl hc18 | exact Bool.noConfusion hc18 | exact absurd hc18 (by omega) | exact absurd (by omega) hc18; done)
                          | (
                            refine step_l (st_rd hf (Wn.none rfl) (rd_move hf rfl rfl) hS rfl rfl ?_)
                            clear hf; intro a hf
                            refine step_l (st_skip hf (Wn.some hf rfl rfl rfl rfl) rfl rfl ?_)
                            clear hf; intro a hf
                            refine step_l (st_rd hf (Wn.none rfl) (rd_pick_f hf rfl rfl rfl) hS rfl rfl ?_)
                            clear hf; intro a hf
                            refine step_l (st_rd hf (Wn.none rfl) (rd_assign hf rfl rfl) hS rfl rfl ?_)
                            clear hf; intro a hf
                            refine done_l ?_
                            refine t_normal ?_
                            refine c_ret ?_
                            refine t_ret ?_
                            refine e_res1 hf.defers rfl (res_tmp hf rfl .nil) ?_
                            exact ⟨rfl, hS.sub (by repeat (first | exact Sub.refl | exact Sub.none | exact Sub.behind | (apply Sub.cons; (focus ((repeat (first | exact Sel.head | apply Sel.tail)); done))) | apply Sub.skip))⟩
                            )
                        )
                    · clear hf; intro hc17 a hf
                      have hpos : 0 < (encL (l.take 40)).length := by omega
                      have hmod := Nat.mod_lt ((cut % 18446744073709551616).toNat) hpos
                      obtain ⟨k, hk⟩ : ∃ k, k = (cut % 18446744073709551616).toNat % (encL (l.take 40)).length := ⟨_, rfl⟩
                      rw [← hk] at hmod
                      have hcapE := (hS.rwLen (by repeat (first | exact Sel.head | apply Sel.tail))).2.1
                      have hcut := readL_cut (l.take 40) k (fun y hy => hwf y (List.mem_of_mem_take hy)) hmod
                      first
                      | (first | exact absurd hcut hc17 | exact absurd rfl hc17 | exact Bool.noConfusion hc17 | exact absurd hc17 (by omega) | exact absurd (by omega) hc17; done)
                      | (
                        refine done_l ?_
                        refine t_normal ?_
                        refine c_false hf rfl ?_
                        refine c_skip ?_
                        refine t_normal ?_
                        refine c_seq ?_
                        refine c_region ?_
                        refine step_l (st_rd hf (Wn.none rfl) (rd_move hf rfl rfl) hS rfl rfl ?_)
                        clear hf; intro a hf
                        refine step_l (st_rd hf (Wn.none rfl) (rd_move hf rfl rfl) hS rfl rfl ?_)
                        clear hf; intro a hf
                        refine step_l (st_rd hf (Wn.none rfl) (rd_move hf rfl rfl) hS rfl rfl ?_)
                        clear hf; intro a hf
                        refine step_l (st_rd hf (Wn.none rfl) (rd_convInt hf rfl rfl Try.underlying3 Try.underlying22 rfl) hS rfl rfl ?_)
                        clear hf; intro a hf
                        refine step_l (st_rd hf (Wn.none rfl) (rd_move hf rfl rfl) hS rfl rfl ?_)
                        clear hf; intro a hf
                        refine step_l (st_rd hf (Wn.none rfl) (rd_len hf rfl rfl Try.underlying29) hS rfl rfl ?_)
                        clear hf; intro a hf
                        refine step_l (st_rd hf (Wn.none rfl) (rd_convInt hf rfl rfl Try.underlying3 Try.underlying22 (wrap64 (by omega))) hS rfl rfl ?_)
                        clear hf; intro a hf
                        refine step_l (st_rd hf (Wn.none rfl) (rd_rem hf rfl rfl rfl (by first | decide | omega) ((u64modN cut (by omega)).trans (congrArg (fun z : Nat => (z : Int)) hk.symm))) hS rfl rfl ?_)
                        clear hf; intro a hf
                        refine step_l (st_rd hf (Wn.none rfl) (rd_convInt hf rfl rfl Try.underlying22 Try.underlying3 (Go.IntWalk.i64_in _ (by omega))) hS rfl rfl ?_)
                        clear hf; intro a hf
                        refine step_l (st_rd hf (Wn.none rfl) (rd_sliceH hf rfl rfl rfl Try.underlying29 sz5 (by omega) (by omega)) hS rfl rfl ?_)
                        clear hf; intro a hf
                        refine step_l (st_call hf (Wn.none rfl) rfl rfl rfl fn34 (read_c ((encL (l.take 40)).take k) _ _ _ _ _ _ _ hS (by rw [List.length_take, Int.toNat_natCast, Nat.min_eq_left (by omega)]) (by first | omega | (rw [List.length_take]; omega)) (fun _ h => (by rw [bvs_take, List.length_take, Nat.min_eq_left (by omega)]; exact (h.slOfRw (by repeat (first | exact Sel.head | apply Sel.tail))).take (by omega))) (fun x hx => (hl x hx).sub (fun _ h => h.sub (by repeat (first | exact Sub.refl | exact Sub.none | exact Sub.behind | (apply Sub.cons; (focus ((repeat (first | exact Sel.head | apply Sel.tail)); done))) | apply Sub.skip)))) (fun _ h => hvl _ (h.sub (by repeat (first | exact Sub.refl | exact Sub.none | exact Sub.behind | (apply Sub.cons; (focus ((repeat (first | exact Sel.head | apply Sel.tail)); done))) | apply Sub.skip)))) (fun _ h => h.cell (by repeat (first | exact Sel.head | apply Sel.tail)) rfl)) rfl rfl ?_)
                        clear hf hS; rintro v a w ⟨rfl, hS⟩ hf
                        refine step_l (st_rd hf (Wn.none rfl) (rd_move hf rfl rfl) hS rfl rfl ?_)
                        clear hf; intro a hf
                        refine step_l (st_rd hf (Wn.none rfl) (rd_extract hf rfl rfl rfl) hS rfl rfl ?_)
                        clear hf; intro a hf
                        refine step_l (st_rd hf (Wn.none rfl) (rd_extract hf rfl rfl rfl) hS rfl rfl ?_)
                        clear hf; intro a hf
                        refine step_l (st_rd hf (Wn.none rfl) (rd_assign hf rfl rfl) hS rfl rfl ?_)
                        clear hf; intro a hf
                        refine step_l (st_rd hf (Wn.none rfl) (rd_assign hf rfl rfl) hS rfl rfl ?_)
                        clear hf; intro a hf
                        refine done_l ?_
                        refine t_normal ?_
                        refine c_seq ?_
                        refine c_region ?_
                        refine step_l (st_rd hf (Wn.none rfl) (rd_move hf rfl rfl) hS rfl rfl ?_)
                        clear hf; intro a hf
                        refine step_l (st_rdB hf (Wn.none rfl) (rd_neq hf rfl rfl rfl) hS rfl rfl ?_ ?_)
                        · clear hf; intro hc19 a hf
                          first
                          | (first | exact absurd hcut hc19 | exact absurd rfl hc19 | exact Bool.noConfusion hc19 | exact absurd hc19 (by omega) | exact absurd (by omega) hc19; done)
                          | (
                            refine step_l (st_rd hf (Wn.none rfl) (rd_move hf rfl rfl) hS rfl rfl ?_)
                            clear hf; intro a hf
                            refine step_l (st_call hf (Wn.some hf rfl rfl rfl rfl) rfl rfl rfl fn17 (awake_c hS) rfl rfl ?_)
                            clear hf hS; rintro v a w ⟨rfl, hS⟩ hf
                            refine step_l (st_rd hf (Wn.none rfl) (rd_pick_t hf rfl rfl rfl) hS rfl rfl ?_)
                            clear hf; intro a hf
                            refine step_l (st_rd hf (Wn.none rfl) (rd_assign hf rfl rfl) hS rfl rfl ?_)
                            clear hf; intro a hf
                            refine done_l ?_
                            refine t_normal ?_
                            refine c_ret ?_
                            refine e_res1 hf.defers rfl (res_tmp hf rfl .nil) ?_
                            exact ⟨rfl, hS.sub (by repeat (first | exact Sub.refl | exact Sub.none | exact Sub.behind | (apply Sub.cons; (focus ((repeat (first | exact Sel.head | apply Sel.tail)); done))) | apply Sub.skip))⟩
                            )
                        · clear hf; intro hc19 a hf
                          first
                          | (first | exact absurd hcut hc19 | exact absurd rfl hc19 | exact Bool.noConfusion hc19 | exact absurd hc19 (by omega) | exact absurd (by omega) hc19; done)
                          | (
                            refine step_l (st_rd hf (Wn.none rfl) (rd_move hf rfl rfl) hS rfl rfl ?_)
                            clear hf; intro a hf
                            refine step_l (st_skip hf (Wn.some hf rfl rfl rfl rfl) rfl rfl ?_)
                            clear hf; intro a hf
                            refine step_l (st_rd hf (Wn.none rfl) (rd_pick_f hf rfl rfl rfl) hS rfl rfl ?_)
                            clear hf; intro a hf
                            refine step_l (st_rd hf (Wn.none rfl) (rd_assign hf rfl rfl) hS rfl rfl ?_)
                            clear hf; intro a hf
                            refine done_l ?_
                            refine t_normal ?_
                            refine c_ret ?_
                            refine e_res1 hf.defers rfl (res_tmp hf rfl .nil) ?_
                            exact ⟨rfl, hS.sub (by repeat (first | exact Sub.refl | exact Sub.none | exact Sub.behind | (apply Sub.cons; (focus ((repeat (first | exact Sel.head | apply Sel.tail)); done))) | apply Sub.skip))⟩
                            )
                        )
                    )
                )
            · clear hf; intro hc15 a hf
              first
              | (first | exact absurd hcut hc15 | exact absurd rfl hc15 | exact Bool.noConfusion hc15 | exact absurd hc15 (by omega) | exact absurd (by omega) hc15; done)
              | (
                refine step_l (st_rd hf (Wn.none rfl) (rd_extract hf rfl rfl rfl) hS rfl rfl ?_)
                clear hf; intro a hf
                refine step_l (st_rd hf (Wn.none rfl) (rd_assign hf rfl rfl) hS rfl rfl ?_)
                clear hf; intro a hf
                refine step_l (st_rd hf (Wn.none rfl) (rd_assign hf rfl rfl) hS rfl rfl ?_)
                clear hf; intro a hf
                refine done_l ?_
                refine t_normal ?_
                refine c_seq ?_
                refine c_region ?_
                refine step_l (st_rd hf (Wn.none rfl) (rd_move hf rfl rfl) hS rfl rfl ?_)
                clear hf; intro a hf
                refine step_l (st_rd hf (Wn.none rfl) (rd_not hf rfl rfl) hS rfl rfl ?_)
                clear hf; intro a hf
                refine step_l (st_rd hf (Wn.none rfl) (rd_move hf rfl rfl) hS rfl rfl ?_)
                clear hf; intro a hf
                refine step_l (st_skip hf (Wn.some hf rfl rfl rfl rfl) rfl rfl ?_)
                clear hf; intro a hf
                refine step_l (st_skip hf (Wn.some hf rfl rfl rfl rfl) rfl rfl ?_)
                clear hf; intro a hf
                refine step_l (st_rd hf (Wn.none rfl) (rd_pick_t hf rfl rfl rfl) hS rfl rfl ?_)
                clear hf; intro a hf
                refine done_l ?_
                refine t_normal ?_
                refine c_true hf rfl ?_
                refine c_seq ?_
                refine c_region ?_
                refine step_l (st_rd hf (Wn.none rfl) (rd_assign hf rfl rfl) hS rfl rfl ?_)
                clear hf; intro a hf
                refine done_l ?_
                refine t_normal ?_
                refine c_ret ?_
                refine t_ret ?_
                refine e_res1 hf.defers rfl (res_tmp hf rfl .nil) ?_
                exact ⟨rfl, hS.sub (by repeat (first | exact Sub.refl | exact Sub.none | exact Sub.behind | (apply Sub.cons; (focus ((repeat (first | exact Sel.head | apply Sel.tail)); done))) | apply Sub.skip))⟩
                )
            )
        )

end Go.Proofs.Ytmohhhokplpgkaa
