/-
  The statement WireWrites, walked.
  Conditions: none.
-/
import Derived.Test.YtmohhhokplpgkaaWire2
namespace Go.Proofs.Ytmohhhokplpgkaa
open Go Go.Sl
set_option linter.unusedVariables false
set_option linter.unusedSimpArgs false
theorem ag2 : aggO Try.prog 2 = some false := by kernel_rfl
theorem ag22 : aggO Try.prog 22 = some false := by kernel_rfl
theorem ag43 : aggO Try.prog 43 = some true := by kernel_rfl
theorem fb43_0 : fieldB Try.prog 43 0 0 = true := by kernel_rfl
theorem fb43_1 : fieldB Try.prog 43 1 1 = true := by kernel_rfl
theorem fb43_2 : fieldB Try.prog 43 2 2 = true := by kernel_rfl
theorem fb43_3 : fieldB Try.prog 43 3 3 = true := by kernel_rfl
theorem fb43_4 : fieldB Try.prog 43 4 4 = true := by kernel_rfl
theorem fn17 : fnB Try.prog 17 = true := by kernel_rfl
theorem fn18 : fnB Try.prog 18 = true := by kernel_rfl
theorem fn19 : fnB Try.prog 19 = true := by kernel_rfl
theorem fn39 : fnB Try.prog 39 = true := by kernel_rfl
theorem fn44 : fnB Try.prog 44 = true := by kernel_rfl
theorem fn45 : fnB Try.prog 45 = true := by kernel_rfl
theorem fn46 : fnB Try.prog 46 = true := by kernel_rfl
theorem fn47 : fnB Try.prog 47 = true := by kernel_rfl
theorem pl40 : placesO Try.prog 40 = some [(0, 1), (1, 1), (2, 1)] := by kernel_rfl
theorem sz43 : (Try.prog.info? 43).map (·.size) = some 6 := by kernel_rfl
theorem zr40 : (Try.prog.info? 40).bind (·.zero) = some (.agg #[.slice none 0 0, .int .i64 0, .bool false]) := by kernel_rfl
abbrev CallT := Int × Nat × Int × Bool × Sli UInt8 × Int × Unit
def callC (x : CallT) : List Value := [.int .i64 x.1, .int .u64 (x.2.1 : Nat), .int .i64 x.2.2.1, .bool x.2.2.2.1, .slice x.2.2.2.2.1.1 x.2.2.2.2.1.2.2.length x.2.2.2.2.1.2.1, .int .i64 x.2.2.2.2.2.1]
theorem callC_len (x : CallT) : (callC x).length = 6 := rfl
structure CallOk (W : World) (R : List HP) (x : CallT) : Prop where
  num : x.2.1 < 18446744073709551616
  int : -9223372036854775808 ≤ x.2.2.1 ∧ x.2.2.1 ≤ 9223372036854775807
  len : x.2.2.2.2.1.2.2.length ≤ 140737488351232
  most : -9223372036854775808 ≤ x.2.2.2.2.2.1 ∧ x.2.2.2.2.2.1 ≤ 9223372036854775807
  view : ∀ w, Sat W R w → SlAt w x.2.2.2.2.1.1 x.2.2.2.2.1.2.2.length 1 (bvs x.2.2.2.2.1.2.2)
theorem CallOk.sub {W : World} {R R' : List HP} {x : CallT} (h : CallOk W R x) (f : ∀ w, Sat W R' w → Sat W R w) : CallOk W R' x := ⟨h.num, h.int, h.len, h.most, fun w hw => h.view w (f w hw)⟩
theorem CallOk.of {W : World} {P : Program} {e : TypeId} {x : CallT} (h : (-9223372036854775808 ≤ x.1 ∧ x.1 ≤ 9223372036854775807) ∧ x.2.1 < 18446744073709551616 ∧ (-9223372036854775808 ≤ x.2.2.1 ∧ x.2.2.1 ≤ 9223372036854775807) ∧ True ∧
    Sli.ok P W e 1 1 (fun c : UInt8 => [bv c]) (fun _ => True) x.2.2.2.2.1 ∧ (-9223372036854775808 ≤ x.2.2.2.2.2.1 ∧ x.2.2.2.2.2.1 ≤ 9223372036854775807) ∧ True) : CallOk W [Old W] x := by
  obtain ⟨_, h2, h3, _, ⟨s1, s2, s3, s4, s5, s6⟩, h6, _⟩ := h
  exact ⟨h2, h3, by omega, h6, fun w h => h.slOfOld .head (by rw [flat_bv] at s1; exact s1)⟩

def encC (x : CallT) : List UInt8 := if x.1 = 0 then numB x.2.1 else if x.1 = 1 then numB (zz x.2.2.1) else if x.1 = 2 then flagB x.2.2.2.1 else textB x.2.2.2.2.1.2.2

theorem write_c (p1 p2 : Nat) (most : Int) (s : WS) (x : CallT) {W : World} {R : List HP} {w : World} (hS : Sat W (WrP 5 67 p1 most s :: WrP 5 40 p2 most s :: R) w) (hm : 0 ≤ most ∧ most ≤ 9223372036854775807) (hr : most ≤ 140737488355328 ∨ s.1.length + (encC x).length ≤ 140737488355328) (hx : CallOk W R x) : Calls Try.prog 19 [.pointer (some ⟨p1, 0, none⟩), .pointer (some ⟨p2, 0, none⟩), .agg (callC x).toArray].toArray w (Ret fun v w' => v = .tuple #[] ∧ Sat W (WrP 5 67 p1 most (wput most s (encC x)) :: WrP 5 40 p2 most (wput most s (encC x)) :: R) w') := by
  refine fn_start 46 Try.func19 rfl rfl rfl ?_
  intro a hf
  obtain ⟨hx1, hx2, hx3, hx4, hx5⟩ := hx
  refine c_seq ?_
  refine c_region ?_
  refine step_l (st_box hf (Wn.none rfl) hS rfl rfl (by rfl) rfl rfl ?_)
  clear hf hS; intro b_1 a w hf hS
  refine done_l ?_
  refine t_normal ?_
  refine c_seq ?_
  refine c_region ?_
  refine step_l (st_rd hf (Wn.none rfl) (rd_fieldAddrB hf rfl rfl fb43_0 rfl) hS rfl rfl ?_)
  clear hf; intro a hf
  refine step_l (st_rd hf (Wn.none rfl) (rd_load1 hf rfl rfl ag3 (by intro _ h; first | exact h.cell (by repeat (first | exact Sel.head | apply Sel.tail)) (by rfl))) hS rfl rfl ?_)
  clear hf; intro a hf
  refine done_l ?_
  refine t_normal ?_
  refine c_block ?_
  refine c_seq ?_
  refine c_region ?_
  refine step_l (st_rdB hf (Wn.none rfl) (rd_eql hf rfl rfl rfl) hS rfl rfl ?_ ?_)
  · clear hf; intro hc2 a hf
    have he : encC x = numB x.2.1 := if_pos hc2; rw [he] at hr
    refine step_l (st_rd hf (Wn.none rfl) (rd_assign hf rfl rfl) hS rfl rfl ?_)
    clear hf; intro a hf
    refine done_l ?_
    refine t_normal ?_
    refine c_true hf rfl ?_
    refine c_seq ?_
    refine c_region ?_
    refine step_l (st_rd hf (Wn.none rfl) (rd_move hf rfl rfl) hS rfl rfl ?_)
    clear hf; intro a hf
    refine step_l (st_rd hf (Wn.none rfl) (rd_fieldAddrB hf rfl rfl fb43_1 rfl) hS rfl rfl ?_)
    clear hf; intro a hf
    refine step_l (st_rd hf (Wn.none rfl) (rd_load1 hf rfl rfl ag22 (by intro _ h; first | exact h.cell (by repeat (first | exact Sel.head | apply Sel.tail)) (by rfl))) hS rfl rfl ?_)
    clear hf; intro a hf
    refine step_l (st_call hf (Wn.none rfl) rfl rfl rfl fn14 (WNum_c _ _ _ _ (hS.sel (by repeat (first | exact Sel.head | apply Sel.tail))) hm hr hx1) rfl rfl ?_)
    clear hf hS; rintro v a w ⟨rfl, hS⟩ hf
    refine done_l ?_
    refine t_normal ?_
    refine c_region ?_
    refine step_l (st_rd hf (Wn.none rfl) (rd_move hf rfl rfl) hS rfl rfl ?_)
    clear hf; intro a hf
    refine step_l (st_rd hf (Wn.none rfl) (rd_fieldAddrB hf rfl rfl fb43_1 rfl) hS rfl rfl ?_)
    clear hf; intro a hf
    refine step_l (st_rd hf (Wn.none rfl) (rd_load1 hf rfl rfl ag22 (by intro _ h; first | exact h.cell (by repeat (first | exact Sel.head | apply Sel.tail)) (by rfl))) hS rfl rfl ?_)
    clear hf; intro a hf
    refine step_l (st_call hf (Wn.none rfl) rfl rfl rfl fn44 (VNum_c _ _ _ _ (hS.sel (by repeat (first | exact Sel.head | apply Sel.tail))) hm hr hx1) rfl rfl ?_)
    clear hf hS; rintro v a w ⟨rfl, hS⟩ hf
    refine done_l ?_
    refine b_normal ?_
    refine e_none' hf rfl ?_
    rw [he]; exact ⟨rfl, hS.sub (by repeat (first | exact Sub.refl | exact Sub.none | exact Sub.behind | (apply Sub.cons; (focus ((repeat (first | exact Sel.head | apply Sel.tail)); done))) | apply Sub.skip))⟩
  · clear hf; intro hc2 a hf
    refine step_l (st_rd hf (Wn.none rfl) (rd_assign hf rfl rfl) hS rfl rfl ?_)
    clear hf; intro a hf
    refine done_l ?_
    refine t_normal ?_
    refine c_false hf rfl ?_
    refine c_seq ?_
    refine c_region ?_
    refine step_l (st_rdB hf (Wn.none rfl) (rd_eql hf rfl rfl rfl) hS rfl rfl ?_ ?_)
    · clear hf; intro hc3 a hf
      have he : encC x = numB (zz x.2.2.1) := (if_neg (by assumption)).trans (if_pos hc3); rw [he] at hr
      refine step_l (st_rd hf (Wn.none rfl) (rd_assign hf rfl rfl) hS rfl rfl ?_)
      clear hf; intro a hf
      refine done_l ?_
      refine t_normal ?_
      refine c_true hf rfl ?_
      refine c_seq ?_
      refine c_region ?_
      refine step_l (st_rd hf (Wn.none rfl) (rd_move hf rfl rfl) hS rfl rfl ?_)
      clear hf; intro a hf
      refine step_l (st_rd hf (Wn.none rfl) (rd_fieldAddrB hf rfl rfl fb43_2 rfl) hS rfl rfl ?_)
      clear hf; intro a hf
      refine step_l (st_rd hf (Wn.none rfl) (rd_load1 hf rfl rfl ag2 (by intro _ h; first | exact h.cell (by repeat (first | exact Sel.head | apply Sel.tail)) (by rfl))) hS rfl rfl ?_)
      clear hf; intro a hf
      refine step_l (st_call hf (Wn.none rfl) rfl rfl rfl fn15 (WInt_c _ _ _ _ (hS.sel (by repeat (first | exact Sel.head | apply Sel.tail))) hm hr hx2) rfl rfl ?_)
      clear hf hS; rintro v a w ⟨rfl, hS⟩ hf
      refine done_l ?_
      refine t_normal ?_
      refine c_region ?_
      refine step_l (st_rd hf (Wn.none rfl) (rd_move hf rfl rfl) hS rfl rfl ?_)
      clear hf; intro a hf
      refine step_l (st_rd hf (Wn.none rfl) (rd_fieldAddrB hf rfl rfl fb43_2 rfl) hS rfl rfl ?_)
      clear hf; intro a hf
      refine step_l (st_rd hf (Wn.none rfl) (rd_load1 hf rfl rfl ag2 (by intro _ h; first | exact h.cell (by repeat (first | exact Sel.head | apply Sel.tail)) (by rfl))) hS rfl rfl ?_)
      clear hf; intro a hf
      refine step_l (st_call hf (Wn.none rfl) rfl rfl rfl fn45 (VInt_c _ _ _ _ (hS.sel (by repeat (first | exact Sel.head | apply Sel.tail))) hm hr hx2) rfl rfl ?_)
      clear hf hS; rintro v a w ⟨rfl, hS⟩ hf
      refine done_l ?_
      refine b_normal ?_
      refine e_none' hf rfl ?_
      rw [he]; exact ⟨rfl, hS.sub (by repeat (first | exact Sub.refl | exact Sub.none | exact Sub.behind | (apply Sub.cons; (focus ((repeat (first | exact Sel.head | apply Sel.tail)); done))) | apply Sub.skip))⟩
    · clear hf; intro hc3 a hf
      refine step_l (st_rd hf (Wn.none rfl) (rd_assign hf rfl rfl) hS rfl rfl ?_)
      clear hf; intro a hf
      refine done_l ?_
      refine t_normal ?_
      refine c_false hf rfl ?_
      refine c_seq ?_
      refine c_region ?_
      refine step_l (st_rdB hf (Wn.none rfl) (rd_eql hf rfl rfl rfl) hS rfl rfl ?_ ?_)
      · clear hf; intro hc4 a hf
        have he : encC x = flagB x.2.2.2.1 := (if_neg (by assumption)).trans ((if_neg (by assumption)).trans (if_pos hc4)); rw [he] at hr
        refine step_l (st_rd hf (Wn.none rfl) (rd_assign hf rfl rfl) hS rfl rfl ?_)
        clear hf; intro a hf
        refine done_l ?_
        refine t_normal ?_
        refine c_true hf rfl ?_
        refine c_seq ?_
        refine c_region ?_
        refine step_l (st_rd hf (Wn.none rfl) (rd_move hf rfl rfl) hS rfl rfl ?_)
        clear hf; intro a hf
        refine step_l (st_rd hf (Wn.none rfl) (rd_fieldAddrB hf rfl rfl fb43_3 rfl) hS rfl rfl ?_)
        clear hf; intro a hf
        refine step_l (st_rd hf (Wn.none rfl) (rd_load1 hf rfl rfl ag4 (by intro _ h; first | exact h.cell (by repeat (first | exact Sel.head | apply Sel.tail)) (by rfl))) hS rfl rfl ?_)
        clear hf; intro a hf
        refine step_l (st_call hf (Wn.none rfl) rfl rfl rfl fn39 (WFlag_c _ _ _ _ (hS.sel (by repeat (first | exact Sel.head | apply Sel.tail))) hm (by simpa [flagB] using hr)) rfl rfl ?_)
        clear hf hS; rintro v a w ⟨rfl, hS⟩ hf
        refine done_l ?_
        refine t_normal ?_
        refine c_region ?_
        refine step_l (st_rd hf (Wn.none rfl) (rd_move hf rfl rfl) hS rfl rfl ?_)
        clear hf; intro a hf
        refine step_l (st_rd hf (Wn.none rfl) (rd_fieldAddrB hf rfl rfl fb43_3 rfl) hS rfl rfl ?_)
        clear hf; intro a hf
        refine step_l (st_rd hf (Wn.none rfl) (rd_load1 hf rfl rfl ag4 (by intro _ h; first | exact h.cell (by repeat (first | exact Sel.head | apply Sel.tail)) (by rfl))) hS rfl rfl ?_)
        clear hf; intro a hf
        refine step_l (st_call hf (Wn.none rfl) rfl rfl rfl fn46 (VFlag_c _ _ _ _ (hS.sel (by repeat (first | exact Sel.head | apply Sel.tail))) hm (by simpa [flagB] using hr)) rfl rfl ?_)
        clear hf hS; rintro v a w ⟨rfl, hS⟩ hf
        refine done_l ?_
        refine b_normal ?_
        refine e_none' hf rfl ?_
        rw [he]; exact ⟨rfl, hS.sub (by repeat (first | exact Sub.refl | exact Sub.none | exact Sub.behind | (apply Sub.cons; (focus ((repeat (first | exact Sel.head | apply Sel.tail)); done))) | apply Sub.skip))⟩
      · clear hf; intro hc4 a hf
        have he : encC x = textB x.2.2.2.2.1.2.2 := (if_neg (by assumption)).trans ((if_neg (by assumption)).trans (if_neg hc4)); rw [he] at hr
        refine step_l (st_rd hf (Wn.none rfl) (rd_assign hf rfl rfl) hS rfl rfl ?_)
        clear hf; intro a hf
        refine done_l ?_
        refine t_normal ?_
        refine c_false hf rfl ?_
        refine c_seq ?_
        refine c_region ?_
        refine step_l (st_rd hf (Wn.none rfl) (rd_move hf rfl rfl) hS rfl rfl ?_)
        clear hf; intro a hf
        refine step_l (st_rd hf (Wn.none rfl) (rd_fieldAddrB hf rfl rfl fb43_4 rfl) hS rfl rfl ?_)
        clear hf; intro a hf
        refine step_l (st_rd hf (Wn.none rfl) (rd_load1 hf rfl rfl ag29 (by intro _ h; first | exact h.cell (by repeat (first | exact Sel.head | apply Sel.tail)) (by rfl))) hS rfl rfl ?_)
        clear hf; intro a hf
        refine step_l (st_call hf (Wn.none rfl) rfl rfl rfl fn18 (WText_c _ _ _ _ _ _ _ (hS.sel (by repeat (first | exact Sel.head | apply Sel.tail))) hm hr rfl (by omega) (fun _ h => hx5 _ (h.sub (by repeat (first | exact Sub.refl | exact Sub.none | exact Sub.behind | (apply Sub.cons; (focus ((repeat (first | exact Sel.head | apply Sel.tail)); done))) | apply Sub.skip))))) rfl rfl ?_)
        clear hf hS; rintro v a w ⟨rfl, hS⟩ hf
        refine done_l ?_
        refine t_normal ?_
        refine c_region ?_
        refine step_l (st_rd hf (Wn.none rfl) (rd_move hf rfl rfl) hS rfl rfl ?_)
        clear hf; intro a hf
        refine step_l (st_rd hf (Wn.none rfl) (rd_fieldAddrB hf rfl rfl fb43_4 rfl) hS rfl rfl ?_)
        clear hf; intro a hf
        refine step_l (st_rd hf (Wn.none rfl) (rd_load1 hf rfl rfl ag29 (by intro _ h; first | exact h.cell (by repeat (first | exact Sel.head | apply Sel.tail)) (by rfl))) hS rfl rfl ?_)
        clear hf; intro a hf
        refine step_l (st_call hf (Wn.none rfl) rfl rfl rfl fn47 (VText_c _ _ _ _ _ _ _ (hS.sel (by repeat (first | exact Sel.head | apply Sel.tail))) hm hr rfl (by omega) (fun _ h => hx5 _ (h.sub (by repeat (first | exact Sub.refl | exact Sub.none | exact Sub.behind | (apply Sub.cons; (focus ((repeat (first | exact Sel.head | apply Sel.tail)); done))) | apply Sub.skip))))) rfl rfl ?_)
        clear hf hS; rintro v a w ⟨rfl, hS⟩ hf
        refine done_l ?_
        refine b_normal ?_
        refine e_none' hf rfl ?_
        rw [he]; exact ⟨rfl, hS.sub (by repeat (first | exact Sub.refl | exact Sub.none | exact Sub.behind | (apply Sub.cons; (focus ((repeat (first | exact Sel.head | apply Sel.tail)); done))) | apply Sub.skip))⟩

abbrev txt (x : CallT) : List UInt8 := x.2.2.2.2.1.2.2
def sumT : List CallT → Nat
  | [] => 0
  | x :: L => (txt x).length + sumT L
theorem sumT_append : ∀ L M : List CallT, sumT (L ++ M) = sumT L + sumT M
  | [], M => by simp [sumT]
  | x :: L, M => by simp only [List.cons_append, sumT, sumT_append L M, Nat.add_assoc]
theorem sumT_take (L : List CallT) (k : Nat) : sumT (L.take k) ≤ sumT L := by
  have h := sumT_append (L.take k) (L.drop k); rw [List.take_append_drop] at h; omega
theorem encC_le {x : CallT} (h1 : x.2.1 < 18446744073709551616) (h2 : -9223372036854775808 ≤ x.2.2.1 ∧ x.2.2.1 ≤ 9223372036854775807) (h3 : (txt x).length < 18446744073709551616) : (encC x).length ≤ (txt x).length + 10 := by
  have h1 := numB_10 h1; have h2 := numB_10 (zz_lt h2); have h3 := numB_10 h3
  unfold encC
  split
  · omega
  · split
    · omega
    · split
      · simp [flagB]
      · show (textB (txt x)).length ≤ _
        simp only [textB, List.length_append]; omega
def runW (most : Int) (L : List CallT) : WS := L.foldl (fun s x => wput most s (encC x)) ([], false)
theorem runW_snoc (most : Int) (L : List CallT) (x : CallT) : runW most (L ++ [x]) = wput most (runW most L) (encC x) := by simp [runW]
theorem wput_lenN (most : Int) (s : WS) (b : List UInt8) : (wput most s b).1.length ≤ s.1.length + b.length := by unfold wput; split <;> simp
theorem bulk_calls {l : List CallT} : sumT l ≤ (l.map fun x : CallT => 1 + (1 + (1 + (1 + ((x.2.2.2.2.1.2.2.map fun _ => 1).sum + (1 + 0)))))).sum := by
  induction l with
  | nil => simp [sumT]
  | cons x l ih =>
    have : (x.2.2.2.2.1.2.2.map fun _ => 1).sum = (txt x).length := by
      show ((txt x).map fun _ => 1).sum = _
      generalize txt x = t
      induction t with
      | nil => rfl
      | cons c r ih => simp only [List.map_cons, List.sum_cons, ih, List.length_cons]; omega
    simp only [sumT, List.map_cons, List.sum_cons]
    omega

set_option maxHeartbeats 2000000 in
theorem WireWrites_c (most : Int) (l : List CallT) (ql : Option Addr) (capl : Nat) {W : World} {R : List HP} {w : World} (hS : Sat W (R) w) (hmost : -9223372036854775808 ≤ most ∧ most ≤ 9223372036854775807) (hsum : sumT l ≤ 1048576) (hl : ∀ x ∈ l, CallOk W R x) (hvl : ∀ w, Sat W R w → SlAt w ql l.length 6 (l.flatMap callC)) : Calls Try.prog 5 [.int .i64 most, .slice ql l.length capl].toArray w (Ret fun v w' => v = .bool true ∧ Sat W R w') := by
  refine fn_start 69 Try.func5 rfl rfl rfl ?_
  intro a hf
  refine c_seq ?_
  refine c_region ?_
  refine step_l (st_rd hf (Wn.none rfl) (rd_assign hf rfl rfl) hS rfl rfl ?_)
  clear hf; intro a hf
  refine done_l ?_
  refine t_normal ?_
  refine c_seq ?_
  refine c_region ?_
  refine step_l (st_rd hf (Wn.none rfl) (rd_move hf rfl rfl) hS rfl rfl ?_)
  clear hf; intro a hf
  refine step_l (st_call hf (Wn.none rfl) rfl rfl rfl fn13 (NewWriter_c _ hS) rfl rfl ?_)
  clear hf hS; rintro v a w ⟨pw, rfl, hS⟩ hf
  refine step_l (st_rd hf (Wn.none rfl) (rd_move hf rfl rfl) hS rfl rfl ?_)
  clear hf; intro a hf
  refine step_l (st_rd hf (Wn.none rfl) (rd_max hf rfl rfl rfl) hS rfl rfl ?_)
  clear hf; intro a hf
  refine step_l (st_rd hf (Wn.none rfl) (rd_build hf rfl rfl zr40 (by rfl) pl40 (.cons rfl (by rfl) (by rfl) (by repeat (first | exact Put.nil | apply Put.cons | apply Put.succ)) .nil)) hS rfl rfl ?_)
  clear hf; intro a hf
  refine step_l (st_box hf (Wn.none rfl) hS rfl rfl (by rfl) rfl rfl ?_)
  clear hf hS; intro b_m a w hf hS
  refine step_l (st_rd hf (Wn.none rfl) (rd_assign hf rfl rfl) hS rfl rfl ?_)
  clear hf; intro a hf
  refine step_l (st_rd hf (Wn.none rfl) (rd_assign hf rfl rfl) hS rfl rfl ?_)
  clear hf; intro a hf
  refine done_l ?_
  refine t_normal ?_
  refine c_seq ?_
  refine c_seq ?_
  replace hS := wr_shut (s := ([], false)) (T := 40) (p := b_m) (q := none) (n := 0) (cap := 0) ((hS.rwNil 5 1).sub (.cons (.tail .head) (.cons .head .refl))) rfl rfl rfl
  refine c_region ?_
  refine step_l (st_rd hf (Wn.none rfl) (rd_move hf rfl rfl) hS rfl rfl ?_)
  clear hf; intro a hf
  refine step_l (st_rdb hf (Wn.none rfl) (rd_eqlNilP hf rfl rfl rfl Try.underlying25) hS rfl rfl ?_ ?_)
  · clear hf; intro hc2 a hf
    exact Bool.noConfusion hc2
  · clear hf; intro hc2 a hf
    first
    | (first | exact absurd rfl hc2; done)
    | (
      refine done_l ?_
      refine t_normal ?_
      refine c_false hf rfl ?_
      refine c_skip ?_
      refine t_normal ?_
      refine c_seq ?_
      refine c_seq ?_
      refine c_region ?_
      refine step_l (st_rd hf (Wn.none rfl) (rd_assign hf rfl rfl) hS rfl rfl ?_)
      clear hf; intro a hf
      refine done_l ?_
      refine t_normal ?_
      refine c_block ?_
      refine c_loop (α := Nat) (fun i a w => Fits 69 a [(1, .slice ql l.length capl), (5, .pointer (some ⟨pw, 0, none⟩)), (6, .pointer (some ⟨b_m, 0, none⟩)), (7, .int .i64 (i : Nat))] ∧ Sat W (WrP 5 67 pw (max 0 most) (runW (max 0 most) (l.take i)) :: WrP 5 40 b_m (max 0 most) (runW (max 0 most) (l.take i)) :: R) w ∧ i ≤ 60 ∧ (runW (max 0 most) (l.take i)).1.length ≤ sumT (l.take i) + 10 * i) (fun i => 60 - i) 0 ?_ ?_
      · exact ⟨((((hf.k0.kb hf 7 rfl (by rfl)).kb hf 6 rfl (by rfl)).kb hf 5 rfl (by rfl)).kb hf 1 rfl (by rfl)), hS.sub (by repeat (first | exact Sub.refl | exact Sub.none | exact Sub.behind | (apply Sub.cons; (focus ((repeat (first | exact Sel.head | apply Sel.tail)); done))) | apply Sub.skip)), ⟨by omega, by simp [runW]⟩⟩
      · clear hf hS; rintro i a w ⟨hf, hS, ⟨hi, hlen⟩⟩
        have hst := sumT_take l i
        refine c_seq ?_
        refine c_seq ?_
        refine c_region ?_
        refine step_l (st_rd hf (Wn.none rfl) (rd_move hf rfl rfl) hS rfl rfl ?_)
        clear hf; intro a hf
        refine step_l (st_rd hf (Wn.none rfl) (rd_move hf rfl rfl) hS rfl rfl ?_)
        clear hf; intro a hf
        refine step_l (st_rd hf (Wn.none rfl) (rd_len hf rfl rfl Try.underlying37) hS rfl rfl ?_)
        clear hf; intro a hf
        refine step_l (st_rdB hf (Wn.none rfl) (rd_lss hf rfl rfl rfl) hS rfl rfl ?_ ?_)
        · clear hf; intro hc3 a hf
          first
          | (first | exact absurd rfl hc3; done)
          | (
            refine step_l (st_rd hf (Wn.none rfl) (rd_move hf rfl rfl) hS rfl rfl ?_)
            clear hf; intro a hf
            refine step_l (st_rd hf (Wn.some hf rfl rfl rfl rfl) (rd_move hf rfl rfl) hS rfl rfl ?_)
            clear hf; intro a hf
            refine step_l (st_rdB hf (Wn.some hf rfl rfl rfl rfl) (rd_lss hf rfl rfl rfl) hS rfl rfl ?_ ?_)
            · clear hf; intro hc4 a hf
              obtain ⟨x, hget⟩ := get_of_lt (l := l) (k := i) (by omega) rfl; have hxt : (txt x).length = x.2.2.2.2.1.2.2.length := rfl; have hx := hl x (List.mem_of_getElem? hget); obtain ⟨adl, rfl⟩ := (hvl _ (hS.sub (by repeat (first | exact Sub.refl | exact Sub.none | exact Sub.behind | (apply Sub.cons; (focus ((repeat (first | exact Sel.head | apply Sel.tail)); done))) | apply Sub.skip)))).some (by omega); have htk := take_succ_get hget; have hxl := hx.len; have hel := encC_le hx.num hx.int (by omega)
              have hsx := sumT_take l (i + 1); rw [htk, sumT_append] at hsx; simp only [sumT] at hsx
              first
              | (first | exact absurd rfl hc4; done)
              | (
                refine step_l (st_rd hf (Wn.none rfl) (rd_pick_t hf rfl rfl rfl) hS rfl rfl ?_)
                clear hf; intro a hf
                refine done_l ?_
                refine t_normal ?_
                refine c_true hf rfl ?_
                refine c_skip ?_
                refine t_normal ?_
                refine c_seq ?_
                refine c_block ?_
                refine c_region ?_
                refine step_l (st_rd hf (Wn.none rfl) (rd_move hf rfl rfl) hS rfl rfl ?_)
                clear hf; intro a hf
                refine step_l (st_rd hf (Wn.none rfl) (rd_move hf rfl rfl) hS rfl rfl ?_)
                clear hf; intro a hf
                refine step_l (st_rd hf (Wn.none rfl) (rd_move hf rfl rfl) hS rfl rfl ?_)
                clear hf; intro a hf
                refine step_l (st_rd hf (Wn.none rfl) (rd_move hf rfl rfl) hS rfl rfl ?_)
                clear hf; intro a hf
                refine step_l (st_rd hf (Wn.none rfl) ((by first | exact rd_indexAddrN hf rfl rfl rfl Try.underlying37 sz43 (by omega) | exact rd_indexAddr hf rfl rfl rfl Try.underlying37 sz43 (by first | decide | omega) (by omega))) hS rfl rfl ?_)
                clear hf; intro a hf
                refine step_l (st_rd hf (Wn.none rfl) (rd_loadN hf rfl rfl ag43 sz43 (by intro _ h; exact (hvl _ (h.sub (by repeat (first | exact Sub.refl | exact Sub.none | exact Sub.behind | (apply Sub.cons; (focus ((repeat (first | exact Sel.head | apply Sel.tail)); done))) | apply Sub.skip)))).elem callC_len hget)) hS rfl rfl ?_)
                clear hf; intro a hf
                refine step_l (st_call hf (Wn.none rfl) rfl rfl rfl fn19 (write_c _ _ _ _ x (hS.sels (.cons (by repeat (first | exact Sel.head | apply Sel.tail)) (.cons (by repeat (first | exact Sel.head | apply Sel.tail)) .nil))) (by first | assumption | exact ⟨by omega, by omega⟩) (by first | assumption | exact .inl (by omega) | exact .inr (by omega)) ((hl x (List.mem_of_getElem? hget)).sub (fun _ h => h.sub (by repeat (first | exact Sub.refl | exact Sub.none | exact Sub.behind | (apply Sub.cons; (focus ((repeat (first | exact Sel.head | apply Sel.tail)); done))) | apply Sub.skip))))) rfl rfl ?_)
                clear hf hS; rintro v a w ⟨rfl, hS⟩ hf
                refine done_l ?_
                refine b_normal ?_
                refine t_normal ?_
                refine c_region ?_
                refine step_l (st_rd hf (Wn.none rfl) (rd_move hf rfl rfl) hS rfl rfl ?_)
                clear hf; intro a hf
                refine step_l (st_rd hf (Wn.none rfl) (rd_add hf rfl rfl rfl (by first | exact Go.IntWalk.i64_in _ (by omega) | exact rfl)) hS rfl rfl ?_)
                clear hf; intro a hf
                refine step_l (st_rd hf (Wn.none rfl) (rd_assign hf rfl rfl) hS rfl rfl ?_)
                clear hf; intro a hf
                refine done_l ?_
                refine t_normal ⟨i + 1, ⟨((((hf.k0.kb hf 7 rfl (by first | rfl | exact int_eq (by omega))).kb hf 6 rfl (by rfl)).kb hf 5 rfl (by rfl)).kb hf 1 rfl (by rfl)), (by rw [htk, runW_snoc]; exact hS.sub (by repeat (first | exact Sub.refl | exact Sub.none | exact Sub.behind | (apply Sub.cons; (focus ((repeat (first | exact Sel.head | apply Sel.tail)); done))) | apply Sub.skip))), ⟨by omega, by rw [htk, runW_snoc, sumT_append]; have := wput_lenN (max 0 most) (runW (max 0 most) (l.take i)) (encC x); simp only [sumT]; omega⟩⟩, by first | omega | (simp only []; omega)⟩
                )
            · clear hf; intro hc4 a hf
              obtain ⟨t, ht⟩ : ∃ t, t = runW (max 0 most) (l.take i) := ⟨_, rfl⟩
              rw [← ht] at hS hlen
              obtain ⟨tb, tl⟩ := t
              (try dsimp only at hlen)
              first
              | (first | exact absurd rfl hc4; done)
              | (
                refine step_l (st_rd hf (Wn.none rfl) (rd_pick_t hf rfl rfl rfl) hS rfl rfl ?_)
                clear hf; intro a hf
                refine done_l ?_
                refine t_normal ?_
                refine c_false hf rfl ?_
                refine c_exit ?_
                refine t_exit ?_
                refine t_exit ?_
                refine b_exit ?_
                refine t_normal ?_
                refine c_seq ?_
                refine c_region ?_
                refine step_l (st_rd hf (Wn.none rfl) (rd_move hf rfl rfl) hS rfl rfl ?_)
                clear hf; intro a hf
                refine step_l (st_call hf (Wn.none rfl) rfl rfl rfl fn16 (Done_c _ _ _ (hS.sel (by repeat (first | exact Sel.head | apply Sel.tail))) (by dsimp only; omega)) rfl rfl ?_)
                clear hf hS; rintro v a w ⟨qd, capd, rfl, hS⟩ hf; obtain ⟨q2, cap2, hS⟩ := wr_open (T := 40) (hS.sel (by repeat (first | exact Sel.head | apply Sel.tail))); (try dsimp only at hS)
                refine step_l (st_rd hf (Wn.none rfl) (rd_move hf rfl rfl) hS rfl rfl ?_)
                clear hf; intro a hf
                refine step_l (st_rd hf (Wn.none rfl) (rd_extract hf rfl rfl rfl) hS rfl rfl ?_)
                clear hf; intro a hf
                refine step_l (st_rd hf (Wn.none rfl) (rd_extract hf rfl rfl rfl) hS rfl rfl ?_)
                clear hf; intro a hf
                refine step_l (st_rd hf (Wn.none rfl) (rd_assign hf rfl rfl) hS rfl rfl ?_)
                clear hf; intro a hf
                refine step_l (st_rd hf (Wn.none rfl) (rd_assign hf rfl rfl) hS rfl rfl ?_)
                clear hf; intro a hf
                refine done_l ?_
                refine t_normal ?_
                refine c_seq ?_
                refine c_seq ?_
                refine c_region ?_
                refine step_l (st_rd hf (Wn.none rfl) (rd_move hf rfl rfl) hS rfl rfl ?_)
                clear hf; intro a hf
                refine step_l (st_rd hf (Wn.none rfl) (rd_nilCheck hf rfl rfl) hS rfl rfl ?_)
                clear hf; intro a hf
                refine step_l (st_rd hf (Wn.none rfl) (rd_fieldAddrB hf rfl rfl fb40_2 rfl) hS rfl rfl ?_)
                clear hf; intro a hf
                refine step_l (st_rdb hf (Wn.none rfl) (rd_load1 hf rfl rfl ag4 (by intro _ h; first | exact h.cell (by repeat (first | exact Sel.head | apply Sel.tail)) (by rfl))) hS rfl rfl ?_ ?_)
                · clear hf; intro hc5 a hf
                  subst hc5
                  first
                  | (first | exact absurd rfl hc5; done)
                  | (
                    refine done_l ?_
                    refine t_normal ?_
                    refine c_true hf rfl ?_
                    refine c_seq ?_
                    refine c_region ?_
                    refine step_l (st_rd hf (Wn.none rfl) (rd_move hf rfl rfl) hS rfl rfl ?_)
                    clear hf; intro a hf
                    refine step_l (st_rdB hf (Wn.none rfl) (rd_eql hf rfl rfl rfl) hS rfl rfl ?_ ?_)
                    · clear hf; intro hc6 a hf
                      first
                      | (first | exact absurd rfl hc6; done)
                      | (
                        refine step_l (st_rd hf (Wn.none rfl) (rd_move hf rfl rfl) hS rfl rfl ?_)
                        clear hf; intro a hf
                        refine step_l (st_rd hf (Wn.some hf rfl rfl rfl rfl) (rd_move hf rfl rfl) hS rfl rfl ?_)
                        clear hf; intro a hf
                        refine step_l (st_rd hf (Wn.some hf rfl rfl rfl rfl) (rd_len hf rfl rfl Try.underlying29) hS rfl rfl ?_)
                        clear hf; intro a hf
                        refine step_l (st_rdB hf (Wn.some hf rfl rfl rfl rfl) (rd_eql hf rfl rfl rfl) hS rfl rfl ?_ ?_)
                        · clear hf; intro hc7 a hf
                          first
                          | (first | exact absurd rfl hc7; done)
                          | (
                            refine step_l (st_rd hf (Wn.none rfl) (rd_pick_t hf rfl rfl rfl) hS rfl rfl ?_)
                            clear hf; intro a hf
                            refine step_l (st_rd hf (Wn.none rfl) (rd_move hf rfl rfl) hS rfl rfl ?_)
                            clear hf; intro a hf
                            refine step_l (st_call hf (Wn.some hf rfl rfl rfl rfl) rfl rfl rfl fn17 (awake_c hS) rfl rfl ?_)
                            clear hf hS; rintro v a w ⟨rfl, hS⟩ hf
                            refine step_l (st_rd hf (Wn.none rfl) (rd_pick_t hf rfl rfl rfl) hS rfl rfl ?_)
                            clear hf; intro a hf
                            refine step_l (st_rd hf (Wn.none rfl) (rd_assign hf rfl rfl) hS rfl rfl ?_)
                            clear hf; intro a hf
                            refine done_l ?_
                            refine t_normal ?_
                            refine c_ret ?_
                            refine t_ret ?_
                            refine e_res1 hf.defers rfl (res_tmp hf rfl .nil) ?_
                            exact ⟨rfl, hS.sub (by repeat (first | exact Sub.refl | exact Sub.none | exact Sub.behind | (apply Sub.cons; (focus ((repeat (first | exact Sel.head | apply Sel.tail)); done))) | apply Sub.skip))⟩
                            )
                        · clear hf; intro hc7 a hf
                          first
                          | (first | exact absurd rfl hc7; done)
                          | (
                            refine step_l (st_rd hf (Wn.none rfl) (rd_pick_t hf rfl rfl rfl) hS rfl rfl ?_)
                            clear hf; intro a hf
                            refine step_l (st_rd hf (Wn.none rfl) (rd_move hf rfl rfl) hS rfl rfl ?_)
                            clear hf; intro a hf
                            refine step_l (st_skip hf (Wn.some hf rfl rfl rfl rfl) rfl rfl ?_)
                            clear hf; intro a hf
                            refine step_l (st_rd hf (Wn.none rfl) (rd_pick_f hf rfl rfl rfl) hS rfl rfl ?_)
                            clear hf; intro a hf
                            refine step_l (st_rd hf (Wn.none rfl) (rd_assign hf rfl rfl) hS rfl rfl ?_)
                            clear hf; intro a hf
                            refine done_l ?_
                            refine t_normal ?_
                            refine c_ret ?_
                            refine t_ret ?_
                            refine e_res1 hf.defers rfl (res_tmp hf rfl .nil) ?_
                            exact ⟨rfl, hS.sub (by repeat (first | exact Sub.refl | exact Sub.none | exact Sub.behind | (apply Sub.cons; (focus ((repeat (first | exact Sel.head | apply Sel.tail)); done))) | apply Sub.skip))⟩
                            )
                        )
                    · clear hf; intro hc6 a hf
                      first
                      | (first | exact absurd rfl hc6; done)
                      | (
                        refine step_l (st_rd hf (Wn.none rfl) (rd_move hf rfl rfl) hS rfl rfl ?_)
                        clear hf; intro a hf
                        refine step_l (st_skip hf (Wn.some hf rfl rfl rfl rfl) rfl rfl ?_)
                        clear hf; intro a hf
                        refine step_l (st_skip hf (Wn.some hf rfl rfl rfl rfl) rfl rfl ?_)
                        clear hf; intro a hf
                        refine step_l (st_skip hf (Wn.some hf rfl rfl rfl rfl) rfl rfl ?_)
                        clear hf; intro a hf
                        refine step_l (st_rd hf (Wn.none rfl) (rd_pick_f hf rfl rfl rfl) hS rfl rfl ?_)
                        clear hf; intro a hf
                        refine step_l (st_rd hf (Wn.none rfl) (rd_move hf rfl rfl) hS rfl rfl ?_)
                        clear hf; intro a hf
                        refine step_l (st_skip hf (Wn.some hf rfl rfl rfl rfl) rfl rfl ?_)
                        clear hf; intro a hf
                        refine step_l (st_rd hf (Wn.none rfl) (rd_pick_f hf rfl rfl rfl) hS rfl rfl ?_)
                        clear hf; intro a hf
                        refine step_l (st_rd hf (Wn.none rfl) (rd_assign hf rfl rfl) hS rfl rfl ?_)
                        clear hf; intro a hf
                        refine done_l ?_
                        refine t_normal ?_
                        refine c_ret ?_
                        refine t_ret ?_
                        refine e_res1 hf.defers rfl (res_tmp hf rfl .nil) ?_
                        exact ⟨rfl, hS.sub (by repeat (first | exact Sub.refl | exact Sub.none | exact Sub.behind | (apply Sub.cons; (focus ((repeat (first | exact Sel.head | apply Sel.tail)); done))) | apply Sub.skip))⟩
                        )
                    )
                · clear hf; intro hc5 a hf
                  subst hc5
                  first
                  | (first | exact absurd rfl hc5; done)
                  | (
                    refine done_l ?_
                    refine t_normal ?_
                    refine c_false hf rfl ?_
                    refine c_skip ?_
                    refine t_normal ?_
                    refine c_seq ?_
                    refine any_begin (S := Sat W (Blk b_m [.slice q2 tb.length cap2, .int .i64 (max 0 most), .bool false] 40 :: Rw 5 1 q2 tb.length cap2 (bvs tb) :: Rw 5 1 qd (doneB (tb, false)).length capd (bvs (doneB (tb, false))) :: R)) mixed (hS.drew.sub (by repeat (first | exact Sub.refl | exact Sub.none | exact Sub.behind | (apply Sub.cons; (focus ((repeat (first | exact Sel.head | apply Sel.tail)); done))) | apply Sub.skip))) ?_
                    have hT : Sat W (Blk b_m [.slice q2 tb.length cap2, .int .i64 (max 0 most), .bool false] 40 :: Rw 5 1 q2 tb.length cap2 (bvs tb) :: Rw 5 1 qd (doneB (tb, false)).length capd (bvs (doneB (tb, false))) :: R) _ := hS.drew.sub (by repeat (first | exact Sub.refl | exact Sub.none | exact Sub.behind | (apply Sub.cons; (focus ((repeat (first | exact Sel.head | apply Sel.tail)); done))) | apply Sub.skip))
                    replace hS := hS.drew
                    refine any_take (i := 0) hf rfl (by kernel_rfl) (by kernel_rfl) (by kernel_rfl) (fun _ _ _ h => h) (Wn.none rfl) (rd_move hf rfl rfl) hT rfl rfl ?_
                    clear hf; intro a hf
                    refine any_takeB (i := 1) hf rfl (by kernel_rfl) (by kernel_rfl) (by kernel_rfl) (fun _ _ _ _ h => h) (Wn.none rfl) (rd_eql hf rfl rfl rfl) hT rfl rfl ?_ ?_
                    · clear hf; intro hc8 a hf
                      first
                      | (first | exact absurd rfl hc8; done)
                      | (
                        refine any_take (i := 2) hf rfl (by kernel_rfl) (by kernel_rfl) (by kernel_rfl) (fun _ _ _ h => h) (Wn.none rfl) (rd_move hf rfl rfl) hT rfl rfl ?_
                        clear hf; intro a hf
                        refine any_take (i := 3) hf rfl (by kernel_rfl) (by kernel_rfl) (by kernel_rfl) (fun _ _ _ h => h) (Wn.some hf rfl rfl rfl rfl) (rd_move hf rfl rfl) hT rfl rfl ?_
                        clear hf; intro a hf
                        refine any_take (i := 4) hf rfl (by kernel_rfl) (by kernel_rfl) (by kernel_rfl) (fun _ _ _ h => h) (Wn.some hf rfl rfl rfl rfl) (rd_str hf rfl rfl Try.underlying29 Try.underlying9 Try.underlying5 (by intro _ h; first | exact h.slOfRw (by repeat (first | exact Sel.head | apply Sel.tail)) | exact h.slOfBlkPre (by repeat (first | exact Sel.head | apply Sel.tail)) (bvs_len1 _))) hT rfl rfl ?_
                        clear hf; intro a hf
                        refine any_take (i := 5) hf rfl (by kernel_rfl) (by kernel_rfl) (by kernel_rfl) (fun _ _ _ h => h) (Wn.some hf rfl rfl rfl rfl) (rd_move hf rfl rfl) hT rfl rfl ?_
                        clear hf; intro a hf
                        refine any_take (i := 6) hf rfl (by kernel_rfl) (by kernel_rfl) (by kernel_rfl) (fun _ _ _ h => h) (Wn.some hf rfl rfl rfl rfl) (rd_nilCheck hf rfl rfl) hT rfl rfl ?_
                        clear hf; intro a hf
                        refine any_take (i := 7) hf rfl (by kernel_rfl) (by kernel_rfl) (by kernel_rfl) (fun _ _ _ h => h) (Wn.some hf rfl rfl rfl rfl) (rd_fieldAddrB hf rfl rfl fb40_0 rfl) hT rfl rfl ?_
                        clear hf; intro a hf
                        refine any_take (i := 8) hf rfl (by kernel_rfl) (by kernel_rfl) (by kernel_rfl) (fun _ _ _ h => h) (Wn.some hf rfl rfl rfl rfl) (rd_load1 hf rfl rfl ag29 (by intro _ h; first | exact h.cell (by repeat (first | exact Sel.head | apply Sel.tail)) (by rfl))) hT rfl rfl ?_
                        clear hf; intro a hf
                        refine any_take (i := 9) hf rfl (by kernel_rfl) (by kernel_rfl) (by kernel_rfl) (fun _ _ _ h => h) (Wn.some hf rfl rfl rfl rfl) (rd_str hf rfl rfl Try.underlying29 Try.underlying9 Try.underlying5 (by intro _ h; first | exact h.slOfRw (by repeat (first | exact Sel.head | apply Sel.tail)) | exact h.slOfBlkPre (by repeat (first | exact Sel.head | apply Sel.tail)) (bvs_len1 _))) hT rfl rfl ?_
                        clear hf; intro a hf
                        refine any_takeB (i := 10) hf rfl (by kernel_rfl) (by kernel_rfl) (by kernel_rfl) (fun _ _ _ _ h => h) (Wn.some hf rfl rfl rfl rfl) (rd_eqlS hf rfl rfl rfl) hT rfl rfl ?_ ?_
                        · clear hf; intro hc9 a hf
                          first
                          | (first | exact absurd rfl hc9; done)
                          | (
                            refine any_take (i := 11) hf rfl (by kernel_rfl) (by kernel_rfl) (by kernel_rfl) (fun _ _ _ h => h) (Wn.none rfl) (rd_pick_t hf rfl rfl rfl) hT rfl rfl ?_
                            clear hf; intro a hf
                            refine any_take (i := 12) hf rfl (by kernel_rfl) (by kernel_rfl) (by kernel_rfl) (fun _ _ _ h => h) (Wn.none rfl) (rd_move hf rfl rfl) hT rfl rfl ?_
                            clear hf; intro a hf
                            refine any_one (i := 13) rfl (by kernel_rfl) (st_call hf (Wn.some hf rfl rfl rfl rfl) rfl rfl rfl fn17 (awake_c hS) rfl rfl ?_)
                            clear hf hS; rintro v a w ⟨rfl, hS⟩ hf
                            replace hT := hS.sub' hT (by repeat (first | exact Sub.refl | exact Sub.none | exact Sub.behind | (apply Sub.cons; (focus ((repeat (first | exact Sel.head | apply Sel.tail)); done))) | apply Sub.skip))
                            refine ⟨hT, ?_⟩
                            refine any_take (i := 14) hf rfl (by kernel_rfl) (by kernel_rfl) (by kernel_rfl) (fun _ _ _ h => h) (Wn.none rfl) (rd_pick_t hf rfl rfl rfl) hT rfl rfl ?_
                            clear hf; intro a hf
                            refine any_take (i := 15) hf rfl (by kernel_rfl) (by kernel_rfl) (by kernel_rfl) (fun _ _ _ h => h) (Wn.none rfl) (rd_assign hf rfl rfl) hT rfl rfl ?_
                            clear hf; intro a hf
                            refine any_done (by kernel_rfl) ?_
                            refine t_normal ?_
                            refine c_ret ?_
                            refine e_res1 hf.defers rfl (res_tmp hf rfl .nil) ?_
                            exact ⟨rfl, hS.sub (by repeat (first | exact Sub.refl | exact Sub.none | exact Sub.behind | (apply Sub.cons; (focus ((repeat (first | exact Sel.head | apply Sel.tail)); done))) | apply Sub.skip))⟩
                            )
                        · clear hf; intro hc9 a hf
                          first
                          | (first | exact absurd rfl hc9; done)
                          | (
                            refine any_take (i := 11) hf rfl (by kernel_rfl) (by kernel_rfl) (by kernel_rfl) (fun _ _ _ h => h) (Wn.none rfl) (rd_pick_t hf rfl rfl rfl) hT rfl rfl ?_
                            clear hf; intro a hf
                            refine any_take (i := 12) hf rfl (by kernel_rfl) (by kernel_rfl) (by kernel_rfl) (fun _ _ _ h => h) (Wn.none rfl) (rd_move hf rfl rfl) hT rfl rfl ?_
                            clear hf; intro a hf
                            refine any_skip (i := 13) hf rfl (by kernel_rfl) (by kernel_rfl) (by kernel_rfl) (fun _ _ _ h => h) (Wn.some hf rfl rfl rfl rfl) hT rfl rfl ?_
                            clear hf; intro a hf
                            refine any_take (i := 14) hf rfl (by kernel_rfl) (by kernel_rfl) (by kernel_rfl) (fun _ _ _ h => h) (Wn.none rfl) (rd_pick_f hf rfl rfl rfl) hT rfl rfl ?_
                            clear hf; intro a hf
                            refine any_take (i := 15) hf rfl (by kernel_rfl) (by kernel_rfl) (by kernel_rfl) (fun _ _ _ h => h) (Wn.none rfl) (rd_assign hf rfl rfl) hT rfl rfl ?_
                            clear hf; intro a hf
                            refine any_done (by kernel_rfl) ?_
                            refine t_normal ?_
                            refine c_ret ?_
                            refine e_res1 hf.defers rfl (res_tmp hf rfl .nil) ?_
                            exact ⟨rfl, hS.sub (by repeat (first | exact Sub.refl | exact Sub.none | exact Sub.behind | (apply Sub.cons; (focus ((repeat (first | exact Sel.head | apply Sel.tail)); done))) | apply Sub.skip))⟩
                            )
                        )
                    · clear hf; intro hc8 a hf
                      first
                      | (first | exact absurd rfl hc8; done)
                      | (
                        refine any_take (i := 2) hf rfl (by kernel_rfl) (by kernel_rfl) (by kernel_rfl) (fun _ _ _ h => h) (Wn.none rfl) (rd_move hf rfl rfl) hT rfl rfl ?_
                        clear hf; intro a hf
                        refine any_skip (i := 3) hf rfl (by kernel_rfl) (by kernel_rfl) (by kernel_rfl) (fun _ _ _ h => h) (Wn.some hf rfl rfl rfl rfl) hT rfl rfl ?_
                        clear hf; intro a hf
                        refine any_skip (i := 4) hf rfl (by kernel_rfl) (by kernel_rfl) (by kernel_rfl) (fun _ _ _ h => h) (Wn.some hf rfl rfl rfl rfl) hT rfl rfl ?_
                        clear hf; intro a hf
                        refine any_skip (i := 5) hf rfl (by kernel_rfl) (by kernel_rfl) (by kernel_rfl) (fun _ _ _ h => h) (Wn.some hf rfl rfl rfl rfl) hT rfl rfl ?_
                        clear hf; intro a hf
                        refine any_skip (i := 6) hf rfl (by kernel_rfl) (by kernel_rfl) (by kernel_rfl) (fun _ _ _ h => h) (Wn.some hf rfl rfl rfl rfl) hT rfl rfl ?_
                        clear hf; intro a hf
                        refine any_skip (i := 7) hf rfl (by kernel_rfl) (by kernel_rfl) (by kernel_rfl) (fun _ _ _ h => h) (Wn.some hf rfl rfl rfl rfl) hT rfl rfl ?_
                        clear hf; intro a hf
                        refine any_skip (i := 8) hf rfl (by kernel_rfl) (by kernel_rfl) (by kernel_rfl) (fun _ _ _ h => h) (Wn.some hf rfl rfl rfl rfl) hT rfl rfl ?_
                        clear hf; intro a hf
                        refine any_skip (i := 9) hf rfl (by kernel_rfl) (by kernel_rfl) (by kernel_rfl) (fun _ _ _ h => h) (Wn.some hf rfl rfl rfl rfl) hT rfl rfl ?_
                        clear hf; intro a hf
                        refine any_skip (i := 10) hf rfl (by kernel_rfl) (by kernel_rfl) (by kernel_rfl) (fun _ _ _ h => h) (Wn.some hf rfl rfl rfl rfl) hT rfl rfl ?_
                        clear hf; intro a hf
                        refine any_take (i := 11) hf rfl (by kernel_rfl) (by kernel_rfl) (by kernel_rfl) (fun _ _ _ h => h) (Wn.none rfl) (rd_pick_f hf rfl rfl rfl) hT rfl rfl ?_
                        clear hf; intro a hf
                        refine any_take (i := 12) hf rfl (by kernel_rfl) (by kernel_rfl) (by kernel_rfl) (fun _ _ _ h => h) (Wn.none rfl) (rd_move hf rfl rfl) hT rfl rfl ?_
                        clear hf; intro a hf
                        refine any_skip (i := 13) hf rfl (by kernel_rfl) (by kernel_rfl) (by kernel_rfl) (fun _ _ _ h => h) (Wn.some hf rfl rfl rfl rfl) hT rfl rfl ?_
                        clear hf; intro a hf
                        refine any_take (i := 14) hf rfl (by kernel_rfl) (by kernel_rfl) (by kernel_rfl) (fun _ _ _ h => h) (Wn.none rfl) (rd_pick_f hf rfl rfl rfl) hT rfl rfl ?_
                        clear hf; intro a hf
                        refine any_take (i := 15) hf rfl (by kernel_rfl) (by kernel_rfl) (by kernel_rfl) (fun _ _ _ h => h) (Wn.none rfl) (rd_assign hf rfl rfl) hT rfl rfl ?_
                        clear hf; intro a hf
                        refine any_done (by kernel_rfl) ?_
                        refine t_normal ?_
                        refine c_ret ?_
                        refine e_res1 hf.defers rfl (res_tmp hf rfl .nil) ?_
                        exact ⟨rfl, hS.sub (by repeat (first | exact Sub.refl | exact Sub.none | exact Sub.behind | (apply Sub.cons; (focus ((repeat (first | exact Sel.head | apply Sel.tail)); done))) | apply Sub.skip))⟩
                        )
                    )
                )
            )
        · clear hf; intro hc3 a hf
          obtain ⟨t, ht⟩ : ∃ t, t = runW (max 0 most) (l.take i) := ⟨_, rfl⟩
          rw [← ht] at hS hlen
          obtain ⟨tb, tl⟩ := t
          (try dsimp only at hlen)
          first
          | (first | exact absurd rfl hc3; done)
          | (
            refine step_l (st_rd hf (Wn.none rfl) (rd_move hf rfl rfl) hS rfl rfl ?_)
            clear hf; intro a hf
            refine step_l (st_skip hf (Wn.some hf rfl rfl rfl rfl) rfl rfl ?_)
            clear hf; intro a hf
            refine step_l (st_skip hf (Wn.some hf rfl rfl rfl rfl) rfl rfl ?_)
            clear hf; intro a hf
            refine step_l (st_rd hf (Wn.none rfl) (rd_pick_f hf rfl rfl rfl) hS rfl rfl ?_)
            clear hf; intro a hf
            refine done_l ?_
            refine t_normal ?_
            refine c_false hf rfl ?_
            refine c_exit ?_
            refine t_exit ?_
            refine t_exit ?_
            refine b_exit ?_
            refine t_normal ?_
            refine c_seq ?_
            refine c_region ?_
            refine step_l (st_rd hf (Wn.none rfl) (rd_move hf rfl rfl) hS rfl rfl ?_)
            clear hf; intro a hf
            refine step_l (st_call hf (Wn.none rfl) rfl rfl rfl fn16 (Done_c _ _ _ (hS.sel (by repeat (first | exact Sel.head | apply Sel.tail))) (by dsimp only; omega)) rfl rfl ?_)
            clear hf hS; rintro v a w ⟨qd, capd, rfl, hS⟩ hf; obtain ⟨q2, cap2, hS⟩ := wr_open (T := 40) (hS.sel (by repeat (first | exact Sel.head | apply Sel.tail))); (try dsimp only at hS)
            refine step_l (st_rd hf (Wn.none rfl) (rd_move hf rfl rfl) hS rfl rfl ?_)
            clear hf; intro a hf
            refine step_l (st_rd hf (Wn.none rfl) (rd_extract hf rfl rfl rfl) hS rfl rfl ?_)
            clear hf; intro a hf
            refine step_l (st_rd hf (Wn.none rfl) (rd_extract hf rfl rfl rfl) hS rfl rfl ?_)
            clear hf; intro a hf
            refine step_l (st_rd hf (Wn.none rfl) (rd_assign hf rfl rfl) hS rfl rfl ?_)
            clear hf; intro a hf
            refine step_l (st_rd hf (Wn.none rfl) (rd_assign hf rfl rfl) hS rfl rfl ?_)
            clear hf; intro a hf
            refine done_l ?_
            refine t_normal ?_
            refine c_seq ?_
            refine c_seq ?_
            refine c_region ?_
            refine step_l (st_rd hf (Wn.none rfl) (rd_move hf rfl rfl) hS rfl rfl ?_)
            clear hf; intro a hf
            refine step_l (st_rd hf (Wn.none rfl) (rd_nilCheck hf rfl rfl) hS rfl rfl ?_)
            clear hf; intro a hf
            refine step_l (st_rd hf (Wn.none rfl) (rd_fieldAddrB hf rfl rfl fb40_2 rfl) hS rfl rfl ?_)
            clear hf; intro a hf
            refine step_l (st_rdb hf (Wn.none rfl) (rd_load1 hf rfl rfl ag4 (by intro _ h; first | exact h.cell (by repeat (first | exact Sel.head | apply Sel.tail)) (by rfl))) hS rfl rfl ?_ ?_)
            · clear hf; intro hc10 a hf
              subst hc10
              first
              | (first | exact absurd rfl hc10; done)
              | (
                refine done_l ?_
                refine t_normal ?_
                refine c_true hf rfl ?_
                refine c_seq ?_
                refine c_region ?_
                refine step_l (st_rd hf (Wn.none rfl) (rd_move hf rfl rfl) hS rfl rfl ?_)
                clear hf; intro a hf
                refine step_l (st_rdB hf (Wn.none rfl) (rd_eql hf rfl rfl rfl) hS rfl rfl ?_ ?_)
                · clear hf; intro hc11 a hf
                  first
                  | (first | exact absurd rfl hc11; done)
                  | (
                    refine step_l (st_rd hf (Wn.none rfl) (rd_move hf rfl rfl) hS rfl rfl ?_)
                    clear hf; intro a hf
                    refine step_l (st_rd hf (Wn.some hf rfl rfl rfl rfl) (rd_move hf rfl rfl) hS rfl rfl ?_)
                    clear hf; intro a hf
                    refine step_l (st_rd hf (Wn.some hf rfl rfl rfl rfl) (rd_len hf rfl rfl Try.underlying29) hS rfl rfl ?_)
                    clear hf; intro a hf
                    refine step_l (st_rdB hf (Wn.some hf rfl rfl rfl rfl) (rd_eql hf rfl rfl rfl) hS rfl rfl ?_ ?_)
                    · clear hf; intro hc12 a hf
                      first
                      | (first | exact absurd rfl hc12; done)
                      | (
                        refine step_l (st_rd hf (Wn.none rfl) (rd_pick_t hf rfl rfl rfl) hS rfl rfl ?_)
                        clear hf; intro a hf
                        refine step_l (st_rd hf (Wn.none rfl) (rd_move hf rfl rfl) hS rfl rfl ?_)
                        clear hf; intro a hf
                        refine step_l (st_call hf (Wn.some hf rfl rfl rfl rfl) rfl rfl rfl fn17 (awake_c hS) rfl rfl ?_)
                        clear hf hS; rintro v a w ⟨rfl, hS⟩ hf
                        refine step_l (st_rd hf (Wn.none rfl) (rd_pick_t hf rfl rfl rfl) hS rfl rfl ?_)
                        clear hf; intro a hf
                        refine step_l (st_rd hf (Wn.none rfl) (rd_assign hf rfl rfl) hS rfl rfl ?_)
                        clear hf; intro a hf
                        refine done_l ?_
                        refine t_normal ?_
                        refine c_ret ?_
                        refine t_ret ?_
                        refine e_res1 hf.defers rfl (res_tmp hf rfl .nil) ?_
                        exact ⟨rfl, hS.sub (by repeat (first | exact Sub.refl | exact Sub.none | exact Sub.behind | (apply Sub.cons; (focus ((repeat (first | exact Sel.head | apply Sel.tail)); done))) | apply Sub.skip))⟩
                        )
                    · clear hf; intro hc12 a hf
                      first
                      | (first | exact absurd rfl hc12; done)
                      | (
                        refine step_l (st_rd hf (Wn.none rfl) (rd_pick_t hf rfl rfl rfl) hS rfl rfl ?_)
                        clear hf; intro a hf
                        refine step_l (st_rd hf (Wn.none rfl) (rd_move hf rfl rfl) hS rfl rfl ?_)
                        clear hf; intro a hf
                        refine step_l (st_skip hf (Wn.some hf rfl rfl rfl rfl) rfl rfl ?_)
                        clear hf; intro a hf
                        refine step_l (st_rd hf (Wn.none rfl) (rd_pick_f hf rfl rfl rfl) hS rfl rfl ?_)
                        clear hf; intro a hf
                        refine step_l (st_rd hf (Wn.none rfl) (rd_assign hf rfl rfl) hS rfl rfl ?_)
                        clear hf; intro a hf
                        refine done_l ?_
                        refine t_normal ?_
                        refine c_ret ?_
                        refine t_ret ?_
                        refine e_res1 hf.defers rfl (res_tmp hf rfl .nil) ?_
                        exact ⟨rfl, hS.sub (by repeat (first | exact Sub.refl | exact Sub.none | exact Sub.behind | (apply Sub.cons; (focus ((repeat (first | exact Sel.head | apply Sel.tail)); done))) | apply Sub.skip))⟩
                        )
                    )
                · clear hf; intro hc11 a hf
                  first
                  | (first | exact absurd rfl hc11; done)
                  | (
                    refine step_l (st_rd hf (Wn.none rfl) (rd_move hf rfl rfl) hS rfl rfl ?_)
                    clear hf; intro a hf
                    refine step_l (st_skip hf (Wn.some hf rfl rfl rfl rfl) rfl rfl ?_)
                    clear hf; intro a hf
                    refine step_l (st_skip hf (Wn.some hf rfl rfl rfl rfl) rfl rfl ?_)
                    clear hf; intro a hf
                    refine step_l (st_skip hf (Wn.some hf rfl rfl rfl rfl) rfl rfl ?_)
                    clear hf; intro a hf
                    refine step_l (st_rd hf (Wn.none rfl) (rd_pick_f hf rfl rfl rfl) hS rfl rfl ?_)
                    clear hf; intro a hf
                    refine step_l (st_rd hf (Wn.none rfl) (rd_move hf rfl rfl) hS rfl rfl ?_)
                    clear hf; intro a hf
                    refine step_l (st_skip hf (Wn.some hf rfl rfl rfl rfl) rfl rfl ?_)
                    clear hf; intro a hf
                    refine step_l (st_rd hf (Wn.none rfl) (rd_pick_f hf rfl rfl rfl) hS rfl rfl ?_)
                    clear hf; intro a hf
                    refine step_l (st_rd hf (Wn.none rfl) (rd_assign hf rfl rfl) hS rfl rfl ?_)
                    clear hf; intro a hf
                    refine done_l ?_
                    refine t_normal ?_
                    refine c_ret ?_
                    refine t_ret ?_
                    refine e_res1 hf.defers rfl (res_tmp hf rfl .nil) ?_
                    exact ⟨rfl, hS.sub (by repeat (first | exact Sub.refl | exact Sub.none | exact Sub.behind | (apply Sub.cons; (focus ((repeat (first | exact Sel.head | apply Sel.tail)); done))) | apply Sub.skip))⟩
                    )
                )
            · clear hf; intro hc10 a hf
              subst hc10
              first
              | (first | exact absurd rfl hc10; done)
              | (
                refine done_l ?_
                refine t_normal ?_
                refine c_false hf rfl ?_
                refine c_skip ?_
                refine t_normal ?_
                refine c_seq ?_
                refine any_begin (S := Sat W (Blk b_m [.slice q2 tb.length cap2, .int .i64 (max 0 most), .bool false] 40 :: Rw 5 1 q2 tb.length cap2 (bvs tb) :: Rw 5 1 qd (doneB (tb, false)).length capd (bvs (doneB (tb, false))) :: R)) mixed (hS.drew.sub (by repeat (first | exact Sub.refl | exact Sub.none | exact Sub.behind | (apply Sub.cons; (focus ((repeat (first | exact Sel.head | apply Sel.tail)); done))) | apply Sub.skip))) ?_
                have hT : Sat W (Blk b_m [.slice q2 tb.length cap2, .int .i64 (max 0 most), .bool false] 40 :: Rw 5 1 q2 tb.length cap2 (bvs tb) :: Rw 5 1 qd (doneB (tb, false)).length capd (bvs (doneB (tb, false))) :: R) _ := hS.drew.sub (by repeat (first | exact Sub.refl | exact Sub.none | exact Sub.behind | (apply Sub.cons; (focus ((repeat (first | exact Sel.head | apply Sel.tail)); done))) | apply Sub.skip))
                replace hS := hS.drew
                refine any_take (i := 0) hf rfl (by kernel_rfl) (by kernel_rfl) (by kernel_rfl) (fun _ _ _ h => h) (Wn.none rfl) (rd_move hf rfl rfl) hT rfl rfl ?_
                clear hf; intro a hf
                refine any_takeB (i := 1) hf rfl (by kernel_rfl) (by kernel_rfl) (by kernel_rfl) (fun _ _ _ _ h => h) (Wn.none rfl) (rd_eql hf rfl rfl rfl) hT rfl rfl ?_ ?_
                · clear hf; intro hc13 a hf
                  first
                  | (first | exact absurd rfl hc13; done)
                  | (
                    refine any_take (i := 2) hf rfl (by kernel_rfl) (by kernel_rfl) (by kernel_rfl) (fun _ _ _ h => h) (Wn.none rfl) (rd_move hf rfl rfl) hT rfl rfl ?_
                    clear hf; intro a hf
                    refine any_take (i := 3) hf rfl (by kernel_rfl) (by kernel_rfl) (by kernel_rfl) (fun _ _ _ h => h) (Wn.some hf rfl rfl rfl rfl) (rd_move hf rfl rfl) hT rfl rfl ?_
                    clear hf; intro a hf
                    refine any_take (i := 4) hf rfl (by kernel_rfl) (by kernel_rfl) (by kernel_rfl) (fun _ _ _ h => h) (Wn.some hf rfl rfl rfl rfl) (rd_str hf rfl rfl Try.underlying29 Try.underlying9 Try.underlying5 (by intro _ h; first | exact h.slOfRw (by repeat (first | exact Sel.head | apply Sel.tail)) | exact h.slOfBlkPre (by repeat (first | exact Sel.head | apply Sel.tail)) (bvs_len1 _))) hT rfl rfl ?_
                    clear hf; intro a hf
                    refine any_take (i := 5) hf rfl (by kernel_rfl) (by kernel_rfl) (by kernel_rfl) (fun _ _ _ h => h) (Wn.some hf rfl rfl rfl rfl) (rd_move hf rfl rfl) hT rfl rfl ?_
                    clear hf; intro a hf
                    refine any_take (i := 6) hf rfl (by kernel_rfl) (by kernel_rfl) (by kernel_rfl) (fun _ _ _ h => h) (Wn.some hf rfl rfl rfl rfl) (rd_nilCheck hf rfl rfl) hT rfl rfl ?_
                    clear hf; intro a hf
                    refine any_take (i := 7) hf rfl (by kernel_rfl) (by kernel_rfl) (by kernel_rfl) (fun _ _ _ h => h) (Wn.some hf rfl rfl rfl rfl) (rd_fieldAddrB hf rfl rfl fb40_0 rfl) hT rfl rfl ?_
                    clear hf; intro a hf
                    refine any_take (i := 8) hf rfl (by kernel_rfl) (by kernel_rfl) (by kernel_rfl) (fun _ _ _ h => h) (Wn.some hf rfl rfl rfl rfl) (rd_load1 hf rfl rfl ag29 (by intro _ h; first | exact h.cell (by repeat (first | exact Sel.head | apply Sel.tail)) (by rfl))) hT rfl rfl ?_
                    clear hf; intro a hf
                    refine any_take (i := 9) hf rfl (by kernel_rfl) (by kernel_rfl) (by kernel_rfl) (fun _ _ _ h => h) (Wn.some hf rfl rfl rfl rfl) (rd_str hf rfl rfl Try.underlying29 Try.underlying9 Try.underlying5 (by intro _ h; first | exact h.slOfRw (by repeat (first | exact Sel.head | apply Sel.tail)) | exact h.slOfBlkPre (by repeat (first | exact Sel.head | apply Sel.tail)) (bvs_len1 _))) hT rfl rfl ?_
                    clear hf; intro a hf
                    refine any_takeB (i := 10) hf rfl (by kernel_rfl) (by kernel_rfl) (by kernel_rfl) (fun _ _ _ _ h => h) (Wn.some hf rfl rfl rfl rfl) (rd_eqlS hf rfl rfl rfl) hT rfl rfl ?_ ?_
                    · clear hf; intro hc14 a hf
                      first
                      | (first | exact absurd rfl hc14; done)
                      | (
                        refine any_take (i := 11) hf rfl (by kernel_rfl) (by kernel_rfl) (by kernel_rfl) (fun _ _ _ h => h) (Wn.none rfl) (rd_pick_t hf rfl rfl rfl) hT rfl rfl ?_
                        clear hf; intro a hf
                        refine any_take (i := 12) hf rfl (by kernel_rfl) (by kernel_rfl) (by kernel_rfl) (fun _ _ _ h => h) (Wn.none rfl) (rd_move hf rfl rfl) hT rfl rfl ?_
                        clear hf; intro a hf
                        refine any_one (i := 13) rfl (by kernel_rfl) (st_call hf (Wn.some hf rfl rfl rfl rfl) rfl rfl rfl fn17 (awake_c hS) rfl rfl ?_)
                        clear hf hS; rintro v a w ⟨rfl, hS⟩ hf
                        replace hT := hS.sub' hT (by repeat (first | exact Sub.refl | exact Sub.none | exact Sub.behind | (apply Sub.cons; (focus ((repeat (first | exact Sel.head | apply Sel.tail)); done))) | apply Sub.skip))
                        refine ⟨hT, ?_⟩
                        refine any_take (i := 14) hf rfl (by kernel_rfl) (by kernel_rfl) (by kernel_rfl) (fun _ _ _ h => h) (Wn.none rfl) (rd_pick_t hf rfl rfl rfl) hT rfl rfl ?_
                        clear hf; intro a hf
                        refine any_take (i := 15) hf rfl (by kernel_rfl) (by kernel_rfl) (by kernel_rfl) (fun _ _ _ h => h) (Wn.none rfl) (rd_assign hf rfl rfl) hT rfl rfl ?_
                        clear hf; intro a hf
                        refine any_done (by kernel_rfl) ?_
                        refine t_normal ?_
                        refine c_ret ?_
                        refine e_res1 hf.defers rfl (res_tmp hf rfl .nil) ?_
                        exact ⟨rfl, hS.sub (by repeat (first | exact Sub.refl | exact Sub.none | exact Sub.behind | (apply Sub.cons; (focus ((repeat (first | exact Sel.head | apply Sel.tail)); done))) | apply Sub.skip))⟩
                        )
                    · clear hf; intro hc14 a hf
                      first
                      | (first | exact absurd rfl hc14; done)
                      | (
                        refine any_take (i := 11) hf rfl (by kernel_rfl) (by kernel_rfl) (by kernel_rfl) (fun _ _ _ h => h) (Wn.none rfl) (rd_pick_t hf rfl rfl rfl) hT rfl rfl ?_
                        clear hf; intro a hf
                        refine any_take (i := 12) hf rfl (by kernel_rfl) (by kernel_rfl) (by kernel_rfl) (fun _ _ _ h => h) (Wn.none rfl) (rd_move hf rfl rfl) hT rfl rfl ?_
                        clear hf; intro a hf
                        refine any_skip (i := 13) hf rfl (by kernel_rfl) (by kernel_rfl) (by kernel_rfl) (fun _ _ _ h => h) (Wn.some hf rfl rfl rfl rfl) hT rfl rfl ?_
                        clear hf; intro a hf
                        refine any_take (i := 14) hf rfl (by kernel_rfl) (by kernel_rfl) (by kernel_rfl) (fun _ _ _ h => h) (Wn.none rfl) (rd_pick_f hf rfl rfl rfl) hT rfl rfl ?_
                        clear hf; intro a hf
                        refine any_take (i := 15) hf rfl (by kernel_rfl) (by kernel_rfl) (by kernel_rfl) (fun _ _ _ h => h) (Wn.none rfl) (rd_assign hf rfl rfl) hT rfl rfl ?_
                        clear hf; intro a hf
                        refine any_done (by kernel_rfl) ?_
                        refine t_normal ?_
                        refine c_ret ?_
                        refine e_res1 hf.defers rfl (res_tmp hf rfl .nil) ?_
                        exact ⟨rfl, hS.sub (by repeat (first | exact Sub.refl | exact Sub.none | exact Sub.behind | (apply Sub.cons; (focus ((repeat (first | exact Sel.head | apply Sel.tail)); done))) | apply Sub.skip))⟩
                        )
                    )
                · clear hf; intro hc13 a hf
                  first
                  | (first | exact absurd rfl hc13; done)
                  | (
                    refine any_take (i := 2) hf rfl (by kernel_rfl) (by kernel_rfl) (by kernel_rfl) (fun _ _ _ h => h) (Wn.none rfl) (rd_move hf rfl rfl) hT rfl rfl ?_
                    clear hf; intro a hf
                    refine any_skip (i := 3) hf rfl (by kernel_rfl) (by kernel_rfl) (by kernel_rfl) (fun _ _ _ h => h) (Wn.some hf rfl rfl rfl rfl) hT rfl rfl ?_
                    clear hf; intro a hf
                    refine any_skip (i := 4) hf rfl (by kernel_rfl) (by kernel_rfl) (by kernel_rfl) (fun _ _ _ h => h) (Wn.some hf rfl rfl rfl rfl) hT rfl rfl ?_
                    clear hf; intro a hf
                    refine any_skip (i := 5) hf rfl (by kernel_rfl) (by kernel_rfl) (by kernel_rfl) (fun _ _ _ h => h) (Wn.some hf rfl rfl rfl rfl) hT rfl rfl ?_
                    clear hf; intro a hf
                    refine any_skip (i := 6) hf rfl (by kernel_rfl) (by kernel_rfl) (by kernel_rfl) (fun _ _ _ h => h) (Wn.some hf rfl rfl rfl rfl) hT rfl rfl ?_
                    clear hf; intro a hf
                    refine any_skip (i := 7) hf rfl (by kernel_rfl) (by kernel_rfl) (by kernel_rfl) (fun _ _ _ h => h) (Wn.some hf rfl rfl rfl rfl) hT rfl rfl ?_
                    clear hf; intro a hf
                    refine any_skip (i := 8) hf rfl (by kernel_rfl) (by kernel_rfl) (by kernel_rfl) (fun _ _ _ h => h) (Wn.some hf rfl rfl rfl rfl) hT rfl rfl ?_
                    clear hf; intro a hf
                    refine any_skip (i := 9) hf rfl (by kernel_rfl) (by kernel_rfl) (by kernel_rfl) (fun _ _ _ h => h) (Wn.some hf rfl rfl rfl rfl) hT rfl rfl ?_
                    clear hf; intro a hf
                    refine any_skip (i := 10) hf rfl (by kernel_rfl) (by kernel_rfl) (by kernel_rfl) (fun _ _ _ h => h) (Wn.some hf rfl rfl rfl rfl) hT rfl rfl ?_
                    clear hf; intro a hf
                    refine any_take (i := 11) hf rfl (by kernel_rfl) (by kernel_rfl) (by kernel_rfl) (fun _ _ _ h => h) (Wn.none rfl) (rd_pick_f hf rfl rfl rfl) hT rfl rfl ?_
                    clear hf; intro a hf
                    refine any_take (i := 12) hf rfl (by kernel_rfl) (by kernel_rfl) (by kernel_rfl) (fun _ _ _ h => h) (Wn.none rfl) (rd_move hf rfl rfl) hT rfl rfl ?_
                    clear hf; intro a hf
                    refine any_skip (i := 13) hf rfl (by kernel_rfl) (by kernel_rfl) (by kernel_rfl) (fun _ _ _ h => h) (Wn.some hf rfl rfl rfl rfl) hT rfl rfl ?_
                    clear hf; intro a hf
                    refine any_take (i := 14) hf rfl (by kernel_rfl) (by kernel_rfl) (by kernel_rfl) (fun _ _ _ h => h) (Wn.none rfl) (rd_pick_f hf rfl rfl rfl) hT rfl rfl ?_
                    clear hf; intro a hf
                    refine any_take (i := 15) hf rfl (by kernel_rfl) (by kernel_rfl) (by kernel_rfl) (fun _ _ _ h => h) (Wn.none rfl) (rd_assign hf rfl rfl) hT rfl rfl ?_
                    clear hf; intro a hf
                    refine any_done (by kernel_rfl) ?_
                    refine t_normal ?_
                    refine c_ret ?_
                    refine e_res1 hf.defers rfl (res_tmp hf rfl .nil) ?_
                    exact ⟨rfl, hS.sub (by repeat (first | exact Sub.refl | exact Sub.none | exact Sub.behind | (apply Sub.cons; (focus ((repeat (first | exact Sel.head | apply Sel.tail)); done))) | apply Sub.skip))⟩
                    )
                )
            )
      )

end Go.Proofs.Ytmohhhokplpgkaa
