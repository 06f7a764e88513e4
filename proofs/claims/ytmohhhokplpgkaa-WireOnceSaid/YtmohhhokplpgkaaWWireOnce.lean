/-
  The statement WireOnce, walked.
  Conditions: none.
-/
import Derived.Test.YtmohhhokplpgkaaWire2
namespace Go.Proofs.Ytmohhhokplpgkaa
open Go Go.Sl
set_option linter.unusedVariables false
set_option linter.unusedSimpArgs false
theorem ag2 : aggO Try.prog 2 = some false := by kernel_rfl
theorem ag22 : aggO Try.prog 22 = some false := by kernel_rfl
theorem fn17 : fnB Try.prog 17 = true := by kernel_rfl
theorem fn18 : fnB Try.prog 18 = true := by kernel_rfl
theorem fn20 : fnB Try.prog 20 = true := by kernel_rfl
theorem fn22 : fnB Try.prog 22 = true := by kernel_rfl
theorem fn24 : fnB Try.prog 24 = true := by kernel_rfl
theorem fn25 : fnB Try.prog 25 = true := by kernel_rfl
theorem fn28 : fnB Try.prog 28 = true := by kernel_rfl
theorem fn35 : fnB Try.prog 35 = true := by kernel_rfl
theorem fn36 : fnB Try.prog 36 = true := by kernel_rfl
theorem fn37 : fnB Try.prog 37 = true := by kernel_rfl
theorem fn38 : fnB Try.prog 38 = true := by kernel_rfl
theorem fn39 : fnB Try.prog 39 = true := by kernel_rfl
theorem fn40 : fnB Try.prog 40 = true := by kernel_rfl
theorem sz2 : (Try.prog.info? 2).map (·.size) = some 1 := by kernel_rfl
theorem sz22 : (Try.prog.info? 22).map (·.size) = some 1 := by kernel_rfl
theorem zr2 : (Try.prog.info? 2).bind (·.zero) = some (.int .i64 0) := by kernel_rfl
theorem zr22 : (Try.prog.info? 22).bind (·.zero) = some (.int .u64 0) := by kernel_rfl
theorem zr29 : (Try.prog.info? 29).bind (·.zero) = some (.slice none 0 0) := by kernel_rfl
theorem zr4 : (Try.prog.info? 4).bind (·.zero) = some (.bool false) := by kernel_rfl
theorem put2_c (p bc : Nat) (most : Int) (s : WS) (n : Nat) {W : World} {R : List HP} {w : World} (hS : Sat W (WrP 5 67 p most s :: R) w) (hm : 0 ≤ most ∧ most ≤ 9223372036854775807) (hr : most ≤ 140737488355328 ∨ s.1.length + (numB n).length ≤ 140737488355328) (hc : ∀ w, Sat W R w → w.cell? ⟨bc, 0, none⟩ = some (.int .u64 (n : Nat))) (hn : n < 18446744073709551616) : Calls Try.prog 36 [.pointer (some ⟨p, 0, none⟩), .pointer (some ⟨bc, 0, none⟩)].toArray w (Ret fun v w' => v = .tuple #[] ∧ Sat W (WrP 5 67 p most (wput most s (numB n)) :: R) w') := by
  refine fn_start 6 Try.func36 rfl rfl rfl ?_
  intro a hf
  refine c_region ?_
  refine step_l (st_rd hf (Wn.none rfl) (rd_move hf rfl rfl) hS rfl rfl ?_)
  clear hf; intro a hf
  refine step_l (st_rd hf (Wn.none rfl) (rd_load1 hf rfl rfl ag22 (by intro _ h; exact hc _ (h.sub (by repeat (first | exact Sub.refl | exact Sub.none | exact Sub.behind | (apply Sub.cons; (focus ((repeat (first | exact Sel.head | apply Sel.tail)); done))) | apply Sub.skip))))) hS rfl rfl ?_)
  clear hf; intro a hf
  refine step_l (st_call hf (Wn.none rfl) rfl rfl rfl fn14 (WNum_c _ _ _ _ (hS.sel (by repeat (first | exact Sel.head | apply Sel.tail))) hm hr hn) rfl rfl ?_)
  clear hf hS; rintro v a w ⟨rfl, hS⟩ hf
  refine done_l ?_
  refine e_none' hf rfl ?_
  exact ⟨rfl, hS.sub (by repeat (first | exact Sub.refl | exact Sub.none | exact Sub.behind | (apply Sub.cons; (focus ((repeat (first | exact Sel.head | apply Sel.tail)); done))) | apply Sub.skip))⟩

theorem put3_c (p bc : Nat) (most : Int) (s : WS) (n : Int) {W : World} {R : List HP} {w : World} (hS : Sat W (WrP 5 67 p most s :: R) w) (hm : 0 ≤ most ∧ most ≤ 9223372036854775807) (hr : most ≤ 140737488355328 ∨ s.1.length + (numB (zz n)).length ≤ 140737488355328) (hc : ∀ w, Sat W R w → w.cell? ⟨bc, 0, none⟩ = some (.int .i64 n)) (hn : -9223372036854775808 ≤ n ∧ n ≤ 9223372036854775807) : Calls Try.prog 37 [.pointer (some ⟨p, 0, none⟩), .pointer (some ⟨bc, 0, none⟩)].toArray w (Ret fun v w' => v = .tuple #[] ∧ Sat W (WrP 5 67 p most (wput most s (numB (zz n))) :: R) w') := by
  refine fn_start 6 Try.func37 rfl rfl rfl ?_
  intro a hf
  refine c_region ?_
  refine step_l (st_rd hf (Wn.none rfl) (rd_move hf rfl rfl) hS rfl rfl ?_)
  clear hf; intro a hf
  refine step_l (st_rd hf (Wn.none rfl) (rd_load1 hf rfl rfl ag2 (by intro _ h; exact hc _ (h.sub (by repeat (first | exact Sub.refl | exact Sub.none | exact Sub.behind | (apply Sub.cons; (focus ((repeat (first | exact Sel.head | apply Sel.tail)); done))) | apply Sub.skip))))) hS rfl rfl ?_)
  clear hf; intro a hf
  refine step_l (st_call hf (Wn.none rfl) rfl rfl rfl fn15 (WInt_c _ _ _ _ (hS.sel (by repeat (first | exact Sel.head | apply Sel.tail))) hm hr hn) rfl rfl ?_)
  clear hf hS; rintro v a w ⟨rfl, hS⟩ hf
  refine done_l ?_
  refine e_none' hf rfl ?_
  exact ⟨rfl, hS.sub (by repeat (first | exact Sub.refl | exact Sub.none | exact Sub.behind | (apply Sub.cons; (focus ((repeat (first | exact Sel.head | apply Sel.tail)); done))) | apply Sub.skip))⟩

theorem put4_c (p bc : Nat) (most : Int) (s : WS) (n : Bool) {W : World} {R : List HP} {w : World} (hS : Sat W (WrP 5 67 p most s :: R) w) (hm : 0 ≤ most ∧ most ≤ 9223372036854775807) (hr : most ≤ 140737488355328 ∨ s.1.length + (flagB n).length ≤ 140737488355328) (hc : ∀ w, Sat W R w → w.cell? ⟨bc, 0, none⟩ = some (.bool n))  : Calls Try.prog 38 [.pointer (some ⟨p, 0, none⟩), .pointer (some ⟨bc, 0, none⟩)].toArray w (Ret fun v w' => v = .tuple #[] ∧ Sat W (WrP 5 67 p most (wput most s (flagB n)) :: R) w') := by
  refine fn_start 6 Try.func38 rfl rfl rfl ?_
  intro a hf
  refine c_region ?_
  refine step_l (st_rd hf (Wn.none rfl) (rd_move hf rfl rfl) hS rfl rfl ?_)
  clear hf; intro a hf
  refine step_l (st_rd hf (Wn.none rfl) (rd_load1 hf rfl rfl ag4 (by intro _ h; exact hc _ (h.sub (by repeat (first | exact Sub.refl | exact Sub.none | exact Sub.behind | (apply Sub.cons; (focus ((repeat (first | exact Sel.head | apply Sel.tail)); done))) | apply Sub.skip))))) hS rfl rfl ?_)
  clear hf; intro a hf
  refine step_l (st_call hf (Wn.none rfl) rfl rfl rfl fn39 (WFlag_c _ _ _ _ (hS.sel (by repeat (first | exact Sel.head | apply Sel.tail))) hm (by simpa [flagB] using hr)) rfl rfl ?_)
  clear hf hS; rintro v a w ⟨rfl, hS⟩ hf
  refine done_l ?_
  refine e_none' hf rfl ?_
  exact ⟨rfl, hS.sub (by repeat (first | exact Sub.refl | exact Sub.none | exact Sub.behind | (apply Sub.cons; (focus ((repeat (first | exact Sel.head | apply Sel.tail)); done))) | apply Sub.skip))⟩

theorem put5_c (p bc : Nat) (most : Int) (s : WS) (t : List UInt8) (q : Option Addr) (cap : Nat) {W : World} {R : List HP} {w : World} (hS : Sat W (WrP 5 67 p most s :: R) w) (hm : 0 ≤ most ∧ most ≤ 9223372036854775807) (hr : most ≤ 140737488355328 ∨ s.1.length + (textB t).length ≤ 140737488355328) (hc : ∀ w, Sat W R w → w.cell? ⟨bc, 0, none⟩ = some (.slice q t.length cap)) (ht : t.length ≤ 140737488351232) (hv : ∀ w, Sat W R w → SlAt w q t.length 1 (bvs t)) : Calls Try.prog 40 [.pointer (some ⟨p, 0, none⟩), .pointer (some ⟨bc, 0, none⟩)].toArray w (Ret fun v w' => v = .tuple #[] ∧ Sat W (WrP 5 67 p most (wput most s (textB t)) :: R) w') := by
  refine fn_start 6 Try.func40 rfl rfl rfl ?_
  intro a hf
  refine c_region ?_
  refine step_l (st_rd hf (Wn.none rfl) (rd_move hf rfl rfl) hS rfl rfl ?_)
  clear hf; intro a hf
  refine step_l (st_rd hf (Wn.none rfl) (rd_load1 hf rfl rfl ag29 (by intro _ h; exact hc _ (h.sub (by repeat (first | exact Sub.refl | exact Sub.none | exact Sub.behind | (apply Sub.cons; (focus ((repeat (first | exact Sel.head | apply Sel.tail)); done))) | apply Sub.skip))))) hS rfl rfl ?_)
  clear hf; intro a hf
  refine step_l (st_call hf (Wn.none rfl) rfl rfl rfl fn18 (WText_c _ _ _ t _ _ _ (hS.sel (by repeat (first | exact Sel.head | apply Sel.tail))) (by first | assumption | exact ⟨by omega, by omega⟩) (by first | assumption | exact .inl (by omega) | exact .inr (by omega)) rfl (by omega) (fun _ h => hv _ (h.sub (by repeat (first | exact Sub.refl | exact Sub.none | exact Sub.behind | (apply Sub.cons; (focus ((repeat (first | exact Sel.head | apply Sel.tail)); done))) | apply Sub.skip))))) rfl rfl ?_)
  clear hf hS; rintro v a w ⟨rfl, hS⟩ hf
  refine done_l ?_
  refine e_none' hf rfl ?_
  exact ⟨rfl, hS.sub (by repeat (first | exact Sub.refl | exact Sub.none | exact Sub.behind | (apply Sub.cons; (focus ((repeat (first | exact Sel.head | apply Sel.tail)); done))) | apply Sub.skip))⟩

theorem same_c (p : Nat) (s : RS) (bs : List UInt8) (q : Option Addr) (cap : Nat) (bb fk bc : Nat) (enc : List UInt8) {W : World} {R : List HP} {w : World} (hS : Sat W (RdP 71 p s :: R) w) (hb : bs.length ≤ 140737488351232) (hfb : fnB Try.prog fk = true) (hend : rEnd s = 0 → enc = bs) (hv : ∀ w, Sat W R w → SlAt w q bs.length 1 (bvs bs)) (hc : ∀ w, Sat W R w → w.cell? ⟨bb, 0, none⟩ = some (.slice q bs.length cap)) (hput : ∀ pw w, Sat W (WrP 5 67 pw (max 0 (bs.length : Nat)) ([], false) :: RdP 71 p s :: R) w → Calls Try.prog fk [.pointer (some ⟨pw, 0, none⟩), .pointer (some ⟨bc, 0, none⟩)].toArray w (Ret fun v w' => v = .tuple #[] ∧ Sat W (WrP 5 67 pw (max 0 (bs.length : Nat)) (wput (max 0 (bs.length : Nat)) ([], false) enc) :: RdP 71 p s :: R) w')) : Calls Try.prog 35 [.pointer (some ⟨p, 0, none⟩), .func (.func fk) [].toArray [.pointer (some ⟨bc, 0, none⟩)].toArray, .pointer (some ⟨bb, 0, none⟩)].toArray w (Ret fun v w' => v = .bool true ∧ Sat W (RdP 71 p s :: R) w') := by
  refine fn_start 32 Try.func35 rfl rfl rfl ?_
  intro a hf
  refine c_seq ?_
  refine c_region ?_
  refine step_l (st_rd hf (Wn.none rfl) (rd_assign hf rfl rfl) hS rfl rfl ?_)
  clear hf; intro a hf
  refine done_l ?_
  refine t_normal ?_
  refine c_seq ?_
  refine c_seq ?_
  refine c_region ?_
  refine step_l (st_rd hf (Wn.none rfl) (rd_move hf rfl rfl) hS rfl rfl ?_)
  clear hf; intro a hf
  refine step_l (st_call hf (Wn.none rfl) rfl rfl rfl fn25 (RWEnd_c _ _ (hS.sel (by repeat (first | exact Sel.head | apply Sel.tail)))) rfl rfl ?_)
  clear hf hS; rintro v a w ⟨rfl, hS⟩ hf
  refine step_l (st_rdB hf (Wn.none rfl) (rd_neq hf rfl rfl rfl) hS rfl rfl ?_ ?_)
  · clear hf; intro hc1 a hf
    first
    | (exact absurd rfl hc1; done)
    | (
      refine done_l ?_
      refine t_normal ?_
      refine c_true hf rfl ?_
      refine c_seq ?_
      refine c_region ?_
      refine step_l (st_rd hf (Wn.none rfl) (rd_assign hf rfl rfl) hS rfl rfl ?_)
      clear hf; intro a hf
      refine done_l ?_
      refine t_normal ?_
      refine c_ret ?_
      refine t_ret ?_
      refine e_res1 hf.defers rfl (res_tmp hf rfl .nil) ?_
      first | exact ⟨rfl, hS.sub (by repeat (first | exact Sub.refl | exact Sub.none | exact Sub.behind | (apply Sub.cons; (focus ((repeat (first | exact Sel.head | apply Sel.tail)); done))) | apply Sub.skip))⟩ | exact ⟨congrArg Value.bool (decide_eq_true rfl), hS.sub (by repeat (first | exact Sub.refl | exact Sub.none | exact Sub.behind | (apply Sub.cons; (focus ((repeat (first | exact Sel.head | apply Sel.tail)); done))) | apply Sub.skip))⟩
      )
  · clear hf; intro hc1 a hf
    have hend2 := hend (by omega)
    first
    | (exact absurd rfl hc1; done)
    | (
      refine done_l ?_
      refine t_normal ?_
      refine c_false hf rfl ?_
      refine c_skip ?_
      refine t_normal ?_
      refine c_seq ?_
      refine c_region ?_
      refine step_l (st_rd hf (Wn.none rfl) (rd_load1 hf rfl rfl ag29 (by intro _ h; exact hc _ (h.sub (by repeat (first | exact Sub.refl | exact Sub.none | exact Sub.behind | (apply Sub.cons; (focus ((repeat (first | exact Sel.head | apply Sel.tail)); done))) | apply Sub.skip))))) hS rfl rfl ?_)
      clear hf; intro a hf
      refine step_l (st_rd hf (Wn.none rfl) (rd_len hf rfl rfl Try.underlying29) hS rfl rfl ?_)
      clear hf; intro a hf
      refine step_l (st_call hf (Wn.none rfl) rfl rfl rfl fn13 (NewWriter_c _ hS) rfl rfl ?_)
      clear hf hS; rintro v a w ⟨pw_2, rfl, hS⟩ hf
      refine step_l (st_rd hf (Wn.none rfl) (rd_assign hf rfl rfl) hS rfl rfl ?_)
      clear hf; intro a hf
      refine done_l ?_
      refine t_normal ?_
      refine c_seq ?_
      refine c_region ?_
      refine step_l (st_rd hf (Wn.none rfl) (rd_move hf rfl rfl) hS rfl rfl ?_)
      clear hf; intro a hf
      refine step_l (st_rd hf (Wn.none rfl) (rd_move hf rfl rfl) hS rfl rfl ?_)
      clear hf; intro a hf
      refine step_l (st_call hf (Wn.none rfl) rfl rfl rfl hfb (hput _ _ hS) rfl rfl ?_)
      clear hf hS; rintro v a w ⟨rfl, hS⟩ hf; rw [hend2, wput_yes rfl (by simp only [List.length_nil]; omega)] at hS; simp only [List.nil_append] at hS
      refine done_l ?_
      refine t_normal ?_
      refine c_seq ?_
      refine c_region ?_
      refine step_l (st_rd hf (Wn.none rfl) (rd_move hf rfl rfl) hS rfl rfl ?_)
      clear hf; intro a hf
      refine step_l (st_call hf (Wn.none rfl) rfl rfl rfl fn16 (Done_c _ _ _ (hS.sel (by repeat (first | exact Sel.head | apply Sel.tail))) (by simp only []; omega)) rfl rfl ?_)
      clear hf hS; rintro v a w ⟨qd_3, capd_3, hvr, hS⟩ hf; rw [doneB_ok, doneE_ok] at hvr; rw [doneB_ok] at hS; subst hvr
      refine step_l (st_rd hf (Wn.none rfl) (rd_move hf rfl rfl) hS rfl rfl ?_)
      clear hf; intro a hf
      refine step_l (st_rd hf (Wn.none rfl) (rd_extract hf rfl rfl rfl) hS rfl rfl ?_)
      clear hf; intro a hf
      refine step_l (st_rd hf (Wn.none rfl) (rd_extract hf rfl rfl rfl) hS rfl rfl ?_)
      clear hf; intro a hf
      refine step_l (st_rd hf (Wn.none rfl) (rd_assign hf rfl rfl) hS rfl rfl ?_)
      clear hf; intro a hf
      refine step_l (st_rd hf (Wn.none rfl) (rd_assign hf rfl rfl) hS rfl rfl ?_)
      clear hf; intro a hf
      refine done_l ?_
      refine t_normal ?_
      refine c_seq ?_
      refine c_region ?_
      refine step_l (st_rd hf (Wn.none rfl) (rd_move hf rfl rfl) hS rfl rfl ?_)
      clear hf; intro a hf
      refine step_l (st_rdB hf (Wn.none rfl) (rd_eql hf rfl rfl rfl) hS rfl rfl ?_ ?_)
      · clear hf; intro hc4 a hf
        first
        | (exact absurd rfl hc4; done)
        | (
          refine step_l (st_rd hf (Wn.none rfl) (rd_move hf rfl rfl) hS rfl rfl ?_)
          clear hf; intro a hf
          refine step_l (st_rd hf (Wn.some hf rfl rfl rfl rfl) (rd_move hf rfl rfl) hS rfl rfl ?_)
          clear hf; intro a hf
          refine step_l (st_rd hf (Wn.some hf rfl rfl rfl rfl) (rd_str hf rfl rfl Try.underlying29 Try.underlying9 Try.underlying5 (by intro _ h; first | exact h.slOfRw (by repeat (first | exact Sel.head | apply Sel.tail)) | exact h.slOfBlkPre (by repeat (first | exact Sel.head | apply Sel.tail)) (bvs_len1 _) | exact hv _ (h.sub (by repeat (first | exact Sub.refl | exact Sub.none | exact Sub.behind | (apply Sub.cons; (focus ((repeat (first | exact Sel.head | apply Sel.tail)); done))) | apply Sub.skip))))) hS rfl rfl ?_)
          clear hf; intro a hf
          refine step_l (st_rd hf (Wn.some hf rfl rfl rfl rfl) (rd_load1 hf rfl rfl ag29 (by intro _ h; exact hc _ (h.sub (by repeat (first | exact Sub.refl | exact Sub.none | exact Sub.behind | (apply Sub.cons; (focus ((repeat (first | exact Sel.head | apply Sel.tail)); done))) | apply Sub.skip))))) hS rfl rfl ?_)
          clear hf; intro a hf
          refine step_l (st_rd hf (Wn.some hf rfl rfl rfl rfl) (rd_str hf rfl rfl Try.underlying29 Try.underlying9 Try.underlying5 (by intro _ h; first | exact h.slOfRw (by repeat (first | exact Sel.head | apply Sel.tail)) | exact h.slOfBlkPre (by repeat (first | exact Sel.head | apply Sel.tail)) (bvs_len1 _) | exact hv _ (h.sub (by repeat (first | exact Sub.refl | exact Sub.none | exact Sub.behind | (apply Sub.cons; (focus ((repeat (first | exact Sel.head | apply Sel.tail)); done))) | apply Sub.skip))))) hS rfl rfl ?_)
          clear hf; intro a hf
          refine step_l (st_rd hf (Wn.some hf rfl rfl rfl rfl) (rd_eqlS hf rfl rfl rfl) hS rfl rfl ?_)
          clear hf; intro a hf
          refine step_l (st_rd hf (Wn.none rfl) (rd_pick_t hf rfl rfl rfl) hS rfl rfl ?_)
          clear hf; intro a hf
          refine step_l (st_rd hf (Wn.none rfl) (rd_assign hf rfl rfl) hS rfl rfl ?_)
          clear hf; intro a hf
          refine done_l ?_
          refine t_normal ?_
          refine c_ret ?_
          refine e_res1 hf.defers rfl (res_tmp hf rfl .nil) ?_
          first | exact ⟨rfl, hS.sub (by repeat (first | exact Sub.refl | exact Sub.none | exact Sub.behind | (apply Sub.cons; (focus ((repeat (first | exact Sel.head | apply Sel.tail)); done))) | apply Sub.skip))⟩ | exact ⟨congrArg Value.bool (decide_eq_true rfl), hS.sub (by repeat (first | exact Sub.refl | exact Sub.none | exact Sub.behind | (apply Sub.cons; (focus ((repeat (first | exact Sel.head | apply Sel.tail)); done))) | apply Sub.skip))⟩
          )
      · clear hf; intro hc4 a hf
        first
        | (exact absurd rfl hc4; done)
        | (
          refine step_l (st_rd hf (Wn.none rfl) (rd_move hf rfl rfl) hS rfl rfl ?_)
          clear hf; intro a hf
          refine step_l (st_skip hf (Wn.some hf rfl rfl rfl rfl) rfl rfl ?_)
          clear hf; intro a hf
          refine step_l (st_skip hf (Wn.some hf rfl rfl rfl rfl) rfl rfl ?_)
          clear hf; intro a hf
          refine step_l (st_skip hf (Wn.some hf rfl rfl rfl rfl) rfl rfl ?_)
          clear hf; intro a hf
          refine step_l (st_skip hf (Wn.some hf rfl rfl rfl rfl) rfl rfl ?_)
          clear hf; intro a hf
          refine step_l (st_skip hf (Wn.some hf rfl rfl rfl rfl) rfl rfl ?_)
          clear hf; intro a hf
          refine step_l (st_rd hf (Wn.none rfl) (rd_pick_f hf rfl rfl rfl) hS rfl rfl ?_)
          clear hf; intro a hf
          refine step_l (st_rd hf (Wn.none rfl) (rd_assign hf rfl rfl) hS rfl rfl ?_)
          clear hf; intro a hf
          refine done_l ?_
          refine t_normal ?_
          refine c_ret ?_
          refine e_res1 hf.defers rfl (res_tmp hf rfl .nil) ?_
          first | exact ⟨rfl, hS.sub (by repeat (first | exact Sub.refl | exact Sub.none | exact Sub.behind | (apply Sub.cons; (focus ((repeat (first | exact Sel.head | apply Sel.tail)); done))) | apply Sub.skip))⟩ | exact ⟨congrArg Value.bool (decide_eq_true rfl), hS.sub (by repeat (first | exact Sub.refl | exact Sub.none | exact Sub.behind | (apply Sub.cons; (focus ((repeat (first | exact Sel.head | apply Sel.tail)); done))) | apply Sub.skip))⟩
          )
      )

def fl_10_2_0 : List Flt := [⟨10, 7, 22, [.int .u64 0]⟩, ⟨11, 8, 2, [.int .i64 0]⟩, ⟨12, 9, 4, [.bool false]⟩, ⟨13, 10, 29, [.slice none 0 0]⟩]
set_option maxHeartbeats 4000000 in
theorem WireOnce_c (bs : List UInt8) (q : Option Addr) (cap : Nat) {W : World} {R : List HP} {w : World} (hS : Sat W (R) w) (hb : bs.length ≤ 140737488351232) (hv : ∀ w, Sat W R w → SlAt w q bs.length 1 (bvs bs)) : Calls Try.prog 10 [.slice q bs.length cap].toArray w (Ret fun v w' => v = .bool true ∧ Sat W R w') := by
  refine fn_start 56 Try.func10 rfl rfl rfl ?_
  intro a hf
  refine c_seq ?_
  refine c_region ?_
  refine step_l (st_box hf (Wn.none rfl) hS rfl rfl (by rfl) rfl rfl ?_)
  clear hf hS; intro b_b a w hf hS
  refine step_l (st_rd hf (Wn.none rfl) (rd_assign hf rfl rfl) hS rfl rfl ?_)
  clear hf; intro a hf
  refine done_l ?_
  refine t_normal ?_
  refine c_seq ?_
  refine any_begin (S := Sat W (Blk b_b [.slice q bs.length cap] 29 :: R)) mixed (hS.drew.sub (by repeat (first | exact Sub.refl | exact Sub.none | exact Sub.behind | (apply Sub.cons; (focus ((repeat (first | exact Sel.head | apply Sel.tail)); done))) | apply Sub.skip))) ?_
  have hT : Sat W (Blk b_b [.slice q bs.length cap] 29 :: R) _ := hS.drew.sub (by repeat (first | exact Sub.refl | exact Sub.none | exact Sub.behind | (apply Sub.cons; (focus ((repeat (first | exact Sel.head | apply Sel.tail)); done))) | apply Sub.skip))
  replace hS := hS.drew
  refine any_take (i := 0) hf rfl (by kernel_rfl) (by kernel_rfl) (by kernel_rfl) (fun _ _ _ h => h) (Wn.none rfl) (rd_load1 hf rfl rfl ag29 (by intro _ h; first | exact h.cell (by repeat (first | exact Sel.head | apply Sel.tail)) (by rfl))) hT rfl rfl ?_
  clear hf; intro a hf
  refine any_take (i := 2) hf rfl (by kernel_rfl) (by kernel_rfl) (by kernel_rfl) (fun _ _ _ h => h) (Wn.none rfl) (rd_load1 hf rfl rfl ag29 (by intro _ h; first | exact h.cell (by repeat (first | exact Sel.head | apply Sel.tail)) (by rfl))) hT rfl rfl ?_
  clear hf; intro a hf
  refine any_take (i := 4) hf rfl (by kernel_rfl) (by kernel_rfl) (by kernel_rfl) (fun _ _ _ h => h) (Wn.none rfl) (rd_load1 hf rfl rfl ag29 (by intro _ h; first | exact h.cell (by repeat (first | exact Sel.head | apply Sel.tail)) (by rfl))) hT rfl rfl ?_
  clear hf; intro a hf
  refine any_take (i := 6) hf rfl (by kernel_rfl) (by kernel_rfl) (by kernel_rfl) (fun _ _ _ h => h) (Wn.none rfl) (rd_load1 hf rfl rfl ag29 (by intro _ h; first | exact h.cell (by repeat (first | exact Sel.head | apply Sel.tail)) (by rfl))) hT rfl rfl ?_
  clear hf; intro a hf
  refine any_one (i := 1) rfl (by kernel_rfl) (st_call hf (Wn.none rfl) rfl rfl rfl fn20 (NewReader_c bs _ _ _ hS rfl (by omega) (fun _ h => hv _ (h.sub (by repeat (first | exact Sub.refl | exact Sub.none | exact Sub.behind | (apply Sub.cons; (focus ((repeat (first | exact Sel.head | apply Sel.tail)); done))) | apply Sub.skip))))) rfl rfl ?_)
  clear hf hS; rintro v a w ⟨pr_2, rfl, hS⟩ hf
  replace hT := hS.sub' hT (by repeat (first | exact Sub.refl | exact Sub.none | exact Sub.behind | (apply Sub.cons; (focus ((repeat (first | exact Sel.head | apply Sel.tail)); done))) | apply Sub.skip))
  refine ⟨hT, ?_⟩
  refine any_one (i := 3) rfl (by kernel_rfl) (st_call hf (Wn.none rfl) rfl rfl rfl fn20 (NewReader_c bs _ _ _ hS rfl (by omega) (fun _ h => hv _ (h.sub (by repeat (first | exact Sub.refl | exact Sub.none | exact Sub.behind | (apply Sub.cons; (focus ((repeat (first | exact Sel.head | apply Sel.tail)); done))) | apply Sub.skip))))) rfl rfl ?_)
  clear hf hS; rintro v a w ⟨pr_3, rfl, hS⟩ hf
  replace hT := hS.sub' hT (by repeat (first | exact Sub.refl | exact Sub.none | exact Sub.behind | (apply Sub.cons; (focus ((repeat (first | exact Sel.head | apply Sel.tail)); done))) | apply Sub.skip))
  refine ⟨hT, ?_⟩
  refine any_one (i := 5) rfl (by kernel_rfl) (st_call hf (Wn.none rfl) rfl rfl rfl fn20 (NewReader_c bs _ _ _ hS rfl (by omega) (fun _ h => hv _ (h.sub (by repeat (first | exact Sub.refl | exact Sub.none | exact Sub.behind | (apply Sub.cons; (focus ((repeat (first | exact Sel.head | apply Sel.tail)); done))) | apply Sub.skip))))) rfl rfl ?_)
  clear hf hS; rintro v a w ⟨pr_4, rfl, hS⟩ hf
  replace hT := hS.sub' hT (by repeat (first | exact Sub.refl | exact Sub.none | exact Sub.behind | (apply Sub.cons; (focus ((repeat (first | exact Sel.head | apply Sel.tail)); done))) | apply Sub.skip))
  refine ⟨hT, ?_⟩
  refine any_one (i := 7) rfl (by kernel_rfl) (st_call hf (Wn.none rfl) rfl rfl rfl fn20 (NewReader_c bs _ _ _ hS rfl (by omega) (fun _ h => hv _ (h.sub (by repeat (first | exact Sub.refl | exact Sub.none | exact Sub.behind | (apply Sub.cons; (focus ((repeat (first | exact Sel.head | apply Sel.tail)); done))) | apply Sub.skip))))) rfl rfl ?_)
  clear hf hS; rintro v a w ⟨pr_5, rfl, hS⟩ hf
  replace hT := hS.sub' hT (by repeat (first | exact Sub.refl | exact Sub.none | exact Sub.behind | (apply Sub.cons; (focus ((repeat (first | exact Sel.head | apply Sel.tail)); done))) | apply Sub.skip))
  refine ⟨hT, ?_⟩
  refine any_take (i := 8) hf rfl (by kernel_rfl) (by kernel_rfl) (by kernel_rfl) (fun _ _ _ h => h) (Wn.none rfl) (rd_assign hf rfl rfl) hT rfl rfl ?_
  clear hf; intro a hf
  refine any_take (i := 9) hf rfl (by kernel_rfl) (by kernel_rfl) (by kernel_rfl) (fun _ _ _ h => h) (Wn.none rfl) (rd_assign hf rfl rfl) hT rfl rfl ?_
  clear hf; intro a hf
  refine any_take (i := 10) hf rfl (by kernel_rfl) (by kernel_rfl) (by kernel_rfl) (fun _ _ _ h => h) (Wn.none rfl) (rd_assign hf rfl rfl) hT rfl rfl ?_
  clear hf; intro a hf
  refine any_take (i := 11) hf rfl (by kernel_rfl) (by kernel_rfl) (by kernel_rfl) (fun _ _ _ h => h) (Wn.none rfl) (rd_assign hf rfl rfl) hT rfl rfl ?_
  clear hf; intro a hf
  refine any_done (by kernel_rfl) ?_
  refine t_normal ?_
  refine c_seq ?_
  refine any_begin (S := Sat W (Blk b_b [.slice q bs.length cap] 29 :: R)) mixed (hS.drew.sub (by repeat (first | exact Sub.refl | exact Sub.none | exact Sub.behind | (apply Sub.cons; (focus ((repeat (first | exact Sel.head | apply Sel.tail)); done))) | apply Sub.skip))) ?_
  have hT : Sat W (Blk b_b [.slice q bs.length cap] 29 :: R) _ := hS.drew.sub (by repeat (first | exact Sub.refl | exact Sub.none | exact Sub.behind | (apply Sub.cons; (focus ((repeat (first | exact Sel.head | apply Sel.tail)); done))) | apply Sub.skip))
  replace hS := hS.drew
  refine any_take (i := 0) hf rfl (by kernel_rfl) (by kernel_rfl) (by kernel_rfl) (fun _ _ _ h => h) (Wn.none rfl) (rd_move hf rfl rfl) hT rfl rfl ?_
  clear hf; intro a hf
  refine any_take (i := 2) hf rfl (by kernel_rfl) (by kernel_rfl) (by kernel_rfl) (fun _ _ _ h => h) (Wn.none rfl) (rd_move hf rfl rfl) hT rfl rfl ?_
  clear hf; intro a hf
  refine any_take (i := 4) hf rfl (by kernel_rfl) (by kernel_rfl) (by kernel_rfl) (fun _ _ _ h => h) (Wn.none rfl) (rd_move hf rfl rfl) hT rfl rfl ?_
  clear hf; intro a hf
  refine any_take (i := 6) hf rfl (by kernel_rfl) (by kernel_rfl) (by kernel_rfl) (fun _ _ _ h => h) (Wn.none rfl) (rd_move hf rfl rfl) hT rfl rfl ?_
  clear hf; intro a hf
  refine any_take (i := 7) hf rfl (by kernel_rfl) (by kernel_rfl) (by kernel_rfl) (fun _ _ _ h => h) (Wn.none rfl) (rd_load1 hf rfl rfl ag29 (by intro _ h; first | exact h.cell (by repeat (first | exact Sel.head | apply Sel.tail)) (by rfl))) hT rfl rfl ?_
  clear hf; intro a hf
  refine any_take (i := 8) hf rfl (by kernel_rfl) (by kernel_rfl) (by kernel_rfl) (fun _ _ _ h => h) (Wn.none rfl) (rd_len hf rfl rfl Try.underlying29) hT rfl rfl ?_
  clear hf; intro a hf
  refine float_first (fs := fl_10_2_0) (F := 7) (i := 1) (Rs := R) rfl (by unfold fl_10_2_0; exact (.cons rfl rfl rfl zr22 (by rfl) rfl rfl (.cons rfl rfl rfl zr2 (by rfl) rfl rfl (.cons rfl rfl rfl zr4 (by rfl) rfl rfl (.cons rfl rfl rfl zr29 (by rfl) rfl rfl .nil))))) (by decide) (by rfl) (by kernel_rfl) rfl hf hS (by repeat (first | exact Pre.nil | apply Pre.cons)) (fun os w h => h.sub (by repeat (first | exact Sub.refl | exact Sub.none | exact Sub.behind | (apply Sub.cons; (focus ((repeat (first | exact Sel.head | apply Sel.tail)); done))) | apply Sub.skip))) ?_
  clear hf hS hT; intro os a w ho hf hS; simp only [List.cons_append, List.nil_append] at hf hS
  have hT : Sat W (Blk b_b [.slice q bs.length cap] 29 :: R) _ := hS.sub (by repeat (first | exact Sub.refl | exact Sub.none | exact Sub.behind | (apply Sub.cons; (focus ((repeat (first | exact Sel.head | apply Sel.tail)); done))) | apply Sub.skip))
  refine st_call hf (Wn.none rfl) rfl rfl rfl fn21 (RWNum_c _ _ (hS.sel (by repeat (first | exact Sel.head | apply Sel.tail)))) rfl rfl ?_
  clear hf hS; rintro v a w ⟨rfl, hS⟩ hf
  replace hT := hS.sub' hT (by repeat (first | exact Sub.refl | exact Sub.none | exact Sub.behind | (apply Sub.cons; (focus ((repeat (first | exact Sel.head | apply Sel.tail)); done))) | apply Sub.skip))
  refine ⟨hT, ?_⟩
  refine float_next (fs := fl_10_2_0) (F := 6) (i := 3) (Rs := R) rfl (by unfold fl_10_2_0; exact (.cons rfl rfl rfl zr22 (by rfl) rfl rfl (.cons rfl rfl rfl zr2 (by rfl) rfl rfl (.cons rfl rfl rfl zr4 (by rfl) rfl rfl (.cons rfl rfl rfl zr29 (by rfl) rfl rfl .nil))))) (by decide) ho hf (by repeat (first | exact Pre.nil | apply Pre.cons)) hS (by repeat (first | exact Pre.nil | apply Pre.cons)) (by rfl) (by kernel_rfl) (fun os w h => h.sub (by repeat (first | exact Sub.refl | exact Sub.none | exact Sub.behind | (apply Sub.cons; (focus ((repeat (first | exact Sel.head | apply Sel.tail)); done))) | apply Sub.skip))) ?_
  clear hf hS hT ho; intro os a w ho hf hS; simp only [List.cons_append, List.nil_append] at hf hS
  have hT : Sat W (Blk b_b [.slice q bs.length cap] 29 :: R) _ := hS.sub (by repeat (first | exact Sub.refl | exact Sub.none | exact Sub.behind | (apply Sub.cons; (focus ((repeat (first | exact Sel.head | apply Sel.tail)); done))) | apply Sub.skip))
  refine st_call hf (Wn.none rfl) rfl rfl rfl fn24 (RWInt_c _ _ (hS.sel (by repeat (first | exact Sel.head | apply Sel.tail)))) rfl rfl ?_
  clear hf hS; rintro v a w ⟨rfl, hS⟩ hf
  replace hT := hS.sub' hT (by repeat (first | exact Sub.refl | exact Sub.none | exact Sub.behind | (apply Sub.cons; (focus ((repeat (first | exact Sel.head | apply Sel.tail)); done))) | apply Sub.skip))
  refine ⟨hT, ?_⟩
  refine float_next (fs := fl_10_2_0) (F := 5) (i := 5) (Rs := R) rfl (by unfold fl_10_2_0; exact (.cons rfl rfl rfl zr22 (by rfl) rfl rfl (.cons rfl rfl rfl zr2 (by rfl) rfl rfl (.cons rfl rfl rfl zr4 (by rfl) rfl rfl (.cons rfl rfl rfl zr29 (by rfl) rfl rfl .nil))))) (by decide) ho hf (by repeat (first | exact Pre.nil | apply Pre.cons)) hS (by repeat (first | exact Pre.nil | apply Pre.cons)) (by rfl) (by kernel_rfl) (fun os w h => h.sub (by repeat (first | exact Sub.refl | exact Sub.none | exact Sub.behind | (apply Sub.cons; (focus ((repeat (first | exact Sel.head | apply Sel.tail)); done))) | apply Sub.skip))) ?_
  clear hf hS hT ho; intro os a w ho hf hS; simp only [List.cons_append, List.nil_append] at hf hS
  have hT : Sat W (Blk b_b [.slice q bs.length cap] 29 :: R) _ := hS.sub (by repeat (first | exact Sub.refl | exact Sub.none | exact Sub.behind | (apply Sub.cons; (focus ((repeat (first | exact Sel.head | apply Sel.tail)); done))) | apply Sub.skip))
  refine st_call hf (Wn.none rfl) rfl rfl rfl fn28 (RWFlag_c _ _ (hS.sel (by repeat (first | exact Sel.head | apply Sel.tail)))) rfl rfl ?_
  clear hf hS; rintro v a w ⟨rfl, hS⟩ hf
  replace hT := hS.sub' hT (by repeat (first | exact Sub.refl | exact Sub.none | exact Sub.behind | (apply Sub.cons; (focus ((repeat (first | exact Sel.head | apply Sel.tail)); done))) | apply Sub.skip))
  refine ⟨hT, ?_⟩
  refine float_next (fs := fl_10_2_0) (F := 4) (i := 9) (Rs := R) rfl (by unfold fl_10_2_0; exact (.cons rfl rfl rfl zr22 (by rfl) rfl rfl (.cons rfl rfl rfl zr2 (by rfl) rfl rfl (.cons rfl rfl rfl zr4 (by rfl) rfl rfl (.cons rfl rfl rfl zr29 (by rfl) rfl rfl .nil))))) (by decide) ho hf (by repeat (first | exact Pre.nil | apply Pre.cons)) hS (by repeat (first | exact Pre.nil | apply Pre.cons)) (by rfl) (by kernel_rfl) (fun os w h => h.sub (by repeat (first | exact Sub.refl | exact Sub.none | exact Sub.behind | (apply Sub.cons; (focus ((repeat (first | exact Sel.head | apply Sel.tail)); done))) | apply Sub.skip))) ?_
  clear hf hS hT ho; intro os a w ho hf hS; simp only [List.cons_append, List.nil_append] at hf hS
  have hT : Sat W (Blk b_b [.slice q bs.length cap] 29 :: R) _ := hS.sub (by repeat (first | exact Sub.refl | exact Sub.none | exact Sub.behind | (apply Sub.cons; (focus ((repeat (first | exact Sel.head | apply Sel.tail)); done))) | apply Sub.skip))
  refine st_call hf (Wn.none rfl) rfl rfl rfl fn22 (RWText_c _ _ _ (hS.sel (by repeat (first | exact Sel.head | apply Sel.tail))) (by omega) (by simp only []; omega)) rfl rfl ?_
  clear hf hS; rintro v a w ⟨qt_6, capt_6, rfl, hS⟩ hf
  replace hT := hS.sub' hT (by repeat (first | exact Sub.refl | exact Sub.none | exact Sub.behind | (apply Sub.cons; (focus ((repeat (first | exact Sel.head | apply Sel.tail)); done))) | apply Sub.skip))
  refine ⟨hT, ?_⟩
  refine float_last (fs := fl_10_2_0) (F := 3) (Rs := R) (by unfold fl_10_2_0; exact (.cons rfl rfl rfl zr22 (by rfl) rfl rfl (.cons rfl rfl rfl zr2 (by rfl) rfl rfl (.cons rfl rfl rfl zr4 (by rfl) rfl rfl (.cons rfl rfl rfl zr29 (by rfl) rfl rfl .nil))))) (by decide) ho hf (by repeat (first | exact Pre.nil | apply Pre.cons)) hS (by repeat (first | exact Pre.nil | apply Pre.cons)) (by rfl) (by kernel_rfl) (fun os w h => h.sub (by repeat (first | exact Sub.refl | exact Sub.none | exact Sub.behind | (apply Sub.cons; (focus ((repeat (first | exact Sel.head | apply Sel.tail)); done))) | apply Sub.skip))) ?_
  clear hf hS hT ho; intro bs a w hb hf hS; obtain ⟨b_n, b_i, b_g, b_t, rfl⟩ := len_4 hb; clear hb; simp only [fl_10_2_0, fslots, fpcs, List.map_cons, List.map_nil, List.cons_append, List.nil_append] at hf hS
  have hT : Sat W (Blk b_b [.slice q bs.length cap] 29 :: R) _ := hS.sub (by repeat (first | exact Sub.refl | exact Sub.none | exact Sub.behind | (apply Sub.cons; (focus ((repeat (first | exact Sel.head | apply Sel.tail)); done))) | apply Sub.skip))
  refine any_one (i := 14) rfl (by kernel_rfl) (st_store hf (Wn.none rfl) hS rfl rfl rfl (by rfl) sz22 (by rfl) (by rfl) (by repeat (first | exact Sel.head | apply Sel.tail)) (by repeat (first | exact Put.nil | apply Put.cons | apply Put.succ)) rfl ?_)
  clear hf hS; intro a w hf hS
  replace hT := hS.sub' hT (by repeat (first | exact Sub.refl | exact Sub.none | exact Sub.behind | (apply Sub.cons; (focus ((repeat (first | exact Sel.head | apply Sel.tail)); done))) | apply Sub.skip))
  refine ⟨hT, ?_⟩
  refine any_one (i := 15) rfl (by kernel_rfl) (st_store hf (Wn.none rfl) hS rfl rfl rfl (by rfl) sz2 (by rfl) (by rfl) (by repeat (first | exact Sel.head | apply Sel.tail)) (by repeat (first | exact Put.nil | apply Put.cons | apply Put.succ)) rfl ?_)
  clear hf hS; intro a w hf hS
  replace hT := hS.sub' hT (by repeat (first | exact Sub.refl | exact Sub.none | exact Sub.behind | (apply Sub.cons; (focus ((repeat (first | exact Sel.head | apply Sel.tail)); done))) | apply Sub.skip))
  refine ⟨hT, ?_⟩
  refine any_one (i := 16) rfl (by kernel_rfl) (st_store hf (Wn.none rfl) hS rfl rfl rfl (by rfl) sz4 (by rfl) (by rfl) (by repeat (first | exact Sel.head | apply Sel.tail)) (by repeat (first | exact Put.nil | apply Put.cons | apply Put.succ)) rfl ?_)
  clear hf hS; intro a w hf hS
  replace hT := hS.sub' hT (by repeat (first | exact Sub.refl | exact Sub.none | exact Sub.behind | (apply Sub.cons; (focus ((repeat (first | exact Sel.head | apply Sel.tail)); done))) | apply Sub.skip))
  refine ⟨hT, ?_⟩
  refine any_one (i := 17) rfl (by kernel_rfl) (st_store hf (Wn.none rfl) hS rfl rfl rfl (by rfl) sz29 (by rfl) (by rfl) (by repeat (first | exact Sel.head | apply Sel.tail)) (by repeat (first | exact Put.nil | apply Put.cons | apply Put.succ)) rfl ?_)
  clear hf hS; intro a w hf hS
  replace hT := hS.sub' hT (by repeat (first | exact Sub.refl | exact Sub.none | exact Sub.behind | (apply Sub.cons; (focus ((repeat (first | exact Sel.head | apply Sel.tail)); done))) | apply Sub.skip))
  refine ⟨hT, ?_⟩
  refine any_done (by kernel_rfl) ?_
  refine t_normal ?_
  refine c_seq ?_
  refine c_region ?_
  refine step_l (st_rd hf (Wn.none rfl) (rd_makeFunc hf rfl rfl rfl) hS rfl rfl ?_)
  clear hf; intro a hf
  refine step_l (st_rd hf (Wn.none rfl) (rd_assign hf rfl rfl) hS rfl rfl ?_)
  clear hf; intro a hf
  refine done_l ?_
  refine t_normal ?_
  refine c_seq ?_
  refine c_region ?_
  refine step_l (st_rd hf (Wn.none rfl) (rd_move hf rfl rfl) hS rfl rfl ?_)
  clear hf; intro a hf
  refine step_l (st_rd hf (Wn.none rfl) (rd_move hf rfl rfl) hS rfl rfl ?_)
  clear hf; intro a hf
  refine step_l (st_rd hf (Wn.none rfl) (rd_makeFunc hf rfl rfl rfl) hS rfl rfl ?_)
  clear hf; intro a hf
  refine step_l (st_call hf (Wn.none rfl) rfl rfl rfl fn35 (same_c _ _ bs _ _ _ _ _ _ (hS.sel (by repeat (first | exact Sel.head | apply Sel.tail))) (by omega) fn36 once_num (fun _ h => hv _ (h.sub (by repeat (first | exact Sub.refl | exact Sub.none | exact Sub.behind | (apply Sub.cons; (focus ((repeat (first | exact Sel.head | apply Sel.tail)); done))) | apply Sub.skip)))) (fun _ h => h.cell (by repeat (first | exact Sel.head | apply Sel.tail)) rfl) (fun pw w h => (put2_c _ _ _ _ _ h (by omega) (.inl (by omega)) (fun _ h => h.cell (by repeat (first | exact Sel.head | apply Sel.tail)) rfl) (rNum_lt _)))) rfl rfl ?_)
  clear hf hS; rintro v a w ⟨rfl, hS⟩ hf
  first | refine split_dec (d := 34) hf rfl ?_ ?_ | refine split_bool (d := 34) hf rfl ?_ ?_
  · clear hf; intro hc11 hf
    first
    | (first | exact absurd rfl hc11 | exact Bool.noConfusion hc11; done)
    | (
      refine step_l (st_rd hf (Wn.none rfl) (rd_move hf rfl rfl) hS rfl rfl ?_)
      clear hf; intro a hf
      refine step_l (st_rd hf (Wn.some hf rfl rfl rfl rfl) (rd_move hf rfl rfl) hS rfl rfl ?_)
      clear hf; intro a hf
      refine step_l (st_rd hf (Wn.some hf rfl rfl rfl rfl) (rd_move hf rfl rfl) hS rfl rfl ?_)
      clear hf; intro a hf
      refine step_l (st_rd hf (Wn.some hf rfl rfl rfl rfl) (rd_makeFunc hf rfl rfl rfl) hS rfl rfl ?_)
      clear hf; intro a hf
      refine step_l (st_call hf (Wn.some hf rfl rfl rfl rfl) rfl rfl rfl fn35 (same_c _ _ bs _ _ _ _ _ _ (hS.sel (by repeat (first | exact Sel.head | apply Sel.tail))) (by omega) fn37 once_int (fun _ h => hv _ (h.sub (by repeat (first | exact Sub.refl | exact Sub.none | exact Sub.behind | (apply Sub.cons; (focus ((repeat (first | exact Sel.head | apply Sel.tail)); done))) | apply Sub.skip)))) (fun _ h => h.cell (by repeat (first | exact Sel.head | apply Sel.tail)) rfl) (fun pw w h => (put3_c _ _ _ _ _ h (by omega) (.inl (by omega)) (fun _ h => h.cell (by repeat (first | exact Sel.head | apply Sel.tail)) rfl) (unzz_in (rNum_lt _))))) rfl rfl ?_)
      clear hf hS; rintro v a w ⟨rfl, hS⟩ hf
      first | refine split_dec (d := 39) hf rfl ?_ ?_ | refine split_bool (d := 39) hf rfl ?_ ?_
      · clear hf; intro hc12 hf
        first
        | (first | exact absurd rfl hc12 | exact Bool.noConfusion hc12; done)
        | (
          refine step_l (st_rd hf (Wn.none rfl) (rd_pick_t hf rfl rfl rfl) hS rfl rfl ?_)
          clear hf; intro a hf
          refine step_l (st_rd hf (Wn.none rfl) (rd_move hf rfl rfl) hS rfl rfl ?_)
          clear hf; intro a hf
          refine step_l (st_rd hf (Wn.some hf rfl rfl rfl rfl) (rd_move hf rfl rfl) hS rfl rfl ?_)
          clear hf; intro a hf
          refine step_l (st_rd hf (Wn.some hf rfl rfl rfl rfl) (rd_move hf rfl rfl) hS rfl rfl ?_)
          clear hf; intro a hf
          refine step_l (st_rd hf (Wn.some hf rfl rfl rfl rfl) (rd_makeFunc hf rfl rfl rfl) hS rfl rfl ?_)
          clear hf; intro a hf
          refine step_l (st_call hf (Wn.some hf rfl rfl rfl rfl) rfl rfl rfl fn35 (same_c _ _ bs _ _ _ _ _ _ (hS.sel (by repeat (first | exact Sel.head | apply Sel.tail))) (by omega) fn38 once_flag (fun _ h => hv _ (h.sub (by repeat (first | exact Sub.refl | exact Sub.none | exact Sub.behind | (apply Sub.cons; (focus ((repeat (first | exact Sel.head | apply Sel.tail)); done))) | apply Sub.skip)))) (fun _ h => h.cell (by repeat (first | exact Sel.head | apply Sel.tail)) rfl) (fun pw w h => (put4_c _ _ _ _ _ h (by omega) (.inl (by omega)) (fun _ h => h.cell (by repeat (first | exact Sel.head | apply Sel.tail)) rfl)))) rfl rfl ?_)
          clear hf hS; rintro v a w ⟨rfl, hS⟩ hf
          first | refine split_dec (d := 45) hf rfl ?_ ?_ | refine split_bool (d := 45) hf rfl ?_ ?_
          · clear hf; intro hc13 hf
            first
            | (first | exact absurd rfl hc13 | exact Bool.noConfusion hc13; done)
            | (
              refine step_l (st_rd hf (Wn.none rfl) (rd_pick_t hf rfl rfl rfl) hS rfl rfl ?_)
              clear hf; intro a hf
              refine step_l (st_rd hf (Wn.none rfl) (rd_move hf rfl rfl) hS rfl rfl ?_)
              clear hf; intro a hf
              refine step_l (st_rd hf (Wn.some hf rfl rfl rfl rfl) (rd_move hf rfl rfl) hS rfl rfl ?_)
              clear hf; intro a hf
              refine step_l (st_rd hf (Wn.some hf rfl rfl rfl rfl) (rd_move hf rfl rfl) hS rfl rfl ?_)
              clear hf; intro a hf
              refine step_l (st_rd hf (Wn.some hf rfl rfl rfl rfl) (rd_makeFunc hf rfl rfl rfl) hS rfl rfl ?_)
              clear hf; intro a hf
              refine step_l (st_call hf (Wn.some hf rfl rfl rfl rfl) rfl rfl rfl fn35 (same_c _ _ bs _ _ _ _ _ _ (hS.sel (by repeat (first | exact Sel.head | apply Sel.tail))) (by omega) fn40 once_text (fun _ h => hv _ (h.sub (by repeat (first | exact Sub.refl | exact Sub.none | exact Sub.behind | (apply Sub.cons; (focus ((repeat (first | exact Sel.head | apply Sel.tail)); done))) | apply Sub.skip)))) (fun _ h => h.cell (by repeat (first | exact Sel.head | apply Sel.tail)) rfl) (fun pw w h => (put5_c _ _ _ _ _ _ _ h (by omega) (.inl (by omega)) (fun _ h => h.cell (by repeat (first | exact Sel.head | apply Sel.tail)) rfl) (by have := rText_len (bs.length : Nat) (bs, 0); dsimp only at this; omega) (fun _ h => h.slOfRw (by repeat (first | exact Sel.head | apply Sel.tail)))))) rfl rfl ?_)
              clear hf hS; rintro v a w ⟨rfl, hS⟩ hf
              first | refine split_dec (d := 51) hf rfl ?_ ?_ | refine split_bool (d := 51) hf rfl ?_ ?_
              · clear hf; intro hc14 hf
                first
                | (first | exact absurd rfl hc14 | exact Bool.noConfusion hc14; done)
                | (
                  refine step_l (st_rd hf (Wn.none rfl) (rd_pick_t hf rfl rfl rfl) hS rfl rfl ?_)
                  clear hf; intro a hf
                  refine step_l (st_rd hf (Wn.none rfl) (rd_move hf rfl rfl) hS rfl rfl ?_)
                  clear hf; intro a hf
                  refine step_l (st_call hf (Wn.some hf rfl rfl rfl rfl) rfl rfl rfl fn17 (awake_c hS) rfl rfl ?_)
                  clear hf hS; rintro v a w ⟨rfl, hS⟩ hf
                  refine step_l (st_rd hf (Wn.none rfl) (rd_pick_t hf rfl rfl rfl) hS rfl rfl ?_)
                  clear hf; intro a hf
                  refine step_l (st_rd hf (Wn.none rfl) (rd_assign hf rfl rfl) hS rfl rfl ?_)
                  clear hf; intro a hf
                  refine done_l ?_
                  refine t_normal ?_
                  refine c_ret ?_
                  refine e_res1 hf.defers rfl (res_tmp hf rfl .nil) ?_
                  exact ⟨rfl, hS.sub (by repeat (first | exact Sub.refl | exact Sub.none | exact Sub.behind | (apply Sub.cons; (focus ((repeat (first | exact Sel.head | apply Sel.tail)); done))) | apply Sub.skip))⟩
                  )
              · clear hf; intro hc14 hf
                first
                | (first | exact absurd rfl hc14 | exact Bool.noConfusion hc14; done)
                | (
                  refine step_l (st_rd hf (Wn.none rfl) (rd_pick_t hf rfl rfl rfl) hS rfl rfl ?_)
                  clear hf; intro a hf
                  refine step_l (st_rd hf (Wn.none rfl) (rd_move hf rfl rfl) hS rfl rfl ?_)
                  clear hf; intro a hf
                  refine step_l (st_skip hf (Wn.some hf rfl rfl rfl rfl) rfl rfl ?_)
                  clear hf; intro a hf
                  refine step_l (st_rd hf (Wn.none rfl) (rd_pick_f hf rfl rfl rfl) hS rfl rfl ?_)
                  clear hf; intro a hf
                  refine step_l (st_rd hf (Wn.none rfl) (rd_assign hf rfl rfl) hS rfl rfl ?_)
                  clear hf; intro a hf
                  refine done_l ?_
                  refine t_normal ?_
                  refine c_ret ?_
                  refine e_res1 hf.defers rfl (res_tmp hf rfl .nil) ?_
                  exact ⟨rfl, hS.sub (by repeat (first | exact Sub.refl | exact Sub.none | exact Sub.behind | (apply Sub.cons; (focus ((repeat (first | exact Sel.head | apply Sel.tail)); done))) | apply Sub.skip))⟩
                  )
              )
          · clear hf; intro hc13 hf
            first
            | (first | exact absurd rfl hc13 | exact Bool.noConfusion hc13; done)
            | (
              refine step_l (st_rd hf (Wn.none rfl) (rd_pick_t hf rfl rfl rfl) hS rfl rfl ?_)
              clear hf; intro a hf
              refine step_l (st_rd hf (Wn.none rfl) (rd_move hf rfl rfl) hS rfl rfl ?_)
              clear hf; intro a hf
              refine step_l (st_skip hf (Wn.some hf rfl rfl rfl rfl) rfl rfl ?_)
              clear hf; intro a hf
              refine step_l (st_skip hf (Wn.some hf rfl rfl rfl rfl) rfl rfl ?_)
              clear hf; intro a hf
              refine step_l (st_skip hf (Wn.some hf rfl rfl rfl rfl) rfl rfl ?_)
              clear hf; intro a hf
              refine step_l (st_skip hf (Wn.some hf rfl rfl rfl rfl) rfl rfl ?_)
              clear hf; intro a hf
              refine step_l (st_rd hf (Wn.none rfl) (rd_pick_f hf rfl rfl rfl) hS rfl rfl ?_)
              clear hf; intro a hf
              refine step_l (st_rd hf (Wn.none rfl) (rd_move hf rfl rfl) hS rfl rfl ?_)
              clear hf; intro a hf
              refine step_l (st_skip hf (Wn.some hf rfl rfl rfl rfl) rfl rfl ?_)
              clear hf; intro a hf
              refine step_l (st_rd hf (Wn.none rfl) (rd_pick_f hf rfl rfl rfl) hS rfl rfl ?_)
              clear hf; intro a hf
              refine step_l (st_rd hf (Wn.none rfl) (rd_assign hf rfl rfl) hS rfl rfl ?_)
              clear hf; intro a hf
              refine done_l ?_
              refine t_normal ?_
              refine c_ret ?_
              refine e_res1 hf.defers rfl (res_tmp hf rfl .nil) ?_
              exact ⟨rfl, hS.sub (by repeat (first | exact Sub.refl | exact Sub.none | exact Sub.behind | (apply Sub.cons; (focus ((repeat (first | exact Sel.head | apply Sel.tail)); done))) | apply Sub.skip))⟩
              )
          )
      · clear hf; intro hc12 hf
        first
        | (first | exact absurd rfl hc12 | exact Bool.noConfusion hc12; done)
        | (
          refine step_l (st_rd hf (Wn.none rfl) (rd_pick_t hf rfl rfl rfl) hS rfl rfl ?_)
          clear hf; intro a hf
          refine step_l (st_rd hf (Wn.none rfl) (rd_move hf rfl rfl) hS rfl rfl ?_)
          clear hf; intro a hf
          refine step_l (st_skip hf (Wn.some hf rfl rfl rfl rfl) rfl rfl ?_)
          clear hf; intro a hf
          refine step_l (st_skip hf (Wn.some hf rfl rfl rfl rfl) rfl rfl ?_)
          clear hf; intro a hf
          refine step_l (st_skip hf (Wn.some hf rfl rfl rfl rfl) rfl rfl ?_)
          clear hf; intro a hf
          refine step_l (st_skip hf (Wn.some hf rfl rfl rfl rfl) rfl rfl ?_)
          clear hf; intro a hf
          refine step_l (st_rd hf (Wn.none rfl) (rd_pick_f hf rfl rfl rfl) hS rfl rfl ?_)
          clear hf; intro a hf
          refine step_l (st_rd hf (Wn.none rfl) (rd_move hf rfl rfl) hS rfl rfl ?_)
          clear hf; intro a hf
          refine step_l (st_skip hf (Wn.some hf rfl rfl rfl rfl) rfl rfl ?_)
          clear hf; intro a hf
          refine step_l (st_skip hf (Wn.some hf rfl rfl rfl rfl) rfl rfl ?_)
          clear hf; intro a hf
          refine step_l (st_skip hf (Wn.some hf rfl rfl rfl rfl) rfl rfl ?_)
          clear hf; intro a hf
          refine step_l (st_skip hf (Wn.some hf rfl rfl rfl rfl) rfl rfl ?_)
          clear hf; intro a hf
          refine step_l (st_rd hf (Wn.none rfl) (rd_pick_f hf rfl rfl rfl) hS rfl rfl ?_)
          clear hf; intro a hf
          refine step_l (st_rd hf (Wn.none rfl) (rd_move hf rfl rfl) hS rfl rfl ?_)
          clear hf; intro a hf
          refine step_l (st_skip hf (Wn.some hf rfl rfl rfl rfl) rfl rfl ?_)
          clear hf; intro a hf
          refine step_l (st_rd hf (Wn.none rfl) (rd_pick_f hf rfl rfl rfl) hS rfl rfl ?_)
          clear hf; intro a hf
          refine step_l (st_rd hf (Wn.none rfl) (rd_assign hf rfl rfl) hS rfl rfl ?_)
          clear hf; intro a hf
          refine done_l ?_
          refine t_normal ?_
          refine c_ret ?_
          refine e_res1 hf.defers rfl (res_tmp hf rfl .nil) ?_
          exact ⟨rfl, hS.sub (by repeat (first | exact Sub.refl | exact Sub.none | exact Sub.behind | (apply Sub.cons; (focus ((repeat (first | exact Sel.head | apply Sel.tail)); done))) | apply Sub.skip))⟩
          )
      )
  · clear hf; intro hc11 hf
    first
    | (first | exact absurd rfl hc11 | exact Bool.noConfusion hc11; done)
    | (
      refine step_l (st_rd hf (Wn.none rfl) (rd_move hf rfl rfl) hS rfl rfl ?_)
      clear hf; intro a hf
      refine step_l (st_skip hf (Wn.some hf rfl rfl rfl rfl) rfl rfl ?_)
      clear hf; intro a hf
      refine step_l (st_skip hf (Wn.some hf rfl rfl rfl rfl) rfl rfl ?_)
      clear hf; intro a hf
      refine step_l (st_skip hf (Wn.some hf rfl rfl rfl rfl) rfl rfl ?_)
      clear hf; intro a hf
      refine step_l (st_skip hf (Wn.some hf rfl rfl rfl rfl) rfl rfl ?_)
      clear hf; intro a hf
      refine step_l (st_rd hf (Wn.none rfl) (rd_pick_f hf rfl rfl rfl) hS rfl rfl ?_)
      clear hf; intro a hf
      refine step_l (st_rd hf (Wn.none rfl) (rd_move hf rfl rfl) hS rfl rfl ?_)
      clear hf; intro a hf
      refine step_l (st_skip hf (Wn.some hf rfl rfl rfl rfl) rfl rfl ?_)
      clear hf; intro a hf
      refine step_l (st_skip hf (Wn.some hf rfl rfl rfl rfl) rfl rfl ?_)
      clear hf; intro a hf
      refine step_l (st_skip hf (Wn.some hf rfl rfl rfl rfl) rfl rfl ?_)
      clear hf; intro a hf
      refine step_l (st_skip hf (Wn.some hf rfl rfl rfl rfl) rfl rfl ?_)
      clear hf; intro a hf
      refine step_l (st_rd hf (Wn.none rfl) (rd_pick_f hf rfl rfl rfl) hS rfl rfl ?_)
      clear hf; intro a hf
      refine step_l (st_rd hf (Wn.none rfl) (rd_move hf rfl rfl) hS rfl rfl ?_)
      clear hf; intro a hf
      refine step_l (st_skip hf (Wn.some hf rfl rfl rfl rfl) rfl rfl ?_)
      clear hf; intro a hf
      refine step_l (st_skip hf (Wn.some hf rfl rfl rfl rfl) rfl rfl ?_)
      clear hf; intro a hf
      refine step_l (st_skip hf (Wn.some hf rfl rfl rfl rfl) rfl rfl ?_)
      clear hf; intro a hf
      refine step_l (st_skip hf (Wn.some hf rfl rfl rfl rfl) rfl rfl ?_)
      clear hf; intro a hf
      refine step_l (st_rd hf (Wn.none rfl) (rd_pick_f hf rfl rfl rfl) hS rfl rfl ?_)
      clear hf; intro a hf
      refine step_l (st_rd hf (Wn.none rfl) (rd_move hf rfl rfl) hS rfl rfl ?_)
      clear hf; intro a hf
      refine step_l (st_skip hf (Wn.some hf rfl rfl rfl rfl) rfl rfl ?_)
      clear hf; intro a hf
      refine step_l (st_rd hf (Wn.none rfl) (rd_pick_f hf rfl rfl rfl) hS rfl rfl ?_)
      clear hf; intro a hf
      refine step_l (st_rd hf (Wn.none rfl) (rd_assign hf rfl rfl) hS rfl rfl ?_)
      clear hf; intro a hf
      refine done_l ?_
      refine t_normal ?_
      refine c_ret ?_
      refine e_res1 hf.defers rfl (res_tmp hf rfl .nil) ?_
      exact ⟨rfl, hS.sub (by repeat (first | exact Sub.refl | exact Sub.none | exact Sub.behind | (apply Sub.cons; (focus ((repeat (first | exact Sel.head | apply Sel.tail)); done))) | apply Sub.skip))⟩
      )

end Go.Proofs.Ytmohhhokplpgkaa
