/-
  The statement LazyPoly, walked.
  Conditions: none.
-/
import Derived.Test.YtmjfmcgpmlfnbaaLazy1
import Derived.Test.YtmjfmcgpmlfnbaaLz2
namespace Go.Proofs.Ytmjfmcgpmlfnbaa
open Go Go.Sl
set_option linter.unusedVariables false
set_option linter.unusedSimpArgs false
theorem bz5_9 : ((Array.range (9 * 1)).map (fun j => ((.int .u8 0 : Value)).cells[j % ((.int .u8 0 : Value)).cells.size]!)) = ([.int .u8 0, .int .u8 0, .int .u8 0, .int .u8 0, .int .u8 0, .int .u8 0, .int .u8 0, .int .u8 0, .int .u8 0] : List Value).toArray := by kernel_rfl
theorem fn11 : fnB Try.prog 11 = true := by kernel_rfl
theorem fn15 : fnB Try.prog 15 = true := by kernel_rfl
theorem fn23 : fnB Try.prog 23 = true := by kernel_rfl
theorem zr5 : (Try.prog.info? 5).bind (·.zero) = some (.int .u8 0) := by kernel_rfl
theorem awake_c  {W : World} {R : List HP} {w : World} (hS : Sat W (R) w)  : Calls Try.prog 15 [].toArray w (Ret fun v w' => v = .bool true ∧ Sat W R w') := by
  refine fn_start 6 Try.func15 rfl rfl rfl ?_
  intro a hf
  refine c_seq ?_
  refine c_region ?_
  refine step_l (st_rd hf (Wn.none rfl) (rd_assign hf rfl rfl) hS rfl rfl ?_)
  clear hf; intro a hf
  refine done_l ?_
  refine t_normal ?_
  refine c_seq ?_
  refine c_region ?_
  refine step_l (st_call hf (Wn.none rfl) rfl rfl rfl fn11 (Poly_c hS) rfl rfl ?_)
  clear hf hS; rintro v a w ⟨pt_1, rfl, hS⟩ hf
  refine step_l (st_buildRw hf (Wn.none rfl) hS rfl rfl Try.underlying38 sz5 zr5 (by decide) (by decide) bz5_9 rfl (.cons rfl (by first | rfl) (by rfl) (by repeat (first | exact Put.nil | apply Put.cons | apply Put.succ)) (.cons rfl (by first | rfl) (by rfl) (by repeat (first | exact Put.nil | apply Put.cons | apply Put.succ)) (.cons rfl (by first | rfl) (by rfl) (by repeat (first | exact Put.nil | apply Put.cons | apply Put.succ)) (.cons rfl (by first | rfl) (by rfl) (by repeat (first | exact Put.nil | apply Put.cons | apply Put.succ)) (.cons rfl (by first | rfl) (by rfl) (by repeat (first | exact Put.nil | apply Put.cons | apply Put.succ)) (.cons rfl (by first | rfl) (by rfl) (by repeat (first | exact Put.nil | apply Put.cons | apply Put.succ)) (.cons rfl (by first | rfl) (by rfl) (by repeat (first | exact Put.nil | apply Put.cons | apply Put.succ)) (.cons rfl (by first | rfl) (by rfl) (by repeat (first | exact Put.nil | apply Put.cons | apply Put.succ)) (.cons rfl (by first | rfl) (by rfl) (by repeat (first | exact Put.nil | apply Put.cons | apply Put.succ)) .nil))))))))) rfl rfl rfl ?_)
  clear hf hS; intro b_2 a w hf hS
  refine step_l (st_conv hf (Wn.none rfl) hS rfl rfl Try.underlying38 Try.underlying5 (by repeat (first | exact Sel.head | apply Sel.tail)) rfl rfl ?_)
  clear hf hS; intro a w hf hS
  refine step_l (st_call hf (Wn.none rfl) rfl rfl rfl fn23 (SumP_c _ _ [49, 50, 51, 52, 53, 54, 55, 56, 57] _ _ _ (hS.sel (by repeat (first | exact Sel.head | apply Sel.tail))) rfl (by simp) (fun _ h => h.slOfBlk (by repeat (first | exact Sel.head | apply Sel.tail)) (by rfl))) rfl rfl ?_)
  clear hf hS; rintro v a w ⟨rfl, ds_3, hS⟩ hf
  refine step_l (st_rd hf (Wn.none rfl) (rd_eql hf rfl rfl rfl) hS rfl rfl ?_)
  clear hf; intro a hf
  refine step_l (st_rd hf (Wn.none rfl) (rd_assign hf rfl rfl) hS rfl rfl ?_)
  clear hf; intro a hf
  refine done_l ?_
  refine t_normal ?_
  refine c_ret ?_
  refine e_res1 hf.defers rfl (res_tmp hf rfl .nil) ?_
  exact ⟨congrArg Value.bool (decide_eq_true (by rw [crc_awake]; rfl)), hS.sub (by repeat (first | exact Sub.refl | exact Sub.none | exact Sub.behind | (apply Sub.cons; (focus ((repeat (first | exact Sel.head | apply Sel.tail)); done))) | apply Sub.skip))⟩

theorem LazyPoly_c (i : Int) {W : World} {R : List HP} {w : World} (hS : Sat W (R) w)  : Calls Try.prog 3 [.int .i64 i].toArray w (Ret fun v w' => v = .bool true ∧ Sat W R w') := by
  refine fn_start 32 Try.func3 rfl rfl rfl ?_
  intro a hf
  have h128 : (((tAt 256 polyL 128).toNat : Nat) : Int) = 3988292384 := by rw [poly128]; decide
  refine c_seq ?_
  refine c_region ?_
  refine step_l (st_rd hf (Wn.none rfl) (rd_assign hf rfl rfl) hS rfl rfl ?_)
  clear hf; intro a hf
  refine done_l ?_
  refine t_normal ?_
  refine c_seq ?_
  refine c_region ?_
  refine step_l (st_call hf (Wn.none rfl) rfl rfl rfl fn11 (Poly_c hS) rfl rfl ?_)
  clear hf hS; rintro v a w ⟨pt_1, rfl, hS⟩ hf
  refine step_l (st_rd hf (Wn.none rfl) (rd_assign hf rfl rfl) hS rfl rfl ?_)
  clear hf; intro a hf
  refine done_l ?_
  refine t_normal ?_
  refine c_seq ?_
  refine c_region ?_
  refine step_l (st_rd hf (Wn.none rfl) (rd_assign hf rfl rfl) hS rfl rfl ?_)
  clear hf; intro a hf
  refine done_l ?_
  refine t_normal ?_
  refine c_seq ?_
  refine c_seq ?_
  refine c_region ?_
  refine step_l (st_rd hf (Wn.none rfl) (rd_move hf rfl rfl) hS rfl rfl ?_)
  clear hf; intro a hf
  refine step_l (st_rdB hf (Wn.none rfl) (rd_geq hf rfl rfl rfl) hS rfl rfl ?_ ?_)
  · clear hf; intro hc2 a hf
    refine step_l (st_rd hf (Wn.none rfl) (rd_move hf rfl rfl) hS rfl rfl ?_)
    clear hf; intro a hf
    refine step_l (st_rd hf (Wn.some hf rfl rfl rfl rfl) (rd_move hf rfl rfl) hS rfl rfl ?_)
    clear hf; intro a hf
    refine step_l (st_rdB hf (Wn.some hf rfl rfl rfl rfl) (rd_lss hf rfl rfl rfl) hS rfl rfl ?_ ?_)
    · clear hf; intro hc3 a hf
      obtain ⟨j, rfl⟩ : ∃ j : Nat, i = j := ⟨i.toNat, by omega⟩
      have hv : (((tAt 256 polyL (j : Int)).toNat : Nat) : Int) = (((entB j).toNat : Nat) : Int) := by rw [poly_in (j := j) (by omega)]
      refine step_l (st_rd hf (Wn.none rfl) (rd_pick_t hf rfl rfl rfl) hS rfl rfl ?_)
      clear hf; intro a hf
      refine done_l ?_
      refine t_normal ?_
      refine c_true hf rfl ?_
      refine c_region ?_
      refine step_l (st_rd hf (Wn.none rfl) (rd_move hf rfl rfl) hS rfl rfl ?_)
      clear hf; intro a hf
      refine step_l (st_call hf (Wn.none rfl) rfl rfl rfl fn12 (Entry_c _ hS) rfl rfl ?_)
      clear hf hS; rintro v a w ⟨rfl, hS⟩ hf
      refine step_l (st_rd hf (Wn.none rfl) (rd_assign hf rfl rfl) hS rfl rfl ?_)
      clear hf; intro a hf
      refine done_l ?_
      refine t_normal ?_
      refine c_seq ?_
      refine c_region ?_
      refine step_l (st_rd hf (Wn.none rfl) (rd_move hf rfl rfl) hS rfl rfl ?_)
      clear hf; intro a hf
      refine step_l (st_call hf (Wn.none rfl) rfl rfl rfl fn13 (Len_c _ _ _ _ _ (hS.sel (by repeat (first | exact Sel.head | apply Sel.tail)))) rfl rfl ?_)
      clear hf hS; rintro v a w ⟨rfl, hS⟩ hf
      refine step_l (st_rdB hf (Wn.none rfl) (rd_eql hf rfl rfl rfl) hS rfl rfl ?_ ?_)
      · clear hf; intro hc4 a hf
        refine step_l (st_rd hf (Wn.none rfl) (rd_move hf rfl rfl) hS rfl rfl ?_)
        clear hf; intro a hf
        refine step_l (st_rd hf (Wn.some hf rfl rfl rfl rfl) (rd_move hf rfl rfl) hS rfl rfl ?_)
        clear hf; intro a hf
        refine step_l (st_rd hf (Wn.some hf rfl rfl rfl rfl) (rd_move hf rfl rfl) hS rfl rfl ?_)
        clear hf; intro a hf
        refine step_l (st_call hf (Wn.some hf rfl rfl rfl rfl) rfl rfl rfl fn14 (AtP_c _ _ _ (hS.sel (by repeat (first | exact Sel.head | apply Sel.tail)))) rfl rfl ?_)
        clear hf hS; rintro v a w ⟨rfl, hS⟩ hf
        refine step_l (st_rd hf (Wn.some hf rfl rfl rfl rfl) (rd_move hf rfl rfl) hS rfl rfl ?_)
        clear hf; intro a hf
        refine step_l (st_rdB hf (Wn.some hf rfl rfl rfl rfl) (rd_eql hf rfl rfl rfl) hS rfl rfl ?_ ?_)
        · clear hf; intro hc5 a hf
          refine step_l (st_rd hf (Wn.none rfl) (rd_pick_t hf rfl rfl rfl) hS rfl rfl ?_)
          clear hf; intro a hf
          refine step_l (st_rd hf (Wn.none rfl) (rd_move hf rfl rfl) hS rfl rfl ?_)
          clear hf; intro a hf
          refine step_l (st_rd hf (Wn.some hf rfl rfl rfl rfl) (rd_move hf rfl rfl) hS rfl rfl ?_)
          clear hf; intro a hf
          refine step_l (st_call hf (Wn.some hf rfl rfl rfl rfl) rfl rfl rfl fn14 (AtP_c _ _ _ (hS.sel (by repeat (first | exact Sel.head | apply Sel.tail)))) rfl rfl ?_)
          clear hf hS; rintro v a w ⟨rfl, hS⟩ hf
          refine step_l (st_rdB hf (Wn.some hf rfl rfl rfl rfl) (rd_eql hf rfl rfl rfl) hS rfl rfl ?_ ?_)
          · clear hf; intro hc6 a hf
            refine step_l (st_rd hf (Wn.none rfl) (rd_pick_t hf rfl rfl rfl) hS rfl rfl ?_)
            clear hf; intro a hf
            refine step_l (st_rd hf (Wn.none rfl) (rd_move hf rfl rfl) hS rfl rfl ?_)
            clear hf; intro a hf
            refine step_l (st_call hf (Wn.some hf rfl rfl rfl rfl) rfl rfl rfl fn15 (awake_c hS) rfl rfl ?_)
            clear hf hS; rintro v a w ⟨rfl, hS⟩ hf
            refine step_l (st_rd hf (Wn.none rfl) (rd_pick_t hf rfl rfl rfl) hS rfl rfl ?_)
            clear hf; intro a hf
            refine step_l (st_rd hf (Wn.none rfl) (rd_assign hf rfl rfl) hS rfl rfl ?_)
            clear hf; intro a hf
            refine done_l ?_
            refine t_normal ?_
            refine c_ret ?_
            refine e_res1 hf.defers rfl (res_tmp hf rfl .nil) ?_
            exact ⟨rfl, hS.sub (by repeat (first | exact Sub.refl | exact Sub.none | exact Sub.behind | (apply Sub.cons; (focus ((repeat (first | exact Sel.head | apply Sel.tail)); done))) | apply Sub.skip))⟩
          · clear hf; intro hc6 a hf
            exact absurd h128 hc6
        · clear hf; intro hc5 a hf
          exact absurd hv hc5
      · clear hf; intro hc4 a hf
        exact absurd rfl hc4
    · clear hf; intro hc3 a hf
      have hv : (((tAt 256 polyL i).toNat : Nat) : Int) = 0 := by rw [poly_out (i := i) (by omega)]; rfl
      refine step_l (st_rd hf (Wn.none rfl) (rd_pick_t hf rfl rfl rfl) hS rfl rfl ?_)
      clear hf; intro a hf
      refine done_l ?_
      refine t_normal ?_
      refine c_false hf rfl ?_
      refine c_skip ?_
      refine t_normal ?_
      refine c_seq ?_
      refine c_region ?_
      refine step_l (st_rd hf (Wn.none rfl) (rd_move hf rfl rfl) hS rfl rfl ?_)
      clear hf; intro a hf
      refine step_l (st_call hf (Wn.none rfl) rfl rfl rfl fn13 (Len_c _ _ _ _ _ (hS.sel (by repeat (first | exact Sel.head | apply Sel.tail)))) rfl rfl ?_)
      clear hf hS; rintro v a w ⟨rfl, hS⟩ hf
      refine step_l (st_rdB hf (Wn.none rfl) (rd_eql hf rfl rfl rfl) hS rfl rfl ?_ ?_)
      · clear hf; intro hc7 a hf
        refine step_l (st_rd hf (Wn.none rfl) (rd_move hf rfl rfl) hS rfl rfl ?_)
        clear hf; intro a hf
        refine step_l (st_rd hf (Wn.some hf rfl rfl rfl rfl) (rd_move hf rfl rfl) hS rfl rfl ?_)
        clear hf; intro a hf
        refine step_l (st_rd hf (Wn.some hf rfl rfl rfl rfl) (rd_move hf rfl rfl) hS rfl rfl ?_)
        clear hf; intro a hf
        refine step_l (st_call hf (Wn.some hf rfl rfl rfl rfl) rfl rfl rfl fn14 (AtP_c _ _ _ (hS.sel (by repeat (first | exact Sel.head | apply Sel.tail)))) rfl rfl ?_)
        clear hf hS; rintro v a w ⟨rfl, hS⟩ hf
        refine step_l (st_rd hf (Wn.some hf rfl rfl rfl rfl) (rd_move hf rfl rfl) hS rfl rfl ?_)
        clear hf; intro a hf
        refine step_l (st_rdB hf (Wn.some hf rfl rfl rfl rfl) (rd_eql hf rfl rfl rfl) hS rfl rfl ?_ ?_)
        · clear hf; intro hc8 a hf
          refine step_l (st_rd hf (Wn.none rfl) (rd_pick_t hf rfl rfl rfl) hS rfl rfl ?_)
          clear hf; intro a hf
          refine step_l (st_rd hf (Wn.none rfl) (rd_move hf rfl rfl) hS rfl rfl ?_)
          clear hf; intro a hf
          refine step_l (st_rd hf (Wn.some hf rfl rfl rfl rfl) (rd_move hf rfl rfl) hS rfl rfl ?_)
          clear hf; intro a hf
          refine step_l (st_call hf (Wn.some hf rfl rfl rfl rfl) rfl rfl rfl fn14 (AtP_c _ _ _ (hS.sel (by repeat (first | exact Sel.head | apply Sel.tail)))) rfl rfl ?_)
          clear hf hS; rintro v a w ⟨rfl, hS⟩ hf
          refine step_l (st_rdB hf (Wn.some hf rfl rfl rfl rfl) (rd_eql hf rfl rfl rfl) hS rfl rfl ?_ ?_)
          · clear hf; intro hc9 a hf
            refine step_l (st_rd hf (Wn.none rfl) (rd_pick_t hf rfl rfl rfl) hS rfl rfl ?_)
            clear hf; intro a hf
            refine step_l (st_rd hf (Wn.none rfl) (rd_move hf rfl rfl) hS rfl rfl ?_)
            clear hf; intro a hf
            refine step_l (st_call hf (Wn.some hf rfl rfl rfl rfl) rfl rfl rfl fn15 (awake_c hS) rfl rfl ?_)
            clear hf hS; rintro v a w ⟨rfl, hS⟩ hf
            refine step_l (st_rd hf (Wn.none rfl) (rd_pick_t hf rfl rfl rfl) hS rfl rfl ?_)
            clear hf; intro a hf
            refine step_l (st_rd hf (Wn.none rfl) (rd_assign hf rfl rfl) hS rfl rfl ?_)
            clear hf; intro a hf
            refine done_l ?_
            refine t_normal ?_
            refine c_ret ?_
            refine e_res1 hf.defers rfl (res_tmp hf rfl .nil) ?_
            exact ⟨rfl, hS.sub (by repeat (first | exact Sub.refl | exact Sub.none | exact Sub.behind | (apply Sub.cons; (focus ((repeat (first | exact Sel.head | apply Sel.tail)); done))) | apply Sub.skip))⟩
          · clear hf; intro hc9 a hf
            exact absurd h128 hc9
        · clear hf; intro hc8 a hf
          exact absurd hv hc8
      · clear hf; intro hc7 a hf
        exact absurd rfl hc7
  · clear hf; intro hc2 a hf
    have hv : (((tAt 256 polyL i).toNat : Nat) : Int) = 0 := by rw [poly_out (i := i) (by omega)]; rfl
    refine step_l (st_rd hf (Wn.none rfl) (rd_move hf rfl rfl) hS rfl rfl ?_)
    clear hf; intro a hf
    refine step_l (st_skip hf (Wn.some hf rfl rfl rfl rfl) rfl rfl ?_)
    clear hf; intro a hf
    refine step_l (st_skip hf (Wn.some hf rfl rfl rfl rfl) rfl rfl ?_)
    clear hf; intro a hf
    refine step_l (st_rd hf (Wn.none rfl) (rd_pick_f hf rfl rfl rfl) hS rfl rfl ?_)
    clear hf; intro a hf
    refine done_l ?_
    refine t_normal ?_
    refine c_false hf rfl ?_
    refine c_skip ?_
    refine t_normal ?_
    refine c_seq ?_
    refine c_region ?_
    refine step_l (st_rd hf (Wn.none rfl) (rd_move hf rfl rfl) hS rfl rfl ?_)
    clear hf; intro a hf
    refine step_l (st_call hf (Wn.none rfl) rfl rfl rfl fn13 (Len_c _ _ _ _ _ (hS.sel (by repeat (first | exact Sel.head | apply Sel.tail)))) rfl rfl ?_)
    clear hf hS; rintro v a w ⟨rfl, hS⟩ hf
    refine step_l (st_rdB hf (Wn.none rfl) (rd_eql hf rfl rfl rfl) hS rfl rfl ?_ ?_)
    · clear hf; intro hc10 a hf
      refine step_l (st_rd hf (Wn.none rfl) (rd_move hf rfl rfl) hS rfl rfl ?_)
      clear hf; intro a hf
      refine step_l (st_rd hf (Wn.some hf rfl rfl rfl rfl) (rd_move hf rfl rfl) hS rfl rfl ?_)
      clear hf; intro a hf
      refine step_l (st_rd hf (Wn.some hf rfl rfl rfl rfl) (rd_move hf rfl rfl) hS rfl rfl ?_)
      clear hf; intro a hf
      refine step_l (st_call hf (Wn.some hf rfl rfl rfl rfl) rfl rfl rfl fn14 (AtP_c _ _ _ (hS.sel (by repeat (first | exact Sel.head | apply Sel.tail)))) rfl rfl ?_)
      clear hf hS; rintro v a w ⟨rfl, hS⟩ hf
      refine step_l (st_rd hf (Wn.some hf rfl rfl rfl rfl) (rd_move hf rfl rfl) hS rfl rfl ?_)
      clear hf; intro a hf
      refine step_l (st_rdB hf (Wn.some hf rfl rfl rfl rfl) (rd_eql hf rfl rfl rfl) hS rfl rfl ?_ ?_)
      · clear hf; intro hc11 a hf
        refine step_l (st_rd hf (Wn.none rfl) (rd_pick_t hf rfl rfl rfl) hS rfl rfl ?_)
        clear hf; intro a hf
        refine step_l (st_rd hf (Wn.none rfl) (rd_move hf rfl rfl) hS rfl rfl ?_)
        clear hf; intro a hf
        refine step_l (st_rd hf (Wn.some hf rfl rfl rfl rfl) (rd_move hf rfl rfl) hS rfl rfl ?_)
        clear hf; intro a hf
        refine step_l (st_call hf (Wn.some hf rfl rfl rfl rfl) rfl rfl rfl fn14 (AtP_c _ _ _ (hS.sel (by repeat (first | exact Sel.head | apply Sel.tail)))) rfl rfl ?_)
        clear hf hS; rintro v a w ⟨rfl, hS⟩ hf
        refine step_l (st_rdB hf (Wn.some hf rfl rfl rfl rfl) (rd_eql hf rfl rfl rfl) hS rfl rfl ?_ ?_)
        · clear hf; intro hc12 a hf
          refine step_l (st_rd hf (Wn.none rfl) (rd_pick_t hf rfl rfl rfl) hS rfl rfl ?_)
          clear hf; intro a hf
          refine step_l (st_rd hf (Wn.none rfl) (rd_move hf rfl rfl) hS rfl rfl ?_)
          clear hf; intro a hf
          refine step_l (st_call hf (Wn.some hf rfl rfl rfl rfl) rfl rfl rfl fn15 (awake_c hS) rfl rfl ?_)
          clear hf hS; rintro v a w ⟨rfl, hS⟩ hf
          refine step_l (st_rd hf (Wn.none rfl) (rd_pick_t hf rfl rfl rfl) hS rfl rfl ?_)
          clear hf; intro a hf
          refine step_l (st_rd hf (Wn.none rfl) (rd_assign hf rfl rfl) hS rfl rfl ?_)
          clear hf; intro a hf
          refine done_l ?_
          refine t_normal ?_
          refine c_ret ?_
          refine e_res1 hf.defers rfl (res_tmp hf rfl .nil) ?_
          exact ⟨rfl, hS.sub (by repeat (first | exact Sub.refl | exact Sub.none | exact Sub.behind | (apply Sub.cons; (focus ((repeat (first | exact Sel.head | apply Sel.tail)); done))) | apply Sub.skip))⟩
        · clear hf; intro hc12 a hf
          exact absurd h128 hc12
      · clear hf; intro hc11 a hf
        exact absurd hv hc11
    · clear hf; intro hc10 a hf
      exact absurd rfl hc10

end Go.Proofs.Ytmjfmcgpmlfnbaa
