/-
  The statement MemberRefutes, walked.
  Conditions: none.
-/
import Derived.Test.YtgmbhbnhfmfidaaMem
namespace Go.Proofs.Ytgmbhbnhfmfidaa
open Go Go.Sl
set_option linter.unusedVariables false
set_option linter.unusedSimpArgs false
set_option maxHeartbeats 4000000 in
theorem MemberRefutes_c (s i t j : Int) {W : World} {R : List HP} {w : World} (hS : Sat W R w) : Calls Try.prog 5 [.agg #[.int .i64 s, .int .i64 i], .agg #[.int .i64 t, .int .i64 j]].toArray w (Ret fun v w' => v = .bool true ∧ Sat W R w') := by
  refine fn_start 68 Try.func5 rfl rfl rfl ?_
  intro a hf
  refine c_seq ?_
  refine c_region ?_
  refine step_l (st_box hf (Wn.none rfl) hS rfl rfl (by rfl) rfl rfl ?_)
  clear hf hS; intro b_1 a w hf hS
  refine step_l (st_box hf (Wn.none rfl) hS rfl rfl (by rfl) rfl rfl ?_)
  clear hf hS; intro b_2 a w hf hS
  refine step_l (st_rd hf (Wn.none rfl) (rd_assign hf rfl rfl) hS rfl rfl ?_)
  clear hf; intro a hf
  refine done_l ?_
  refine t_normal ?_
  refine c_seq ?_
  refine c_seq ?_
  refine c_region ?_
  refine step_l (st_rd hf (Wn.none rfl) (rd_loadN hf rfl rfl ag23 sz23 (by intro _ h; exact loadN_of h (by repeat (first | exact Sel.head | apply Sel.tail)) (by repeat (first | exact Seg.nil | apply Seg.cons | apply Seg.succ)) )) hS rfl rfl ?_)
  clear hf; intro a hf
  refine step_l (st_call hf (Wn.none rfl) rfl rfl rfl fn14 (May_c _ _ hS) rfl rfl ?_)
  clear hf hS; rintro v a w ⟨rfl, hS⟩ hf
  first | refine split_dec (d := 8) hf rfl ?_ ?_ | refine split_bool (d := 8) hf rfl ?_ ?_
  · clear hf; intro hc3 hf
    first
    | ((exfalso; clear hf hS; (try clear hT); first | contradiction | ((try simp only [decide_eq_decide, decide_eq_true_eq, decide_eq_false_iff_not, Bool.not_eq_true', Bool.not_eq_false', not_true_eq_false, not_false_eq_true] at *) <;> (try simp only [mayP, leqP, refP, refS, refI, joinS, joinI] at *) <;> omega)); done)
    | (
      refine step_l (st_rd hf (Wn.none rfl) (rd_not hf rfl rfl) hS rfl rfl ?_)
      clear hf; intro a hf
      refine step_l (st_rd hf (Wn.none rfl) (rd_move hf rfl rfl) hS rfl rfl ?_)
      clear hf; intro a hf
      refine step_l (st_rd hf (Wn.some hf rfl rfl rfl rfl) (rd_loadN hf rfl rfl ag23 sz23 (by intro _ h; exact loadN_of h (by repeat (first | exact Sel.head | apply Sel.tail)) (by repeat (first | exact Seg.nil | apply Seg.cons | apply Seg.succ)) )) hS rfl rfl ?_)
      clear hf; intro a hf
      refine step_l (st_call hf (Wn.some hf rfl rfl rfl rfl) rfl rfl rfl fn14 (May_c _ _ hS) rfl rfl ?_)
      clear hf hS; rintro v a w ⟨rfl, hS⟩ hf
      first | refine split_dec (d := 12) hf rfl ?_ ?_ | refine split_bool (d := 12) hf rfl ?_ ?_
      · clear hf; intro hc4 hf
        first
        | ((exfalso; clear hf hS; (try clear hT); first | contradiction | ((try simp only [decide_eq_decide, decide_eq_true_eq, decide_eq_false_iff_not, Bool.not_eq_true', Bool.not_eq_false', not_true_eq_false, not_false_eq_true] at *) <;> (try simp only [mayP, leqP, refP, refS, refI, joinS, joinI] at *) <;> omega)); done)
        | (
          refine step_l (st_rd hf (Wn.some hf rfl rfl rfl rfl) (rd_not hf rfl rfl) hS rfl rfl ?_)
          clear hf; intro a hf
          refine step_l (st_rd hf (Wn.none rfl) (rd_pick_f hf rfl rfl rfl) hS rfl rfl ?_)
          clear hf; intro a hf
          refine step_l (st_rd hf (Wn.none rfl) (rd_move hf rfl rfl) hS rfl rfl ?_)
          clear hf; intro a hf
          refine step_l (st_rd hf (Wn.some hf rfl rfl rfl rfl) (rd_fieldAddrB hf rfl rfl fb23_0 rfl) hS rfl rfl ?_)
          clear hf; intro a hf
          refine step_l (st_rd hf (Wn.some hf rfl rfl rfl rfl) (rd_load1 hf rfl rfl ag3 (by intro _ h; first | exact h.cell (by repeat (first | exact Sel.head | apply Sel.tail)) (by rfl))) hS rfl rfl ?_)
          clear hf; intro a hf
          refine step_l (st_rdB hf (Wn.some hf rfl rfl rfl rfl) (rd_neq hf rfl rfl rfl) hS rfl rfl ?_ ?_)
          · clear hf; intro hc5 a hf
            first
            | ((exfalso; clear hf hS; (try clear hT); first | contradiction | ((try simp only [decide_eq_decide, decide_eq_true_eq, decide_eq_false_iff_not, Bool.not_eq_true', Bool.not_eq_false', not_true_eq_false, not_false_eq_true] at *) <;> (try simp only [mayP, leqP, refP, refS, refI, joinS, joinI] at *) <;> omega)); done)
            | (
              refine step_l (st_rd hf (Wn.none rfl) (rd_pick_f hf rfl rfl rfl) hS rfl rfl ?_)
              clear hf; intro a hf
              refine step_l (st_rd hf (Wn.none rfl) (rd_move hf rfl rfl) hS rfl rfl ?_)
              clear hf; intro a hf
              refine step_l (st_skip hf (Wn.some hf rfl rfl rfl rfl) rfl rfl ?_)
              clear hf; intro a hf
              refine step_l (st_skip hf (Wn.some hf rfl rfl rfl rfl) rfl rfl ?_)
              clear hf; intro a hf
              refine step_l (st_skip hf (Wn.some hf rfl rfl rfl rfl) rfl rfl ?_)
              clear hf; intro a hf
              refine step_l (st_rd hf (Wn.none rfl) (rd_pick_t hf rfl rfl rfl) hS rfl rfl ?_)
              clear hf; intro a hf
              refine step_l (st_rd hf (Wn.none rfl) (rd_move hf rfl rfl) hS rfl rfl ?_)
              clear hf; intro a hf
              refine step_l (st_skip hf (Wn.some hf rfl rfl rfl rfl) rfl rfl ?_)
              clear hf; intro a hf
              refine step_l (st_skip hf (Wn.some hf rfl rfl rfl rfl) rfl rfl ?_)
              clear hf; intro a hf
              refine step_l (st_skip hf (Wn.some hf rfl rfl rfl rfl) rfl rfl ?_)
              clear hf; intro a hf
              refine step_l (st_rd hf (Wn.none rfl) (rd_pick_t hf rfl rfl rfl) hS rfl rfl ?_)
              clear hf; intro a hf
              refine done_l ?_
              refine t_normal ?_
              refine c_true hf rfl ?_
              refine c_seq ?_
              refine c_region ?_
              refine step_l (st_call hf (Wn.none rfl) rfl rfl rfl fn15 (awake_c hS) rfl rfl ?_)
              clear hf hS; rintro v a w ⟨rfl, hS⟩ hf
              refine step_l (st_rd hf (Wn.none rfl) (rd_assign hf rfl rfl) hS rfl rfl ?_)
              clear hf; intro a hf
              refine done_l ?_
              refine t_normal ?_
              refine c_ret ?_
              refine t_ret ?_
              refine e_res1 hf.defers rfl (res_tmp hf rfl .nil) ?_
              refine ⟨?_, hS.sub (by repeat (first | exact Sub.refl | exact Sub.none | (apply Sub.cons; (focus ((repeat (first | exact Sel.head | apply Sel.tail)); done))) | apply Sub.skip))⟩
              clear hf hS
              rfl
              )
          · clear hf; intro hc5 a hf
            first
            | ((exfalso; clear hf hS; (try clear hT); first | contradiction | ((try simp only [decide_eq_decide, decide_eq_true_eq, decide_eq_false_iff_not, Bool.not_eq_true', Bool.not_eq_false', not_true_eq_false, not_false_eq_true] at *) <;> (try simp only [mayP, leqP, refP, refS, refI, joinS, joinI] at *) <;> omega)); done)
            | (
              refine step_l (st_rd hf (Wn.none rfl) (rd_pick_f hf rfl rfl rfl) hS rfl rfl ?_)
              clear hf; intro a hf
              refine step_l (st_rd hf (Wn.none rfl) (rd_move hf rfl rfl) hS rfl rfl ?_)
              clear hf; intro a hf
              refine step_l (st_rd hf (Wn.some hf rfl rfl rfl rfl) (rd_fieldAddrB hf rfl rfl fb23_1 rfl) hS rfl rfl ?_)
              clear hf; intro a hf
              refine step_l (st_rd hf (Wn.some hf rfl rfl rfl rfl) (rd_load1 hf rfl rfl ag2 (by intro _ h; first | exact h.cell (by repeat (first | exact Sel.head | apply Sel.tail)) (by rfl))) hS rfl rfl ?_)
              clear hf; intro a hf
              refine step_l (st_rdB hf (Wn.some hf rfl rfl rfl rfl) (rd_geq hf rfl rfl rfl) hS rfl rfl ?_ ?_)
              · clear hf; intro hc6 a hf
                first
                | ((exfalso; clear hf hS; (try clear hT); first | contradiction | ((try simp only [decide_eq_decide, decide_eq_true_eq, decide_eq_false_iff_not, Bool.not_eq_true', Bool.not_eq_false', not_true_eq_false, not_false_eq_true] at *) <;> (try simp only [mayP, leqP, refP, refS, refI, joinS, joinI] at *) <;> omega)); done)
                | (
                  refine step_l (st_rd hf (Wn.none rfl) (rd_pick_f hf rfl rfl rfl) hS rfl rfl ?_)
                  clear hf; intro a hf
                  refine step_l (st_rd hf (Wn.none rfl) (rd_move hf rfl rfl) hS rfl rfl ?_)
                  clear hf; intro a hf
                  refine step_l (st_skip hf (Wn.some hf rfl rfl rfl rfl) rfl rfl ?_)
                  clear hf; intro a hf
                  refine step_l (st_skip hf (Wn.some hf rfl rfl rfl rfl) rfl rfl ?_)
                  clear hf; intro a hf
                  refine step_l (st_skip hf (Wn.some hf rfl rfl rfl rfl) rfl rfl ?_)
                  clear hf; intro a hf
                  refine step_l (st_rd hf (Wn.none rfl) (rd_pick_t hf rfl rfl rfl) hS rfl rfl ?_)
                  clear hf; intro a hf
                  refine done_l ?_
                  refine t_normal ?_
                  refine c_true hf rfl ?_
                  refine c_seq ?_
                  refine c_region ?_
                  refine step_l (st_call hf (Wn.none rfl) rfl rfl rfl fn15 (awake_c hS) rfl rfl ?_)
                  clear hf hS; rintro v a w ⟨rfl, hS⟩ hf
                  refine step_l (st_rd hf (Wn.none rfl) (rd_assign hf rfl rfl) hS rfl rfl ?_)
                  clear hf; intro a hf
                  refine done_l ?_
                  refine t_normal ?_
                  refine c_ret ?_
                  refine t_ret ?_
                  refine e_res1 hf.defers rfl (res_tmp hf rfl .nil) ?_
                  refine ⟨?_, hS.sub (by repeat (first | exact Sub.refl | exact Sub.none | (apply Sub.cons; (focus ((repeat (first | exact Sel.head | apply Sel.tail)); done))) | apply Sub.skip))⟩
                  clear hf hS
                  rfl
                  )
              · clear hf; intro hc6 a hf
                first
                | ((exfalso; clear hf hS; (try clear hT); first | contradiction | ((try simp only [decide_eq_decide, decide_eq_true_eq, decide_eq_false_iff_not, Bool.not_eq_true', Bool.not_eq_false', not_true_eq_false, not_false_eq_true] at *) <;> (try simp only [mayP, leqP, refP, refS, refI, joinS, joinI] at *) <;> omega)); done)
                | (
                  refine step_l (st_rd hf (Wn.none rfl) (rd_pick_f hf rfl rfl rfl) hS rfl rfl ?_)
                  clear hf; intro a hf
                  refine step_l (st_rd hf (Wn.none rfl) (rd_move hf rfl rfl) hS rfl rfl ?_)
                  clear hf; intro a hf
                  refine step_l (st_rd hf (Wn.some hf rfl rfl rfl rfl) (rd_fieldAddrB hf rfl rfl fb23_1 rfl) hS rfl rfl ?_)
                  clear hf; intro a hf
                  refine step_l (st_rd hf (Wn.some hf rfl rfl rfl rfl) (rd_load1 hf rfl rfl ag2 (by intro _ h; first | exact h.cell (by repeat (first | exact Sel.head | apply Sel.tail)) (by rfl))) hS rfl rfl ?_)
                  clear hf; intro a hf
                  refine step_l (st_rdB hf (Wn.some hf rfl rfl rfl rfl) (rd_geq hf rfl rfl rfl) hS rfl rfl ?_ ?_)
                  · clear hf; intro hc7 a hf
                    first
                    | ((exfalso; clear hf hS; (try clear hT); first | contradiction | ((try simp only [decide_eq_decide, decide_eq_true_eq, decide_eq_false_iff_not, Bool.not_eq_true', Bool.not_eq_false', not_true_eq_false, not_false_eq_true] at *) <;> (try simp only [mayP, leqP, refP, refS, refI, joinS, joinI] at *) <;> omega)); done)
                    | (
                      refine step_l (st_rd hf (Wn.none rfl) (rd_pick_f hf rfl rfl rfl) hS rfl rfl ?_)
                      clear hf; intro a hf
                      refine done_l ?_
                      refine t_normal ?_
                      refine c_true hf rfl ?_
                      refine c_seq ?_
                      refine c_region ?_
                      refine step_l (st_call hf (Wn.none rfl) rfl rfl rfl fn15 (awake_c hS) rfl rfl ?_)
                      clear hf hS; rintro v a w ⟨rfl, hS⟩ hf
                      refine step_l (st_rd hf (Wn.none rfl) (rd_assign hf rfl rfl) hS rfl rfl ?_)
                      clear hf; intro a hf
                      refine done_l ?_
                      refine t_normal ?_
                      refine c_ret ?_
                      refine t_ret ?_
                      refine e_res1 hf.defers rfl (res_tmp hf rfl .nil) ?_
                      refine ⟨?_, hS.sub (by repeat (first | exact Sub.refl | exact Sub.none | (apply Sub.cons; (focus ((repeat (first | exact Sel.head | apply Sel.tail)); done))) | apply Sub.skip))⟩
                      clear hf hS
                      rfl
                      )
                  · clear hf; intro hc7 a hf
                    first
                    | ((exfalso; clear hf hS; (try clear hT); first | contradiction | ((try simp only [decide_eq_decide, decide_eq_true_eq, decide_eq_false_iff_not, Bool.not_eq_true', Bool.not_eq_false', not_true_eq_false, not_false_eq_true] at *) <;> (try simp only [mayP, leqP, refP, refS, refI, joinS, joinI] at *) <;> omega)); done)
                    | (
                      refine step_l (st_rd hf (Wn.none rfl) (rd_pick_f hf rfl rfl rfl) hS rfl rfl ?_)
                      clear hf; intro a hf
                      refine done_l ?_
                      refine t_normal ?_
                      refine c_false hf rfl ?_
                      refine c_skip ?_
                      refine t_normal ?_
                      refine c_seq ?_
                      refine c_region ?_
                      refine step_l (st_rd hf (Wn.none rfl) (rd_loadN hf rfl rfl ag23 sz23 (by intro _ h; exact loadN_of h (by repeat (first | exact Sel.head | apply Sel.tail)) (by repeat (first | exact Seg.nil | apply Seg.cons | apply Seg.succ)) )) hS rfl rfl ?_)
                      clear hf; intro a hf
                      refine step_l (st_rd hf (Wn.none rfl) (rd_loadN hf rfl rfl ag23 sz23 (by intro _ h; exact loadN_of h (by repeat (first | exact Sel.head | apply Sel.tail)) (by repeat (first | exact Seg.nil | apply Seg.cons | apply Seg.succ)) )) hS rfl rfl ?_)
                      clear hf; intro a hf
                      refine step_l (st_call hf (Wn.none rfl) rfl rfl rfl fn18 (Refute_c _ _ _ _ hS) rfl rfl ?_)
                      clear hf hS; rintro v a w ⟨rfl, hS⟩ hf
                      refine step_l (st_rd hf (Wn.none rfl) (rd_move hf rfl rfl) hS rfl rfl ?_)
                      clear hf; intro a hf
                      refine step_l (st_rd hf (Wn.none rfl) (rd_extract hf rfl rfl rfl) hS rfl rfl ?_)
                      clear hf; intro a hf
                      refine step_l (st_rd hf (Wn.none rfl) (rd_extract hf rfl rfl rfl) hS rfl rfl ?_)
                      clear hf; intro a hf
                      refine step_l (st_alloc hf (Wn.none rfl) hS rfl zr23 (by rfl) rfl rfl ?_)
                      clear hf hS; intro b_8 a w hf hS
                      refine step_l (st_store hf (Wn.none rfl) hS rfl rfl rfl (by rfl) sz23 (by rfl) (by rfl) (by repeat (first | exact Sel.head | apply Sel.tail)) (by repeat (first | exact Put.nil | apply Put.cons | apply Put.succ)) rfl ?_)
                      clear hf hS; intro a w hf hS
                      refine step_l (st_rd hf (Wn.none rfl) (rd_assign hf rfl rfl) hS rfl rfl ?_)
                      clear hf; intro a hf
                      refine done_l ?_
                      refine t_normal ?_
                      refine c_seq ?_
                      refine any_begin mixed hS.drew ?_
                      replace hS := hS.drew
                      have hT := hS
                      refine any_take (i := 0) hf rfl (by kernel_rfl) (by kernel_rfl) (by kernel_rfl) (fun _ _ _ h => h) (Wn.none rfl) (rd_fieldAddrB hf rfl rfl fb23_0 rfl) hT rfl rfl ?_
                      clear hf; intro a hf
                      refine any_take (i := 1) hf rfl (by kernel_rfl) (by kernel_rfl) (by kernel_rfl) (fun _ _ _ h => h) (Wn.none rfl) (rd_load1 hf rfl rfl ag3 (by intro _ h; first | exact h.cell (by repeat (first | exact Sel.head | apply Sel.tail)) (by rfl))) hT rfl rfl ?_
                      clear hf; intro a hf
                      refine any_takeB (i := 2) hf rfl (by kernel_rfl) (by kernel_rfl) (by kernel_rfl) (fun _ _ _ _ h => h) (Wn.none rfl) (rd_eql hf rfl rfl rfl) hT rfl rfl ?_ ?_
                      · clear hf; intro hc9 a hf
                        first
                        | ((exfalso; clear hf hS; (try clear hT); first | contradiction | ((try simp only [decide_eq_decide, decide_eq_true_eq, decide_eq_false_iff_not, Bool.not_eq_true', Bool.not_eq_false', not_true_eq_false, not_false_eq_true] at *) <;> (try simp only [mayP, leqP, refP, refS, refI, joinS, joinI] at *) <;> omega)); done)
                        | (
                          refine any_take (i := 3) hf rfl (by kernel_rfl) (by kernel_rfl) (by kernel_rfl) (fun _ _ _ h => h) (Wn.none rfl) (rd_move hf rfl rfl) hT rfl rfl ?_
                          clear hf; intro a hf
                          refine any_take (i := 4) hf rfl (by kernel_rfl) (by kernel_rfl) (by kernel_rfl) (fun _ _ _ h => h) (Wn.some hf rfl rfl rfl rfl) (rd_fieldAddrB hf rfl rfl fb23_1 rfl) hT rfl rfl ?_
                          clear hf; intro a hf
                          refine any_take (i := 5) hf rfl (by kernel_rfl) (by kernel_rfl) (by kernel_rfl) (fun _ _ _ h => h) (Wn.some hf rfl rfl rfl rfl) (rd_load1 hf rfl rfl ag2 (by intro _ h; first | exact h.cell (by repeat (first | exact Sel.head | apply Sel.tail)) (by rfl))) hT rfl rfl ?_
                          clear hf; intro a hf
                          refine any_take (i := 6) hf rfl (by kernel_rfl) (by kernel_rfl) (by kernel_rfl) (fun _ _ _ h => h) (Wn.some hf rfl rfl rfl rfl) (rd_fieldAddrB hf rfl rfl fb23_1 rfl) hT rfl rfl ?_
                          clear hf; intro a hf
                          refine any_take (i := 7) hf rfl (by kernel_rfl) (by kernel_rfl) (by kernel_rfl) (fun _ _ _ h => h) (Wn.some hf rfl rfl rfl rfl) (rd_load1 hf rfl rfl ag2 (by intro _ h; first | exact h.cell (by repeat (first | exact Sel.head | apply Sel.tail)) (by rfl))) hT rfl rfl ?_
                          clear hf; intro a hf
                          refine any_takeB (i := 8) hf rfl (by kernel_rfl) (by kernel_rfl) (by kernel_rfl) (fun _ _ _ _ h => h) (Wn.some hf rfl rfl rfl rfl) (rd_geq hf rfl rfl rfl) hT rfl rfl ?_ ?_
                          · clear hf; intro hc10 a hf
                            first
                            | ((exfalso; clear hf hS; (try clear hT); first | contradiction | ((try simp only [decide_eq_decide, decide_eq_true_eq, decide_eq_false_iff_not, Bool.not_eq_true', Bool.not_eq_false', not_true_eq_false, not_false_eq_true] at *) <;> (try simp only [mayP, leqP, refP, refS, refI, joinS, joinI] at *) <;> omega)); done)
                            | (
                              refine any_take (i := 9) hf rfl (by kernel_rfl) (by kernel_rfl) (by kernel_rfl) (fun _ _ _ h => h) (Wn.none rfl) (rd_pick_t hf rfl rfl rfl) hT rfl rfl ?_
                              clear hf; intro a hf
                              refine any_take (i := 10) hf rfl (by kernel_rfl) (by kernel_rfl) (by kernel_rfl) (fun _ _ _ h => h) (Wn.none rfl) (rd_move hf rfl rfl) hT rfl rfl ?_
                              clear hf; intro a hf
                              refine any_take (i := 11) hf rfl (by kernel_rfl) (by kernel_rfl) (by kernel_rfl) (fun _ _ _ h => h) (Wn.some hf rfl rfl rfl rfl) (rd_loadN hf rfl rfl ag23 sz23 (by intro _ h; exact loadN_of h (by repeat (first | exact Sel.head | apply Sel.tail)) (by repeat (first | exact Seg.nil | apply Seg.cons | apply Seg.succ)) )) hT rfl rfl ?_
                              clear hf; intro a hf
                              refine any_take (i := 12) hf rfl (by kernel_rfl) (by kernel_rfl) (by kernel_rfl) (fun _ _ _ h => h) (Wn.some hf rfl rfl rfl rfl) (rd_loadN hf rfl rfl ag23 sz23 (by intro _ h; exact loadN_of h (by repeat (first | exact Sel.head | apply Sel.tail)) (by repeat (first | exact Seg.nil | apply Seg.cons | apply Seg.succ)) )) hT rfl rfl ?_
                              clear hf; intro a hf
                              refine any_take (i := 14) hf rfl (by kernel_rfl) (by kernel_rfl) (by kernel_rfl) (fun _ _ _ h => h) (Wn.some hf rfl rfl rfl rfl) (rd_loadN hf rfl rfl ag23 sz23 (by intro _ h; exact loadN_of h (by repeat (first | exact Sel.head | apply Sel.tail)) (by repeat (first | exact Seg.nil | apply Seg.cons | apply Seg.succ)) )) hT rfl rfl ?_
                              clear hf; intro a hf
                              refine any_one (i := 13) rfl (by kernel_rfl) (st_call hf (Wn.some hf rfl rfl rfl rfl) rfl rfl rfl fn16 (Join_c _ _ _ _ hS) rfl rfl ?_)
                              clear hf hS; rintro v a w ⟨rfl, hS⟩ hf
                              replace hT := hS.sub' hT (by repeat (first | exact Sub.refl | exact Sub.none | (apply Sub.cons; (focus ((repeat (first | exact Sel.head | apply Sel.tail)); done))) | apply Sub.skip))
                              refine ⟨hT, ?_⟩
                              refine any_takeB (i := 15) hf rfl (by kernel_rfl) (by kernel_rfl) (by kernel_rfl) (fun _ _ _ _ h => h) (Wn.some hf rfl rfl rfl rfl) (rd_eqlM hf rfl rfl rfl) hT rfl rfl ?_ ?_
                              · clear hf; intro hc11 a hf
                                first
                                | ((exfalso; clear hf hS; (try clear hT); first | contradiction | ((try simp only [decide_eq_decide, decide_eq_true_eq, decide_eq_false_iff_not, Bool.not_eq_true', Bool.not_eq_false', not_true_eq_false, not_false_eq_true] at *) <;> (try simp only [mayP, leqP, refP, refS, refI, joinS, joinI] at *) <;> omega)); done)
                                | (
                                  refine any_take (i := 16) hf rfl (by kernel_rfl) (by kernel_rfl) (by kernel_rfl) (fun _ _ _ h => h) (Wn.none rfl) (rd_pick_t hf rfl rfl rfl) hT rfl rfl ?_
                                  clear hf; intro a hf
                                  refine any_take (i := 17) hf rfl (by kernel_rfl) (by kernel_rfl) (by kernel_rfl) (fun _ _ _ h => h) (Wn.none rfl) (rd_move hf rfl rfl) hT rfl rfl ?_
                                  clear hf; intro a hf
                                  refine any_take (i := 18) hf rfl (by kernel_rfl) (by kernel_rfl) (by kernel_rfl) (fun _ _ _ h => h) (Wn.some hf rfl rfl rfl rfl) (rd_move hf rfl rfl) hT rfl rfl ?_
                                  clear hf; intro a hf
                                  refine any_take (i := 19) hf rfl (by kernel_rfl) (by kernel_rfl) (by kernel_rfl) (fun _ _ _ h => h) (Wn.some hf rfl rfl rfl rfl) (rd_loadN hf rfl rfl ag23 sz23 (by intro _ h; exact loadN_of h (by repeat (first | exact Sel.head | apply Sel.tail)) (by repeat (first | exact Seg.nil | apply Seg.cons | apply Seg.succ)) )) hT rfl rfl ?_
                                  clear hf; intro a hf
                                  refine any_take (i := 20) hf rfl (by kernel_rfl) (by kernel_rfl) (by kernel_rfl) (fun _ _ _ h => h) (Wn.some hf rfl rfl rfl rfl) (rd_loadN hf rfl rfl ag23 sz23 (by intro _ h; exact loadN_of h (by repeat (first | exact Sel.head | apply Sel.tail)) (by repeat (first | exact Seg.nil | apply Seg.cons | apply Seg.succ)) )) hT rfl rfl ?_
                                  clear hf; intro a hf
                                  refine any_take (i := 21) hf rfl (by kernel_rfl) (by kernel_rfl) (by kernel_rfl) (fun _ _ _ h => h) (Wn.some hf rfl rfl rfl rfl) (rd_neqM hf rfl rfl rfl) hT rfl rfl ?_
                                  clear hf; intro a hf
                                  refine any_takeB (i := 22) hf rfl (by kernel_rfl) (by kernel_rfl) (by kernel_rfl) (fun _ _ _ _ h => h) (Wn.some hf rfl rfl rfl rfl) (rd_eqlBool hf rfl rfl rfl Try.underlying4) hT rfl rfl ?_ ?_
                                  · clear hf; intro hc12 a hf
                                    first
                                    | ((exfalso; clear hf hS; (try clear hT); first | contradiction | ((try simp only [decide_eq_decide, decide_eq_true_eq, decide_eq_false_iff_not, Bool.not_eq_true', Bool.not_eq_false', not_true_eq_false, not_false_eq_true] at *) <;> (try simp only [mayP, leqP, refP, refS, refI, joinS, joinI] at *) <;> omega)); done)
                                    | (
                                      refine any_take (i := 23) hf rfl (by kernel_rfl) (by kernel_rfl) (by kernel_rfl) (fun _ _ _ h => h) (Wn.none rfl) (rd_pick_t hf rfl rfl rfl) hT rfl rfl ?_
                                      clear hf; intro a hf
                                      refine any_take (i := 24) hf rfl (by kernel_rfl) (by kernel_rfl) (by kernel_rfl) (fun _ _ _ h => h) (Wn.none rfl) (rd_move hf rfl rfl) hT rfl rfl ?_
                                      clear hf; intro a hf
                                      refine any_take (i := 25) hf rfl (by kernel_rfl) (by kernel_rfl) (by kernel_rfl) (fun _ _ _ h => h) (Wn.some hf rfl rfl rfl rfl) (rd_loadN hf rfl rfl ag23 sz23 (by intro _ h; exact loadN_of h (by repeat (first | exact Sel.head | apply Sel.tail)) (by repeat (first | exact Seg.nil | apply Seg.cons | apply Seg.succ)) )) hT rfl rfl ?_
                                      clear hf; intro a hf
                                      refine any_one (i := 26) rfl (by kernel_rfl) (st_call hf (Wn.some hf rfl rfl rfl rfl) rfl rfl rfl fn14 (May_c _ _ hS) rfl rfl ?_)
                                      clear hf hS; rintro v a w ⟨rfl, hS⟩ hf
                                      replace hT := hS.sub' hT (by repeat (first | exact Sub.refl | exact Sub.none | (apply Sub.cons; (focus ((repeat (first | exact Sel.head | apply Sel.tail)); done))) | apply Sub.skip))
                                      refine ⟨hT, ?_⟩
                                      first | refine split_dec (d := 63) hf rfl ?_ ?_ | refine split_bool (d := 63) hf rfl ?_ ?_
                                      · clear hf; intro hc13 hf
                                        first
                                        | ((exfalso; clear hf hS; (try clear hT); first | contradiction | ((try simp only [decide_eq_decide, decide_eq_true_eq, decide_eq_false_iff_not, Bool.not_eq_true', Bool.not_eq_false', not_true_eq_false, not_false_eq_true] at *) <;> (try simp only [mayP, leqP, refP, refS, refI, joinS, joinI] at *) <;> omega)); done)
                                        | (
                                          refine any_take (i := 27) hf rfl (by kernel_rfl) (by kernel_rfl) (by kernel_rfl) (fun _ _ _ h => h) (Wn.none rfl) (rd_pick_t hf rfl rfl rfl) hT rfl rfl ?_
                                          clear hf; intro a hf
                                          refine any_take (i := 28) hf rfl (by kernel_rfl) (by kernel_rfl) (by kernel_rfl) (fun _ _ _ h => h) (Wn.none rfl) (rd_move hf rfl rfl) hT rfl rfl ?_
                                          clear hf; intro a hf
                                          refine any_one (i := 29) rfl (by kernel_rfl) (st_call hf (Wn.some hf rfl rfl rfl rfl) rfl rfl rfl fn15 (awake_c hS) rfl rfl ?_)
                                          clear hf hS; rintro v a w ⟨rfl, hS⟩ hf
                                          replace hT := hS.sub' hT (by repeat (first | exact Sub.refl | exact Sub.none | (apply Sub.cons; (focus ((repeat (first | exact Sel.head | apply Sel.tail)); done))) | apply Sub.skip))
                                          refine ⟨hT, ?_⟩
                                          refine any_take (i := 30) hf rfl (by kernel_rfl) (by kernel_rfl) (by kernel_rfl) (fun _ _ _ h => h) (Wn.none rfl) (rd_pick_t hf rfl rfl rfl) hT rfl rfl ?_
                                          clear hf; intro a hf
                                          refine any_take (i := 31) hf rfl (by kernel_rfl) (by kernel_rfl) (by kernel_rfl) (fun _ _ _ h => h) (Wn.none rfl) (rd_assign hf rfl rfl) hT rfl rfl ?_
                                          clear hf; intro a hf
                                          refine any_done (by kernel_rfl) ?_
                                          refine t_normal ?_
                                          refine c_ret ?_
                                          refine e_res1 hf.defers rfl (res_tmp hf rfl .nil) ?_
                                          refine ⟨?_, hS.sub (by repeat (first | exact Sub.refl | exact Sub.none | (apply Sub.cons; (focus ((repeat (first | exact Sel.head | apply Sel.tail)); done))) | apply Sub.skip))⟩
                                          clear hf hS
                                          rfl
                                          )
                                      · clear hf; intro hc13 hf
                                        first
                                        | ((exfalso; clear hf hS; (try clear hT); first | contradiction | ((try simp only [decide_eq_decide, decide_eq_true_eq, decide_eq_false_iff_not, Bool.not_eq_true', Bool.not_eq_false', not_true_eq_false, not_false_eq_true] at *) <;> (try simp only [mayP, leqP, refP, refS, refI, joinS, joinI] at *) <;> omega)); done)
                                        | (
                                          refine any_take (i := 27) hf rfl (by kernel_rfl) (by kernel_rfl) (by kernel_rfl) (fun _ _ _ h => h) (Wn.none rfl) (rd_pick_t hf rfl rfl rfl) hT rfl rfl ?_
                                          clear hf; intro a hf
                                          refine any_take (i := 28) hf rfl (by kernel_rfl) (by kernel_rfl) (by kernel_rfl) (fun _ _ _ h => h) (Wn.none rfl) (rd_move hf rfl rfl) hT rfl rfl ?_
                                          clear hf; intro a hf
                                          refine any_skip (i := 29) hf rfl (by kernel_rfl) (by kernel_rfl) (by kernel_rfl) (fun _ _ _ h => h) (Wn.some hf rfl rfl rfl rfl) hT rfl rfl ?_
                                          clear hf; intro a hf
                                          refine any_take (i := 30) hf rfl (by kernel_rfl) (by kernel_rfl) (by kernel_rfl) (fun _ _ _ h => h) (Wn.none rfl) (rd_pick_f hf rfl rfl rfl) hT rfl rfl ?_
                                          clear hf; intro a hf
                                          refine any_take (i := 31) hf rfl (by kernel_rfl) (by kernel_rfl) (by kernel_rfl) (fun _ _ _ h => h) (Wn.none rfl) (rd_assign hf rfl rfl) hT rfl rfl ?_
                                          clear hf; intro a hf
                                          refine any_done (by kernel_rfl) ?_
                                          refine t_normal ?_
                                          refine c_ret ?_
                                          refine e_res1 hf.defers rfl (res_tmp hf rfl .nil) ?_
                                          refine ⟨?_, hS.sub (by repeat (first | exact Sub.refl | exact Sub.none | (apply Sub.cons; (focus ((repeat (first | exact Sel.head | apply Sel.tail)); done))) | apply Sub.skip))⟩
                                          clear hf hS
                                          rfl
                                          )
                                      )
                                  · clear hf; intro hc12 a hf
                                    first
                                    | ((exfalso; clear hf hS; (try clear hT); first | contradiction | ((try simp only [decide_eq_decide, decide_eq_true_eq, decide_eq_false_iff_not, Bool.not_eq_true', Bool.not_eq_false', not_true_eq_false, not_false_eq_true] at *) <;> (try simp only [mayP, leqP, refP, refS, refI, joinS, joinI] at *) <;> omega)); done)
                                    | (
                                      refine any_take (i := 23) hf rfl (by kernel_rfl) (by kernel_rfl) (by kernel_rfl) (fun _ _ _ h => h) (Wn.none rfl) (rd_pick_t hf rfl rfl rfl) hT rfl rfl ?_
                                      clear hf; intro a hf
                                      refine any_take (i := 24) hf rfl (by kernel_rfl) (by kernel_rfl) (by kernel_rfl) (fun _ _ _ h => h) (Wn.none rfl) (rd_move hf rfl rfl) hT rfl rfl ?_
                                      clear hf; intro a hf
                                      refine any_skip (i := 25) hf rfl (by kernel_rfl) (by kernel_rfl) (by kernel_rfl) (fun _ _ _ h => h) (Wn.some hf rfl rfl rfl rfl) hT rfl rfl ?_
                                      clear hf; intro a hf
                                      refine any_skip (i := 26) hf rfl (by kernel_rfl) (by kernel_rfl) (by kernel_rfl) (fun _ _ _ h => h) (Wn.some hf rfl rfl rfl rfl) hT rfl rfl ?_
                                      clear hf; intro a hf
                                      refine any_take (i := 27) hf rfl (by kernel_rfl) (by kernel_rfl) (by kernel_rfl) (fun _ _ _ h => h) (Wn.none rfl) (rd_pick_f hf rfl rfl rfl) hT rfl rfl ?_
                                      clear hf; intro a hf
                                      refine any_take (i := 28) hf rfl (by kernel_rfl) (by kernel_rfl) (by kernel_rfl) (fun _ _ _ h => h) (Wn.none rfl) (rd_move hf rfl rfl) hT rfl rfl ?_
                                      clear hf; intro a hf
                                      refine any_skip (i := 29) hf rfl (by kernel_rfl) (by kernel_rfl) (by kernel_rfl) (fun _ _ _ h => h) (Wn.some hf rfl rfl rfl rfl) hT rfl rfl ?_
                                      clear hf; intro a hf
                                      refine any_take (i := 30) hf rfl (by kernel_rfl) (by kernel_rfl) (by kernel_rfl) (fun _ _ _ h => h) (Wn.none rfl) (rd_pick_f hf rfl rfl rfl) hT rfl rfl ?_
                                      clear hf; intro a hf
                                      refine any_take (i := 31) hf rfl (by kernel_rfl) (by kernel_rfl) (by kernel_rfl) (fun _ _ _ h => h) (Wn.none rfl) (rd_assign hf rfl rfl) hT rfl rfl ?_
                                      clear hf; intro a hf
                                      refine any_done (by kernel_rfl) ?_
                                      refine t_normal ?_
                                      refine c_ret ?_
                                      refine e_res1 hf.defers rfl (res_tmp hf rfl .nil) ?_
                                      refine ⟨?_, hS.sub (by repeat (first | exact Sub.refl | exact Sub.none | (apply Sub.cons; (focus ((repeat (first | exact Sel.head | apply Sel.tail)); done))) | apply Sub.skip))⟩
                                      clear hf hS
                                      rfl
                                      )
                                  )
                              · clear hf; intro hc11 a hf
                                first
                                | ((exfalso; clear hf hS; (try clear hT); first | contradiction | ((try simp only [decide_eq_decide, decide_eq_true_eq, decide_eq_false_iff_not, Bool.not_eq_true', Bool.not_eq_false', not_true_eq_false, not_false_eq_true] at *) <;> (try simp only [mayP, leqP, refP, refS, refI, joinS, joinI] at *) <;> omega)); done)
                                | (
                                  refine any_take (i := 16) hf rfl (by kernel_rfl) (by kernel_rfl) (by kernel_rfl) (fun _ _ _ h => h) (Wn.none rfl) (rd_pick_t hf rfl rfl rfl) hT rfl rfl ?_
                                  clear hf; intro a hf
                                  refine any_take (i := 17) hf rfl (by kernel_rfl) (by kernel_rfl) (by kernel_rfl) (fun _ _ _ h => h) (Wn.none rfl) (rd_move hf rfl rfl) hT rfl rfl ?_
                                  clear hf; intro a hf
                                  refine any_skip (i := 18) hf rfl (by kernel_rfl) (by kernel_rfl) (by kernel_rfl) (fun _ _ _ h => h) (Wn.some hf rfl rfl rfl rfl) hT rfl rfl ?_
                                  clear hf; intro a hf
                                  refine any_skip (i := 19) hf rfl (by kernel_rfl) (by kernel_rfl) (by kernel_rfl) (fun _ _ _ h => h) (Wn.some hf rfl rfl rfl rfl) hT rfl rfl ?_
                                  clear hf; intro a hf
                                  refine any_skip (i := 20) hf rfl (by kernel_rfl) (by kernel_rfl) (by kernel_rfl) (fun _ _ _ h => h) (Wn.some hf rfl rfl rfl rfl) hT rfl rfl ?_
                                  clear hf; intro a hf
                                  refine any_skip (i := 21) hf rfl (by kernel_rfl) (by kernel_rfl) (by kernel_rfl) (fun _ _ _ h => h) (Wn.some hf rfl rfl rfl rfl) hT rfl rfl ?_
                                  clear hf; intro a hf
                                  refine any_skip (i := 22) hf rfl (by kernel_rfl) (by kernel_rfl) (by kernel_rfl) (fun _ _ _ h => h) (Wn.some hf rfl rfl rfl rfl) hT rfl rfl ?_
                                  clear hf; intro a hf
                                  refine any_take (i := 23) hf rfl (by kernel_rfl) (by kernel_rfl) (by kernel_rfl) (fun _ _ _ h => h) (Wn.none rfl) (rd_pick_f hf rfl rfl rfl) hT rfl rfl ?_
                                  clear hf; intro a hf
                                  refine any_take (i := 24) hf rfl (by kernel_rfl) (by kernel_rfl) (by kernel_rfl) (fun _ _ _ h => h) (Wn.none rfl) (rd_move hf rfl rfl) hT rfl rfl ?_
                                  clear hf; intro a hf
                                  refine any_skip (i := 25) hf rfl (by kernel_rfl) (by kernel_rfl) (by kernel_rfl) (fun _ _ _ h => h) (Wn.some hf rfl rfl rfl rfl) hT rfl rfl ?_
                                  clear hf; intro a hf
                                  refine any_skip (i := 26) hf rfl (by kernel_rfl) (by kernel_rfl) (by kernel_rfl) (fun _ _ _ h => h) (Wn.some hf rfl rfl rfl rfl) hT rfl rfl ?_
                                  clear hf; intro a hf
                                  refine any_take (i := 27) hf rfl (by kernel_rfl) (by kernel_rfl) (by kernel_rfl) (fun _ _ _ h => h) (Wn.none rfl) (rd_pick_f hf rfl rfl rfl) hT rfl rfl ?_
                                  clear hf; intro a hf
                                  refine any_take (i := 28) hf rfl (by kernel_rfl) (by kernel_rfl) (by kernel_rfl) (fun _ _ _ h => h) (Wn.none rfl) (rd_move hf rfl rfl) hT rfl rfl ?_
                                  clear hf; intro a hf
                                  refine any_skip (i := 29) hf rfl (by kernel_rfl) (by kernel_rfl) (by kernel_rfl) (fun _ _ _ h => h) (Wn.some hf rfl rfl rfl rfl) hT rfl rfl ?_
                                  clear hf; intro a hf
                                  refine any_take (i := 30) hf rfl (by kernel_rfl) (by kernel_rfl) (by kernel_rfl) (fun _ _ _ h => h) (Wn.none rfl) (rd_pick_f hf rfl rfl rfl) hT rfl rfl ?_
                                  clear hf; intro a hf
                                  refine any_take (i := 31) hf rfl (by kernel_rfl) (by kernel_rfl) (by kernel_rfl) (fun _ _ _ h => h) (Wn.none rfl) (rd_assign hf rfl rfl) hT rfl rfl ?_
                                  clear hf; intro a hf
                                  refine any_done (by kernel_rfl) ?_
                                  refine t_normal ?_
                                  refine c_ret ?_
                                  refine e_res1 hf.defers rfl (res_tmp hf rfl .nil) ?_
                                  refine ⟨?_, hS.sub (by repeat (first | exact Sub.refl | exact Sub.none | (apply Sub.cons; (focus ((repeat (first | exact Sel.head | apply Sel.tail)); done))) | apply Sub.skip))⟩
                                  clear hf hS
                                  rfl
                                  )
                              )
                          · clear hf; intro hc10 a hf
                            first
                            | ((exfalso; clear hf hS; (try clear hT); first | contradiction | ((try simp only [decide_eq_decide, decide_eq_true_eq, decide_eq_false_iff_not, Bool.not_eq_true', Bool.not_eq_false', not_true_eq_false, not_false_eq_true] at *) <;> (try simp only [mayP, leqP, refP, refS, refI, joinS, joinI] at *) <;> omega)); done)
                            | (
                              refine any_take (i := 9) hf rfl (by kernel_rfl) (by kernel_rfl) (by kernel_rfl) (fun _ _ _ h => h) (Wn.none rfl) (rd_pick_t hf rfl rfl rfl) hT rfl rfl ?_
                              clear hf; intro a hf
                              refine any_take (i := 10) hf rfl (by kernel_rfl) (by kernel_rfl) (by kernel_rfl) (fun _ _ _ h => h) (Wn.none rfl) (rd_move hf rfl rfl) hT rfl rfl ?_
                              clear hf; intro a hf
                              refine any_skip (i := 11) hf rfl (by kernel_rfl) (by kernel_rfl) (by kernel_rfl) (fun _ _ _ h => h) (Wn.some hf rfl rfl rfl rfl) hT rfl rfl ?_
                              clear hf; intro a hf
                              refine any_skip (i := 12) hf rfl (by kernel_rfl) (by kernel_rfl) (by kernel_rfl) (fun _ _ _ h => h) (Wn.some hf rfl rfl rfl rfl) hT rfl rfl ?_
                              clear hf; intro a hf
                              refine any_skip (i := 13) hf rfl (by kernel_rfl) (by kernel_rfl) (by kernel_rfl) (fun _ _ _ h => h) (Wn.some hf rfl rfl rfl rfl) hT rfl rfl ?_
                              clear hf; intro a hf
                              refine any_skip (i := 14) hf rfl (by kernel_rfl) (by kernel_rfl) (by kernel_rfl) (fun _ _ _ h => h) (Wn.some hf rfl rfl rfl rfl) hT rfl rfl ?_
                              clear hf; intro a hf
                              refine any_skip (i := 15) hf rfl (by kernel_rfl) (by kernel_rfl) (by kernel_rfl) (fun _ _ _ h => h) (Wn.some hf rfl rfl rfl rfl) hT rfl rfl ?_
                              clear hf; intro a hf
                              refine any_take (i := 16) hf rfl (by kernel_rfl) (by kernel_rfl) (by kernel_rfl) (fun _ _ _ h => h) (Wn.none rfl) (rd_pick_f hf rfl rfl rfl) hT rfl rfl ?_
                              clear hf; intro a hf
                              refine any_take (i := 17) hf rfl (by kernel_rfl) (by kernel_rfl) (by kernel_rfl) (fun _ _ _ h => h) (Wn.none rfl) (rd_move hf rfl rfl) hT rfl rfl ?_
                              clear hf; intro a hf
                              refine any_skip (i := 18) hf rfl (by kernel_rfl) (by kernel_rfl) (by kernel_rfl) (fun _ _ _ h => h) (Wn.some hf rfl rfl rfl rfl) hT rfl rfl ?_
                              clear hf; intro a hf
                              refine any_skip (i := 19) hf rfl (by kernel_rfl) (by kernel_rfl) (by kernel_rfl) (fun _ _ _ h => h) (Wn.some hf rfl rfl rfl rfl) hT rfl rfl ?_
                              clear hf; intro a hf
                              refine any_skip (i := 20) hf rfl (by kernel_rfl) (by kernel_rfl) (by kernel_rfl) (fun _ _ _ h => h) (Wn.some hf rfl rfl rfl rfl) hT rfl rfl ?_
                              clear hf; intro a hf
                              refine any_skip (i := 21) hf rfl (by kernel_rfl) (by kernel_rfl) (by kernel_rfl) (fun _ _ _ h => h) (Wn.some hf rfl rfl rfl rfl) hT rfl rfl ?_
                              clear hf; intro a hf
                              refine any_skip (i := 22) hf rfl (by kernel_rfl) (by kernel_rfl) (by kernel_rfl) (fun _ _ _ h => h) (Wn.some hf rfl rfl rfl rfl) hT rfl rfl ?_
                              clear hf; intro a hf
                              refine any_take (i := 23) hf rfl (by kernel_rfl) (by kernel_rfl) (by kernel_rfl) (fun _ _ _ h => h) (Wn.none rfl) (rd_pick_f hf rfl rfl rfl) hT rfl rfl ?_
                              clear hf; intro a hf
                              refine any_take (i := 24) hf rfl (by kernel_rfl) (by kernel_rfl) (by kernel_rfl) (fun _ _ _ h => h) (Wn.none rfl) (rd_move hf rfl rfl) hT rfl rfl ?_
                              clear hf; intro a hf
                              refine any_skip (i := 25) hf rfl (by kernel_rfl) (by kernel_rfl) (by kernel_rfl) (fun _ _ _ h => h) (Wn.some hf rfl rfl rfl rfl) hT rfl rfl ?_
                              clear hf; intro a hf
                              refine any_skip (i := 26) hf rfl (by kernel_rfl) (by kernel_rfl) (by kernel_rfl) (fun _ _ _ h => h) (Wn.some hf rfl rfl rfl rfl) hT rfl rfl ?_
                              clear hf; intro a hf
                              refine any_take (i := 27) hf rfl (by kernel_rfl) (by kernel_rfl) (by kernel_rfl) (fun _ _ _ h => h) (Wn.none rfl) (rd_pick_f hf rfl rfl rfl) hT rfl rfl ?_
                              clear hf; intro a hf
                              refine any_take (i := 28) hf rfl (by kernel_rfl) (by kernel_rfl) (by kernel_rfl) (fun _ _ _ h => h) (Wn.none rfl) (rd_move hf rfl rfl) hT rfl rfl ?_
                              clear hf; intro a hf
                              refine any_skip (i := 29) hf rfl (by kernel_rfl) (by kernel_rfl) (by kernel_rfl) (fun _ _ _ h => h) (Wn.some hf rfl rfl rfl rfl) hT rfl rfl ?_
                              clear hf; intro a hf
                              refine any_take (i := 30) hf rfl (by kernel_rfl) (by kernel_rfl) (by kernel_rfl) (fun _ _ _ h => h) (Wn.none rfl) (rd_pick_f hf rfl rfl rfl) hT rfl rfl ?_
                              clear hf; intro a hf
                              refine any_take (i := 31) hf rfl (by kernel_rfl) (by kernel_rfl) (by kernel_rfl) (fun _ _ _ h => h) (Wn.none rfl) (rd_assign hf rfl rfl) hT rfl rfl ?_
                              clear hf; intro a hf
                              refine any_done (by kernel_rfl) ?_
                              refine t_normal ?_
                              refine c_ret ?_
                              refine e_res1 hf.defers rfl (res_tmp hf rfl .nil) ?_
                              refine ⟨?_, hS.sub (by repeat (first | exact Sub.refl | exact Sub.none | (apply Sub.cons; (focus ((repeat (first | exact Sel.head | apply Sel.tail)); done))) | apply Sub.skip))⟩
                              clear hf hS
                              rfl
                              )
                          )
                      · clear hf; intro hc9 a hf
                        first
                        | ((exfalso; clear hf hS; (try clear hT); first | contradiction | ((try simp only [decide_eq_decide, decide_eq_true_eq, decide_eq_false_iff_not, Bool.not_eq_true', Bool.not_eq_false', not_true_eq_false, not_false_eq_true] at *) <;> (try simp only [mayP, leqP, refP, refS, refI, joinS, joinI] at *) <;> omega)); done)
                        | (
                          refine any_take (i := 3) hf rfl (by kernel_rfl) (by kernel_rfl) (by kernel_rfl) (fun _ _ _ h => h) (Wn.none rfl) (rd_move hf rfl rfl) hT rfl rfl ?_
                          clear hf; intro a hf
                          refine any_skip (i := 4) hf rfl (by kernel_rfl) (by kernel_rfl) (by kernel_rfl) (fun _ _ _ h => h) (Wn.some hf rfl rfl rfl rfl) hT rfl rfl ?_
                          clear hf; intro a hf
                          refine any_skip (i := 5) hf rfl (by kernel_rfl) (by kernel_rfl) (by kernel_rfl) (fun _ _ _ h => h) (Wn.some hf rfl rfl rfl rfl) hT rfl rfl ?_
                          clear hf; intro a hf
                          refine any_skip (i := 6) hf rfl (by kernel_rfl) (by kernel_rfl) (by kernel_rfl) (fun _ _ _ h => h) (Wn.some hf rfl rfl rfl rfl) hT rfl rfl ?_
                          clear hf; intro a hf
                          refine any_skip (i := 7) hf rfl (by kernel_rfl) (by kernel_rfl) (by kernel_rfl) (fun _ _ _ h => h) (Wn.some hf rfl rfl rfl rfl) hT rfl rfl ?_
                          clear hf; intro a hf
                          refine any_skip (i := 8) hf rfl (by kernel_rfl) (by kernel_rfl) (by kernel_rfl) (fun _ _ _ h => h) (Wn.some hf rfl rfl rfl rfl) hT rfl rfl ?_
                          clear hf; intro a hf
                          refine any_take (i := 9) hf rfl (by kernel_rfl) (by kernel_rfl) (by kernel_rfl) (fun _ _ _ h => h) (Wn.none rfl) (rd_pick_f hf rfl rfl rfl) hT rfl rfl ?_
                          clear hf; intro a hf
                          refine any_take (i := 10) hf rfl (by kernel_rfl) (by kernel_rfl) (by kernel_rfl) (fun _ _ _ h => h) (Wn.none rfl) (rd_move hf rfl rfl) hT rfl rfl ?_
                          clear hf; intro a hf
                          refine any_skip (i := 11) hf rfl (by kernel_rfl) (by kernel_rfl) (by kernel_rfl) (fun _ _ _ h => h) (Wn.some hf rfl rfl rfl rfl) hT rfl rfl ?_
                          clear hf; intro a hf
                          refine any_skip (i := 12) hf rfl (by kernel_rfl) (by kernel_rfl) (by kernel_rfl) (fun _ _ _ h => h) (Wn.some hf rfl rfl rfl rfl) hT rfl rfl ?_
                          clear hf; intro a hf
                          refine any_skip (i := 13) hf rfl (by kernel_rfl) (by kernel_rfl) (by kernel_rfl) (fun _ _ _ h => h) (Wn.some hf rfl rfl rfl rfl) hT rfl rfl ?_
                          clear hf; intro a hf
                          refine any_skip (i := 14) hf rfl (by kernel_rfl) (by kernel_rfl) (by kernel_rfl) (fun _ _ _ h => h) (Wn.some hf rfl rfl rfl rfl) hT rfl rfl ?_
                          clear hf; intro a hf
                          refine any_skip (i := 15) hf rfl (by kernel_rfl) (by kernel_rfl) (by kernel_rfl) (fun _ _ _ h => h) (Wn.some hf rfl rfl rfl rfl) hT rfl rfl ?_
                          clear hf; intro a hf
                          refine any_take (i := 16) hf rfl (by kernel_rfl) (by kernel_rfl) (by kernel_rfl) (fun _ _ _ h => h) (Wn.none rfl) (rd_pick_f hf rfl rfl rfl) hT rfl rfl ?_
                          clear hf; intro a hf
                          refine any_take (i := 17) hf rfl (by kernel_rfl) (by kernel_rfl) (by kernel_rfl) (fun _ _ _ h => h) (Wn.none rfl) (rd_move hf rfl rfl) hT rfl rfl ?_
                          clear hf; intro a hf
                          refine any_skip (i := 18) hf rfl (by kernel_rfl) (by kernel_rfl) (by kernel_rfl) (fun _ _ _ h => h) (Wn.some hf rfl rfl rfl rfl) hT rfl rfl ?_
                          clear hf; intro a hf
                          refine any_skip (i := 19) hf rfl (by kernel_rfl) (by kernel_rfl) (by kernel_rfl) (fun _ _ _ h => h) (Wn.some hf rfl rfl rfl rfl) hT rfl rfl ?_
                          clear hf; intro a hf
                          refine any_skip (i := 20) hf rfl (by kernel_rfl) (by kernel_rfl) (by kernel_rfl) (fun _ _ _ h => h) (Wn.some hf rfl rfl rfl rfl) hT rfl rfl ?_
                          clear hf; intro a hf
                          refine any_skip (i := 21) hf rfl (by kernel_rfl) (by kernel_rfl) (by kernel_rfl) (fun _ _ _ h => h) (Wn.some hf rfl rfl rfl rfl) hT rfl rfl ?_
                          clear hf; intro a hf
                          refine any_skip (i := 22) hf rfl (by kernel_rfl) (by kernel_rfl) (by kernel_rfl) (fun _ _ _ h => h) (Wn.some hf rfl rfl rfl rfl) hT rfl rfl ?_
                          clear hf; intro a hf
                          refine any_take (i := 23) hf rfl (by kernel_rfl) (by kernel_rfl) (by kernel_rfl) (fun _ _ _ h => h) (Wn.none rfl) (rd_pick_f hf rfl rfl rfl) hT rfl rfl ?_
                          clear hf; intro a hf
                          refine any_take (i := 24) hf rfl (by kernel_rfl) (by kernel_rfl) (by kernel_rfl) (fun _ _ _ h => h) (Wn.none rfl) (rd_move hf rfl rfl) hT rfl rfl ?_
                          clear hf; intro a hf
                          refine any_skip (i := 25) hf rfl (by kernel_rfl) (by kernel_rfl) (by kernel_rfl) (fun _ _ _ h => h) (Wn.some hf rfl rfl rfl rfl) hT rfl rfl ?_
                          clear hf; intro a hf
                          refine any_skip (i := 26) hf rfl (by kernel_rfl) (by kernel_rfl) (by kernel_rfl) (fun _ _ _ h => h) (Wn.some hf rfl rfl rfl rfl) hT rfl rfl ?_
                          clear hf; intro a hf
                          refine any_take (i := 27) hf rfl (by kernel_rfl) (by kernel_rfl) (by kernel_rfl) (fun _ _ _ h => h) (Wn.none rfl) (rd_pick_f hf rfl rfl rfl) hT rfl rfl ?_
                          clear hf; intro a hf
                          refine any_take (i := 28) hf rfl (by kernel_rfl) (by kernel_rfl) (by kernel_rfl) (fun _ _ _ h => h) (Wn.none rfl) (rd_move hf rfl rfl) hT rfl rfl ?_
                          clear hf; intro a hf
                          refine any_skip (i := 29) hf rfl (by kernel_rfl) (by kernel_rfl) (by kernel_rfl) (fun _ _ _ h => h) (Wn.some hf rfl rfl rfl rfl) hT rfl rfl ?_
                          clear hf; intro a hf
                          refine any_take (i := 30) hf rfl (by kernel_rfl) (by kernel_rfl) (by kernel_rfl) (fun _ _ _ h => h) (Wn.none rfl) (rd_pick_f hf rfl rfl rfl) hT rfl rfl ?_
                          clear hf; intro a hf
                          refine any_take (i := 31) hf rfl (by kernel_rfl) (by kernel_rfl) (by kernel_rfl) (fun _ _ _ h => h) (Wn.none rfl) (rd_assign hf rfl rfl) hT rfl rfl ?_
                          clear hf; intro a hf
                          refine any_done (by kernel_rfl) ?_
                          refine t_normal ?_
                          refine c_ret ?_
                          refine e_res1 hf.defers rfl (res_tmp hf rfl .nil) ?_
                          refine ⟨?_, hS.sub (by repeat (first | exact Sub.refl | exact Sub.none | (apply Sub.cons; (focus ((repeat (first | exact Sel.head | apply Sel.tail)); done))) | apply Sub.skip))⟩
                          clear hf hS
                          rfl
                          )
                      )
                  )
              )
          )
      · clear hf; intro hc4 hf
        first
        | ((exfalso; clear hf hS; (try clear hT); first | contradiction | ((try simp only [decide_eq_decide, decide_eq_true_eq, decide_eq_false_iff_not, Bool.not_eq_true', Bool.not_eq_false', not_true_eq_false, not_false_eq_true] at *) <;> (try simp only [mayP, leqP, refP, refS, refI, joinS, joinI] at *) <;> omega)); done)
        | (
          refine step_l (st_rd hf (Wn.some hf rfl rfl rfl rfl) (rd_not hf rfl rfl) hS rfl rfl ?_)
          clear hf; intro a hf
          refine step_l (st_rd hf (Wn.none rfl) (rd_pick_f hf rfl rfl rfl) hS rfl rfl ?_)
          clear hf; intro a hf
          refine step_l (st_rd hf (Wn.none rfl) (rd_move hf rfl rfl) hS rfl rfl ?_)
          clear hf; intro a hf
          refine step_l (st_skip hf (Wn.some hf rfl rfl rfl rfl) rfl rfl ?_)
          clear hf; intro a hf
          refine step_l (st_skip hf (Wn.some hf rfl rfl rfl rfl) rfl rfl ?_)
          clear hf; intro a hf
          refine step_l (st_skip hf (Wn.some hf rfl rfl rfl rfl) rfl rfl ?_)
          clear hf; intro a hf
          refine step_l (st_rd hf (Wn.none rfl) (rd_pick_t hf rfl rfl rfl) hS rfl rfl ?_)
          clear hf; intro a hf
          refine step_l (st_rd hf (Wn.none rfl) (rd_move hf rfl rfl) hS rfl rfl ?_)
          clear hf; intro a hf
          refine step_l (st_skip hf (Wn.some hf rfl rfl rfl rfl) rfl rfl ?_)
          clear hf; intro a hf
          refine step_l (st_skip hf (Wn.some hf rfl rfl rfl rfl) rfl rfl ?_)
          clear hf; intro a hf
          refine step_l (st_skip hf (Wn.some hf rfl rfl rfl rfl) rfl rfl ?_)
          clear hf; intro a hf
          refine step_l (st_rd hf (Wn.none rfl) (rd_pick_t hf rfl rfl rfl) hS rfl rfl ?_)
          clear hf; intro a hf
          refine step_l (st_rd hf (Wn.none rfl) (rd_move hf rfl rfl) hS rfl rfl ?_)
          clear hf; intro a hf
          refine step_l (st_skip hf (Wn.some hf rfl rfl rfl rfl) rfl rfl ?_)
          clear hf; intro a hf
          refine step_l (st_skip hf (Wn.some hf rfl rfl rfl rfl) rfl rfl ?_)
          clear hf; intro a hf
          refine step_l (st_skip hf (Wn.some hf rfl rfl rfl rfl) rfl rfl ?_)
          clear hf; intro a hf
          refine step_l (st_rd hf (Wn.none rfl) (rd_pick_t hf rfl rfl rfl) hS rfl rfl ?_)
          clear hf; intro a hf
          refine done_l ?_
          refine t_normal ?_
          refine c_true hf rfl ?_
          refine c_seq ?_
          refine c_region ?_
          refine step_l (st_call hf (Wn.none rfl) rfl rfl rfl fn15 (awake_c hS) rfl rfl ?_)
          clear hf hS; rintro v a w ⟨rfl, hS⟩ hf
          refine step_l (st_rd hf (Wn.none rfl) (rd_assign hf rfl rfl) hS rfl rfl ?_)
          clear hf; intro a hf
          refine done_l ?_
          refine t_normal ?_
          refine c_ret ?_
          refine t_ret ?_
          refine e_res1 hf.defers rfl (res_tmp hf rfl .nil) ?_
          refine ⟨?_, hS.sub (by repeat (first | exact Sub.refl | exact Sub.none | (apply Sub.cons; (focus ((repeat (first | exact Sel.head | apply Sel.tail)); done))) | apply Sub.skip))⟩
          clear hf hS
          rfl
          )
      )
  · clear hf; intro hc3 hf
    first
    | ((exfalso; clear hf hS; (try clear hT); first | contradiction | ((try simp only [decide_eq_decide, decide_eq_true_eq, decide_eq_false_iff_not, Bool.not_eq_true', Bool.not_eq_false', not_true_eq_false, not_false_eq_true] at *) <;> (try simp only [mayP, leqP, refP, refS, refI, joinS, joinI] at *) <;> omega)); done)
    | (
      refine step_l (st_rd hf (Wn.none rfl) (rd_not hf rfl rfl) hS rfl rfl ?_)
      clear hf; intro a hf
      refine step_l (st_rd hf (Wn.none rfl) (rd_move hf rfl rfl) hS rfl rfl ?_)
      clear hf; intro a hf
      refine step_l (st_skip hf (Wn.some hf rfl rfl rfl rfl) rfl rfl ?_)
      clear hf; intro a hf
      refine step_l (st_skip hf (Wn.some hf rfl rfl rfl rfl) rfl rfl ?_)
      clear hf; intro a hf
      refine step_l (st_skip hf (Wn.some hf rfl rfl rfl rfl) rfl rfl ?_)
      clear hf; intro a hf
      refine step_l (st_rd hf (Wn.none rfl) (rd_pick_t hf rfl rfl rfl) hS rfl rfl ?_)
      clear hf; intro a hf
      refine step_l (st_rd hf (Wn.none rfl) (rd_move hf rfl rfl) hS rfl rfl ?_)
      clear hf; intro a hf
      refine step_l (st_skip hf (Wn.some hf rfl rfl rfl rfl) rfl rfl ?_)
      clear hf; intro a hf
      refine step_l (st_skip hf (Wn.some hf rfl rfl rfl rfl) rfl rfl ?_)
      clear hf; intro a hf
      refine step_l (st_skip hf (Wn.some hf rfl rfl rfl rfl) rfl rfl ?_)
      clear hf; intro a hf
      refine step_l (st_rd hf (Wn.none rfl) (rd_pick_t hf rfl rfl rfl) hS rfl rfl ?_)
      clear hf; intro a hf
      refine step_l (st_rd hf (Wn.none rfl) (rd_move hf rfl rfl) hS rfl rfl ?_)
      clear hf; intro a hf
      refine step_l (st_skip hf (Wn.some hf rfl rfl rfl rfl) rfl rfl ?_)
      clear hf; intro a hf
      refine step_l (st_skip hf (Wn.some hf rfl rfl rfl rfl) rfl rfl ?_)
      clear hf; intro a hf
      refine step_l (st_skip hf (Wn.some hf rfl rfl rfl rfl) rfl rfl ?_)
      clear hf; intro a hf
      refine step_l (st_rd hf (Wn.none rfl) (rd_pick_t hf rfl rfl rfl) hS rfl rfl ?_)
      clear hf; intro a hf
      refine step_l (st_rd hf (Wn.none rfl) (rd_move hf rfl rfl) hS rfl rfl ?_)
      clear hf; intro a hf
      refine step_l (st_skip hf (Wn.some hf rfl rfl rfl rfl) rfl rfl ?_)
      clear hf; intro a hf
      refine step_l (st_skip hf (Wn.some hf rfl rfl rfl rfl) rfl rfl ?_)
      clear hf; intro a hf
      refine step_l (st_skip hf (Wn.some hf rfl rfl rfl rfl) rfl rfl ?_)
      clear hf; intro a hf
      refine step_l (st_rd hf (Wn.none rfl) (rd_pick_t hf rfl rfl rfl) hS rfl rfl ?_)
      clear hf; intro a hf
      refine done_l ?_
      refine t_normal ?_
      refine c_true hf rfl ?_
      refine c_seq ?_
      refine c_region ?_
      refine step_l (st_call hf (Wn.none rfl) rfl rfl rfl fn15 (awake_c hS) rfl rfl ?_)
      clear hf hS; rintro v a w ⟨rfl, hS⟩ hf
      refine step_l (st_rd hf (Wn.none rfl) (rd_assign hf rfl rfl) hS rfl rfl ?_)
      clear hf; intro a hf
      refine done_l ?_
      refine t_normal ?_
      refine c_ret ?_
      refine t_ret ?_
      refine e_res1 hf.defers rfl (res_tmp hf rfl .nil) ?_
      refine ⟨?_, hS.sub (by repeat (first | exact Sub.refl | exact Sub.none | (apply Sub.cons; (focus ((repeat (first | exact Sel.head | apply Sel.tail)); done))) | apply Sub.skip))⟩
      clear hf hS
      rfl
      )

end Go.Proofs.Ytgmbhbnhfmfidaa
