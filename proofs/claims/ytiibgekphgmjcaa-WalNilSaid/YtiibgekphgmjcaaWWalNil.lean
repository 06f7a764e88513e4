/-
  The statement WalNil, walked.
  Conditions: none.
-/
import Derived.Test.YtiibgekphgmjcaaWlaw1
namespace Go.Proofs.Ytiibgekphgmjcaa
open Go Go.Sl
set_option linter.unusedVariables false
set_option linter.unusedSimpArgs false
theorem fn12 : fnB Try.prog 12 = true := by kernel_rfl
theorem fn22 : fnB Try.prog 22 = true := by kernel_rfl
theorem fn23 : fnB Try.prog 23 = true := by kernel_rfl
theorem fn25 : fnB Try.prog 25 = true := by kernel_rfl
theorem fn27 : fnB Try.prog 27 = true := by kernel_rfl
theorem WalNil_c (b : List UInt8) (qb : Option Addr) (cb : Nat) {W : World} {R : List HP} {w : World} (hS : Sat W (R) w) (hb : b.length ≤ 140737488351232) (hcb : b.length ≤ cb) (hvb : ∀ w, Sat W R w → SlAt w qb b.length 1 (bvs b)) : Calls Try.prog 8 [.slice qb b.length cb].toArray w (Ret fun v w' => v = .bool true ∧ Sat W R w') := by
  refine fn_start 54 Try.func8 rfl rfl rfl ?_
  intro a hf
  refine c_seq ?_
  refine c_region ?_
  refine step_l (st_rd hf (Wn.none rfl) (rd_assign hf rfl rfl) hS rfl rfl ?_)
  clear hf; intro a hf
  refine done_l ?_
  refine t_normal ?_
  refine c_seq ?_
  refine c_region ?_
  refine step_l (st_rd hf (Wn.none rfl) (rd_assign hf rfl rfl) hS rfl rfl ?_)
  clear hf; intro a hf
  refine done_l ?_
  refine t_normal ?_
  refine c_seq ?_
  refine c_region ?_
  refine step_l (st_call hf (Wn.none rfl) rfl rfl rfl fn11 (OpenNil_c hS) rfl rfl ?_)
  clear hf hS; rintro v a w ⟨rfl, hS⟩ hf
  refine step_l (st_rd hf (Wn.none rfl) (rd_move hf rfl rfl) hS rfl rfl ?_)
  clear hf; intro a hf
  refine step_l (st_rd hf (Wn.none rfl) (rd_extract hf rfl rfl rfl) hS rfl rfl ?_)
  clear hf; intro a hf
  refine step_l (st_rd hf (Wn.none rfl) (rd_extract hf rfl rfl rfl) hS rfl rfl ?_)
  clear hf; intro a hf
  refine step_l (st_rd hf (Wn.none rfl) (rd_extract hf rfl rfl rfl) hS rfl rfl ?_)
  clear hf; intro a hf
  refine step_l (st_rd hf (Wn.none rfl) (rd_assign hf rfl rfl) hS rfl rfl ?_)
  clear hf; intro a hf
  refine step_l (st_rd hf (Wn.none rfl) (rd_assign hf rfl rfl) hS rfl rfl ?_)
  clear hf; intro a hf
  refine step_l (st_rd hf (Wn.none rfl) (rd_assign hf rfl rfl) hS rfl rfl ?_)
  clear hf; intro a hf
  refine done_l ?_
  refine t_normal ?_
  refine c_seq ?_
  refine c_region ?_
  refine step_l (st_rd hf (Wn.none rfl) (rd_move hf rfl rfl) hS rfl rfl ?_)
  clear hf; intro a hf
  refine step_l (st_rd hf (Wn.none rfl) (rd_move hf rfl rfl) hS rfl rfl ?_)
  clear hf; intro a hf
  refine step_l (st_call hf (Wn.none rfl) rfl rfl rfl fn14 (WNAppend_c _ _ _ hS) rfl rfl ?_)
  clear hf hS; rintro v a w ⟨rfl, hS⟩ hf
  refine step_l (st_rdB hf (Wn.none rfl) (rd_eql hf rfl rfl rfl) hS rfl rfl ?_ ?_)
  · clear hf; intro hc1 a hf
    first
    | (first | exact Bool.noConfusion hc1 | exact absurd rfl hc1; done)
    | (
      refine step_l (st_rd hf (Wn.none rfl) (rd_move hf rfl rfl) hS rfl rfl ?_)
      clear hf; intro a hf
      refine step_l (st_rd hf (Wn.some hf rfl rfl rfl rfl) (rd_move hf rfl rfl) hS rfl rfl ?_)
      clear hf; intro a hf
      refine step_l (st_rd hf (Wn.some hf rfl rfl rfl rfl) (rd_move hf rfl rfl) hS rfl rfl ?_)
      clear hf; intro a hf
      refine step_l (st_buildSlice hf (Wn.some hf rfl rfl rfl rfl) hS rfl rfl Try.underlying22 sz23 zr23 (by decide) bz23_1 rfl (.cons rfl (by first | rfl) (by rfl) (by repeat (first | exact Put.nil | apply Put.cons | apply Put.succ)) .nil) rfl rfl ?_)
      clear hf hS; intro b_2 a w hf hS
      refine step_l (st_call hf (Wn.some hf rfl rfl rfl rfl) rfl rfl rfl fn27 (WNCompact_c _ _ _ hS) rfl rfl ?_)
      clear hf hS; rintro v a w ⟨rfl, hS⟩ hf
      refine step_l (st_rdB hf (Wn.some hf rfl rfl rfl rfl) (rd_eql hf rfl rfl rfl) hS rfl rfl ?_ ?_)
      · clear hf; intro hc3 a hf
        first
        | (first | exact Bool.noConfusion hc3 | exact absurd rfl hc3; done)
        | (
          refine step_l (st_rd hf (Wn.none rfl) (rd_pick_t hf rfl rfl rfl) hS rfl rfl ?_)
          clear hf; intro a hf
          refine step_l (st_rd hf (Wn.none rfl) (rd_move hf rfl rfl) hS rfl rfl ?_)
          clear hf; intro a hf
          refine step_l (st_rd hf (Wn.some hf rfl rfl rfl rfl) (rd_move hf rfl rfl) hS rfl rfl ?_)
          clear hf; intro a hf
          refine step_l (st_call hf (Wn.some hf rfl rfl rfl rfl) rfl rfl rfl fn22 (WNLen_c hS) rfl rfl ?_)
          clear hf hS; rintro v a w ⟨rfl, hS⟩ hf
          refine step_l (st_rdB hf (Wn.some hf rfl rfl rfl rfl) (rd_eql hf rfl rfl rfl) hS rfl rfl ?_ ?_)
          · clear hf; intro hc4 a hf
            first
            | (first | exact Bool.noConfusion hc4 | exact absurd rfl hc4; done)
            | (
              refine step_l (st_rd hf (Wn.none rfl) (rd_pick_t hf rfl rfl rfl) hS rfl rfl ?_)
              clear hf; intro a hf
              refine step_l (st_rd hf (Wn.none rfl) (rd_move hf rfl rfl) hS rfl rfl ?_)
              clear hf; intro a hf
              refine step_l (st_rd hf (Wn.some hf rfl rfl rfl rfl) (rd_move hf rfl rfl) hS rfl rfl ?_)
              clear hf; intro a hf
              refine step_l (st_call hf (Wn.some hf rfl rfl rfl rfl) rfl rfl rfl fn23 (WNSize_c hS) rfl rfl ?_)
              clear hf hS; rintro v a w ⟨rfl, hS⟩ hf
              refine step_l (st_rdB hf (Wn.some hf rfl rfl rfl rfl) (rd_eql hf rfl rfl rfl) hS rfl rfl ?_ ?_)
              · clear hf; intro hc5 a hf
                first
                | (first | exact Bool.noConfusion hc5 | exact absurd rfl hc5; done)
                | (
                  refine step_l (st_rd hf (Wn.none rfl) (rd_pick_t hf rfl rfl rfl) hS rfl rfl ?_)
                  clear hf; intro a hf
                  refine step_l (st_rd hf (Wn.none rfl) (rd_move hf rfl rfl) hS rfl rfl ?_)
                  clear hf; intro a hf
                  refine step_l (st_rd hf (Wn.some hf rfl rfl rfl rfl) (rd_move hf rfl rfl) hS rfl rfl ?_)
                  clear hf; intro a hf
                  refine step_l (st_call hf (Wn.some hf rfl rfl rfl rfl) rfl rfl rfl fn25 (WNRoom_c hS) rfl rfl ?_)
                  clear hf hS; rintro v a w ⟨rfl, hS⟩ hf
                  refine step_l (st_rdB hf (Wn.some hf rfl rfl rfl rfl) (rd_eql hf rfl rfl rfl) hS rfl rfl ?_ ?_)
                  · clear hf; intro hc6 a hf
                    first
                    | (first | exact Bool.noConfusion hc6 | exact absurd rfl hc6; done)
                    | (
                      refine step_l (st_rd hf (Wn.none rfl) (rd_pick_t hf rfl rfl rfl) hS rfl rfl ?_)
                      clear hf; intro a hf
                      refine step_l (st_rd hf (Wn.none rfl) (rd_move hf rfl rfl) hS rfl rfl ?_)
                      clear hf; intro a hf
                      refine step_l (st_rd hf (Wn.some hf rfl rfl rfl rfl) (rd_move hf rfl rfl) hS rfl rfl ?_)
                      clear hf; intro a hf
                      refine step_l (st_rdb hf (Wn.some hf rfl rfl rfl rfl) (rd_eqlNilP hf rfl rfl rfl Try.underlying26) hS rfl rfl ?_ ?_)
                      · clear hf; intro hc7 a hf
                        first
                        | (first | exact Bool.noConfusion hc7 | exact absurd rfl hc7; done)
                        | (
                          refine step_l (st_rd hf (Wn.none rfl) (rd_pick_t hf rfl rfl rfl) hS rfl rfl ?_)
                          clear hf; intro a hf
                          refine step_l (st_rd hf (Wn.none rfl) (rd_move hf rfl rfl) hS rfl rfl ?_)
                          clear hf; intro a hf
                          refine step_l (st_rd hf (Wn.some hf rfl rfl rfl rfl) (rd_move hf rfl rfl) hS rfl rfl ?_)
                          clear hf; intro a hf
                          refine step_l (st_rd hf (Wn.some hf rfl rfl rfl rfl) (rd_len hf rfl rfl Try.underlying22) hS rfl rfl ?_)
                          clear hf; intro a hf
                          refine step_l (st_rdB hf (Wn.some hf rfl rfl rfl rfl) (rd_eql hf rfl rfl rfl) hS rfl rfl ?_ ?_)
                          · clear hf; intro hc8 a hf
                            first
                            | (first | exact Bool.noConfusion hc8 | exact absurd rfl hc8; done)
                            | (
                              refine step_l (st_rd hf (Wn.none rfl) (rd_pick_t hf rfl rfl rfl) hS rfl rfl ?_)
                              clear hf; intro a hf
                              refine step_l (st_rd hf (Wn.none rfl) (rd_move hf rfl rfl) hS rfl rfl ?_)
                              clear hf; intro a hf
                              refine step_l (st_rd hf (Wn.some hf rfl rfl rfl rfl) (rd_move hf rfl rfl) hS rfl rfl ?_)
                              clear hf; intro a hf
                              refine step_l (st_rdB hf (Wn.some hf rfl rfl rfl rfl) (rd_eql hf rfl rfl rfl) hS rfl rfl ?_ ?_)
                              · clear hf; intro hc9 a hf
                                first
                                | (first | exact Bool.noConfusion hc9 | exact absurd rfl hc9; done)
                                | (
                                  refine step_l (st_rd hf (Wn.none rfl) (rd_pick_t hf rfl rfl rfl) hS rfl rfl ?_)
                                  clear hf; intro a hf
                                  refine step_l (st_rd hf (Wn.none rfl) (rd_move hf rfl rfl) hS rfl rfl ?_)
                                  clear hf; intro a hf
                                  refine step_l (st_call hf (Wn.some hf rfl rfl rfl rfl) rfl rfl rfl fn12 (awake_c hS) rfl rfl ?_)
                                  clear hf hS; rintro v a w ⟨rfl, hS⟩ hf
                                  refine step_l (st_rd hf (Wn.none rfl) (rd_pick_t hf rfl rfl rfl) hS rfl rfl ?_)
                                  clear hf; intro a hf
                                  refine step_l (st_rd hf (Wn.none rfl) (rd_assign hf rfl rfl) hS rfl rfl ?_)
                                  clear hf; intro a hf
                                  refine done_l ?_
                                  refine t_normal ?_
                                  refine c_ret ?_
                                  refine e_res1 hf.defers rfl (res_tmp hf rfl .nil) ?_
                                  exact ⟨rfl, hS.sub (by repeat (first | exact Sub.refl | exact Sub.none | exact Sub.behind | (apply Sub.cons; (focus ((repeat (first | exact Sel.head | apply Sel.tail)); done))) | apply Sub.skip))⟩
                                  )
                              · clear hf; intro hc9 a hf
                                first
                                | (first | exact Bool.noConfusion hc9 | exact absurd rfl hc9; done)
                                | (
                                  refine step_l (st_rd hf (Wn.none rfl) (rd_pick_t hf rfl rfl rfl) hS rfl rfl ?_)
                                  clear hf; intro a hf
                                  refine step_l (st_rd hf (Wn.none rfl) (rd_move hf rfl rfl) hS rfl rfl ?_)
                                  clear hf; intro a hf
                                  refine step_l (st_skip hf (Wn.some hf rfl rfl rfl rfl) rfl rfl ?_)
                                  clear hf; intro a hf
                                  refine step_l (st_rd hf (Wn.none rfl) (rd_pick_f hf rfl rfl rfl) hS rfl rfl ?_)
                                  clear hf; intro a hf
                                  refine step_l (st_rd hf (Wn.none rfl) (rd_assign hf rfl rfl) hS rfl rfl ?_)
                                  clear hf; intro a hf
                                  refine done_l ?_
                                  refine t_normal ?_
                                  refine c_ret ?_
                                  refine e_res1 hf.defers rfl (res_tmp hf rfl .nil) ?_
                                  exact ⟨rfl, hS.sub (by repeat (first | exact Sub.refl | exact Sub.none | exact Sub.behind | (apply Sub.cons; (focus ((repeat (first | exact Sel.head | apply Sel.tail)); done))) | apply Sub.skip))⟩
                                  )
                              )
                          · clear hf; intro hc8 a hf
                            first
                            | (first | exact Bool.noConfusion hc8 | exact absurd rfl hc8; done)
                            | (
                              refine step_l (st_rd hf (Wn.none rfl) (rd_pick_t hf rfl rfl rfl) hS rfl rfl ?_)
                              clear hf; intro a hf
                              refine step_l (st_rd hf (Wn.none rfl) (rd_move hf rfl rfl) hS rfl rfl ?_)
                              clear hf; intro a hf
                              refine step_l (st_skip hf (Wn.some hf rfl rfl rfl rfl) rfl rfl ?_)
                              clear hf; intro a hf
                              refine step_l (st_skip hf (Wn.some hf rfl rfl rfl rfl) rfl rfl ?_)
                              clear hf; intro a hf
                              refine step_l (st_rd hf (Wn.none rfl) (rd_pick_f hf rfl rfl rfl) hS rfl rfl ?_)
                              clear hf; intro a hf
                              refine step_l (st_rd hf (Wn.none rfl) (rd_move hf rfl rfl) hS rfl rfl ?_)
                              clear hf; intro a hf
                              refine step_l (st_skip hf (Wn.some hf rfl rfl rfl rfl) rfl rfl ?_)
                              clear hf; intro a hf
                              refine step_l (st_rd hf (Wn.none rfl) (rd_pick_f hf rfl rfl rfl) hS rfl rfl ?_)
                              clear hf; intro a hf
                              refine step_l (st_rd hf (Wn.none rfl) (rd_assign hf rfl rfl) hS rfl rfl ?_)
                              clear hf; intro a hf
                              refine done_l ?_
                              refine t_normal ?_
                              refine c_ret ?_
                              refine e_res1 hf.defers rfl (res_tmp hf rfl .nil) ?_
                              exact ⟨rfl, hS.sub (by repeat (first | exact Sub.refl | exact Sub.none | exact Sub.behind | (apply Sub.cons; (focus ((repeat (first | exact Sel.head | apply Sel.tail)); done))) | apply Sub.skip))⟩
                              )
                          )
                      · clear hf; intro hc7 a hf
                        first
                        | (first | exact Bool.noConfusion hc7 | exact absurd rfl hc7; done)
                        | (
                          refine step_l (st_rd hf (Wn.none rfl) (rd_pick_t hf rfl rfl rfl) hS rfl rfl ?_)
                          clear hf; intro a hf
                          refine step_l (st_rd hf (Wn.none rfl) (rd_move hf rfl rfl) hS rfl rfl ?_)
                          clear hf; intro a hf
                          refine step_l (st_skip hf (Wn.some hf rfl rfl rfl rfl) rfl rfl ?_)
                          clear hf; intro a hf
                          refine step_l (st_skip hf (Wn.some hf rfl rfl rfl rfl) rfl rfl ?_)
                          clear hf; intro a hf
                          refine step_l (st_skip hf (Wn.some hf rfl rfl rfl rfl) rfl rfl ?_)
                          clear hf; intro a hf
                          refine step_l (st_rd hf (Wn.none rfl) (rd_pick_f hf rfl rfl rfl) hS rfl rfl ?_)
                          clear hf; intro a hf
                          refine step_l (st_rd hf (Wn.none rfl) (rd_move hf rfl rfl) hS rfl rfl ?_)
                          clear hf; intro a hf
                          refine step_l (st_skip hf (Wn.some hf rfl rfl rfl rfl) rfl rfl ?_)
                          clear hf; intro a hf
                          refine step_l (st_skip hf (Wn.some hf rfl rfl rfl rfl) rfl rfl ?_)
                          clear hf; intro a hf
                          refine step_l (st_rd hf (Wn.none rfl) (rd_pick_f hf rfl rfl rfl) hS rfl rfl ?_)
                          clear hf; intro a hf
                          refine step_l (st_rd hf (Wn.none rfl) (rd_move hf rfl rfl) hS rfl rfl ?_)
                          clear hf; intro a hf
                          refine step_l (st_skip hf (Wn.some hf rfl rfl rfl rfl) rfl rfl ?_)
                          clear hf; intro a hf
                          refine step_l (st_rd hf (Wn.none rfl) (rd_pick_f hf rfl rfl rfl) hS rfl rfl ?_)
                          clear hf; intro a hf
                          refine step_l (st_rd hf (Wn.none rfl) (rd_assign hf rfl rfl) hS rfl rfl ?_)
                          clear hf; intro a hf
                          refine done_l ?_
                          refine t_normal ?_
                          refine c_ret ?_
                          refine e_res1 hf.defers rfl (res_tmp hf rfl .nil) ?_
                          exact ⟨rfl, hS.sub (by repeat (first | exact Sub.refl | exact Sub.none | exact Sub.behind | (apply Sub.cons; (focus ((repeat (first | exact Sel.head | apply Sel.tail)); done))) | apply Sub.skip))⟩
                          )
                      )
                  · clear hf; intro hc6 a hf
                    first
                    | (first | exact Bool.noConfusion hc6 | exact absurd rfl hc6; done)
                    | (
                      refine step_l (st_rd hf (Wn.none rfl) (rd_pick_t hf rfl rfl rfl) hS rfl rfl ?_)
                      clear hf; intro a hf
                      refine step_l (st_rd hf (Wn.none rfl) (rd_move hf rfl rfl) hS rfl rfl ?_)
                      clear hf; intro a hf
                      refine step_l (st_skip hf (Wn.some hf rfl rfl rfl rfl) rfl rfl ?_)
                      clear hf; intro a hf
                      refine step_l (st_skip hf (Wn.some hf rfl rfl rfl rfl) rfl rfl ?_)
                      clear hf; intro a hf
                      refine step_l (st_rd hf (Wn.none rfl) (rd_pick_f hf rfl rfl rfl) hS rfl rfl ?_)
                      clear hf; intro a hf
                      refine step_l (st_rd hf (Wn.none rfl) (rd_move hf rfl rfl) hS rfl rfl ?_)
                      clear hf; intro a hf
                      refine step_l (st_skip hf (Wn.some hf rfl rfl rfl rfl) rfl rfl ?_)
                      clear hf; intro a hf
                      refine step_l (st_skip hf (Wn.some hf rfl rfl rfl rfl) rfl rfl ?_)
                      clear hf; intro a hf
                      refine step_l (st_skip hf (Wn.some hf rfl rfl rfl rfl) rfl rfl ?_)
                      clear hf; intro a hf
                      refine step_l (st_rd hf (Wn.none rfl) (rd_pick_f hf rfl rfl rfl) hS rfl rfl ?_)
                      clear hf; intro a hf
                      refine step_l (st_rd hf (Wn.none rfl) (rd_move hf rfl rfl) hS rfl rfl ?_)
                      clear hf; intro a hf
                      refine step_l (st_skip hf (Wn.some hf rfl rfl rfl rfl) rfl rfl ?_)
                      clear hf; intro a hf
                      refine step_l (st_skip hf (Wn.some hf rfl rfl rfl rfl) rfl rfl ?_)
                      clear hf; intro a hf
                      refine step_l (st_rd hf (Wn.none rfl) (rd_pick_f hf rfl rfl rfl) hS rfl rfl ?_)
                      clear hf; intro a hf
                      refine step_l (st_rd hf (Wn.none rfl) (rd_move hf rfl rfl) hS rfl rfl ?_)
                      clear hf; intro a hf
                      refine step_l (st_skip hf (Wn.some hf rfl rfl rfl rfl) rfl rfl ?_)
                      clear hf; intro a hf
                      refine step_l (st_rd hf (Wn.none rfl) (rd_pick_f hf rfl rfl rfl) hS rfl rfl ?_)
                      clear hf; intro a hf
                      refine step_l (st_rd hf (Wn.none rfl) (rd_assign hf rfl rfl) hS rfl rfl ?_)
                      clear hf; intro a hf
                      refine done_l ?_
                      refine t_normal ?_
                      refine c_ret ?_
                      refine e_res1 hf.defers rfl (res_tmp hf rfl .nil) ?_
                      exact ⟨rfl, hS.sub (by repeat (first | exact Sub.refl | exact Sub.none | exact Sub.behind | (apply Sub.cons; (focus ((repeat (first | exact Sel.head | apply Sel.tail)); done))) | apply Sub.skip))⟩
                      )
                  )
              · clear hf; intro hc5 a hf
                first
                | (first | exact Bool.noConfusion hc5 | exact absurd rfl hc5; done)
                | (
                  refine step_l (st_rd hf (Wn.none rfl) (rd_pick_t hf rfl rfl rfl) hS rfl rfl ?_)
                  clear hf; intro a hf
                  refine step_l (st_rd hf (Wn.none rfl) (rd_move hf rfl rfl) hS rfl rfl ?_)
                  clear hf; intro a hf
                  refine step_l (st_skip hf (Wn.some hf rfl rfl rfl rfl) rfl rfl ?_)
                  clear hf; intro a hf
                  refine step_l (st_skip hf (Wn.some hf rfl rfl rfl rfl) rfl rfl ?_)
                  clear hf; intro a hf
                  refine step_l (st_skip hf (Wn.some hf rfl rfl rfl rfl) rfl rfl ?_)
                  clear hf; intro a hf
                  refine step_l (st_rd hf (Wn.none rfl) (rd_pick_f hf rfl rfl rfl) hS rfl rfl ?_)
                  clear hf; intro a hf
                  refine step_l (st_rd hf (Wn.none rfl) (rd_move hf rfl rfl) hS rfl rfl ?_)
                  clear hf; intro a hf
                  refine step_l (st_skip hf (Wn.some hf rfl rfl rfl rfl) rfl rfl ?_)
                  clear hf; intro a hf
                  refine step_l (st_skip hf (Wn.some hf rfl rfl rfl rfl) rfl rfl ?_)
                  clear hf; intro a hf
                  refine step_l (st_rd hf (Wn.none rfl) (rd_pick_f hf rfl rfl rfl) hS rfl rfl ?_)
                  clear hf; intro a hf
                  refine step_l (st_rd hf (Wn.none rfl) (rd_move hf rfl rfl) hS rfl rfl ?_)
                  clear hf; intro a hf
                  refine step_l (st_skip hf (Wn.some hf rfl rfl rfl rfl) rfl rfl ?_)
                  clear hf; intro a hf
                  refine step_l (st_skip hf (Wn.some hf rfl rfl rfl rfl) rfl rfl ?_)
                  clear hf; intro a hf
                  refine step_l (st_skip hf (Wn.some hf rfl rfl rfl rfl) rfl rfl ?_)
                  clear hf; intro a hf
                  refine step_l (st_rd hf (Wn.none rfl) (rd_pick_f hf rfl rfl rfl) hS rfl rfl ?_)
                  clear hf; intro a hf
                  refine step_l (st_rd hf (Wn.none rfl) (rd_move hf rfl rfl) hS rfl rfl ?_)
                  clear hf; intro a hf
                  refine step_l (st_skip hf (Wn.some hf rfl rfl rfl rfl) rfl rfl ?_)
                  clear hf; intro a hf
                  refine step_l (st_skip hf (Wn.some hf rfl rfl rfl rfl) rfl rfl ?_)
                  clear hf; intro a hf
                  refine step_l (st_rd hf (Wn.none rfl) (rd_pick_f hf rfl rfl rfl) hS rfl rfl ?_)
                  clear hf; intro a hf
                  refine step_l (st_rd hf (Wn.none rfl) (rd_move hf rfl rfl) hS rfl rfl ?_)
                  clear hf; intro a hf
                  refine step_l (st_skip hf (Wn.some hf rfl rfl rfl rfl) rfl rfl ?_)
                  clear hf; intro a hf
                  refine step_l (st_rd hf (Wn.none rfl) (rd_pick_f hf rfl rfl rfl) hS rfl rfl ?_)
                  clear hf; intro a hf
                  refine step_l (st_rd hf (Wn.none rfl) (rd_assign hf rfl rfl) hS rfl rfl ?_)
                  clear hf; intro a hf
                  refine done_l ?_
                  refine t_normal ?_
                  refine c_ret ?_
                  refine e_res1 hf.defers rfl (res_tmp hf rfl .nil) ?_
                  exact ⟨rfl, hS.sub (by repeat (first | exact Sub.refl | exact Sub.none | exact Sub.behind | (apply Sub.cons; (focus ((repeat (first | exact Sel.head | apply Sel.tail)); done))) | apply Sub.skip))⟩
                  )
              )
          · clear hf; intro hc4 a hf
            first
            | (first | exact Bool.noConfusion hc4 | exact absurd rfl hc4; done)
            | (
              refine step_l (st_rd hf (Wn.none rfl) (rd_pick_t hf rfl rfl rfl) hS rfl rfl ?_)
              clear hf; intro a hf
              refine step_l (st_rd hf (Wn.none rfl) (rd_move hf rfl rfl) hS rfl rfl ?_)
              clear hf; intro a hf
              refine step_l (st_skip hf (Wn.some hf rfl rfl rfl rfl) rfl rfl ?_)
              clear hf; intro a hf
              refine step_l (st_skip hf (Wn.some hf rfl rfl rfl rfl) rfl rfl ?_)
              clear hf; intro a hf
              refine step_l (st_skip hf (Wn.some hf rfl rfl rfl rfl) rfl rfl ?_)
              clear hf; intro a hf
              refine step_l (st_rd hf (Wn.none rfl) (rd_pick_f hf rfl rfl rfl) hS rfl rfl ?_)
              clear hf; intro a hf
              refine step_l (st_rd hf (Wn.none rfl) (rd_move hf rfl rfl) hS rfl rfl ?_)
              clear hf; intro a hf
              refine step_l (st_skip hf (Wn.some hf rfl rfl rfl rfl) rfl rfl ?_)
              clear hf; intro a hf
              refine step_l (st_skip hf (Wn.some hf rfl rfl rfl rfl) rfl rfl ?_)
              clear hf; intro a hf
              refine step_l (st_skip hf (Wn.some hf rfl rfl rfl rfl) rfl rfl ?_)
              clear hf; intro a hf
              refine step_l (st_rd hf (Wn.none rfl) (rd_pick_f hf rfl rfl rfl) hS rfl rfl ?_)
              clear hf; intro a hf
              refine step_l (st_rd hf (Wn.none rfl) (rd_move hf rfl rfl) hS rfl rfl ?_)
              clear hf; intro a hf
              refine step_l (st_skip hf (Wn.some hf rfl rfl rfl rfl) rfl rfl ?_)
              clear hf; intro a hf
              refine step_l (st_skip hf (Wn.some hf rfl rfl rfl rfl) rfl rfl ?_)
              clear hf; intro a hf
              refine step_l (st_rd hf (Wn.none rfl) (rd_pick_f hf rfl rfl rfl) hS rfl rfl ?_)
              clear hf; intro a hf
              refine step_l (st_rd hf (Wn.none rfl) (rd_move hf rfl rfl) hS rfl rfl ?_)
              clear hf; intro a hf
              refine step_l (st_skip hf (Wn.some hf rfl rfl rfl rfl) rfl rfl ?_)
              clear hf; intro a hf
              refine step_l (st_skip hf (Wn.some hf rfl rfl rfl rfl) rfl rfl ?_)
              clear hf; intro a hf
              refine step_l (st_skip hf (Wn.some hf rfl rfl rfl rfl) rfl rfl ?_)
              clear hf; intro a hf
              refine step_l (st_rd hf (Wn.none rfl) (rd_pick_f hf rfl rfl rfl) hS rfl rfl ?_)
              clear hf; intro a hf
              refine step_l (st_rd hf (Wn.none rfl) (rd_move hf rfl rfl) hS rfl rfl ?_)
              clear hf; intro a hf
              refine step_l (st_skip hf (Wn.some hf rfl rfl rfl rfl) rfl rfl ?_)
              clear hf; intro a hf
              refine step_l (st_skip hf (Wn.some hf rfl rfl rfl rfl) rfl rfl ?_)
              clear hf; intro a hf
              refine step_l (st_rd hf (Wn.none rfl) (rd_pick_f hf rfl rfl rfl) hS rfl rfl ?_)
              clear hf; intro a hf
              refine step_l (st_rd hf (Wn.none rfl) (rd_move hf rfl rfl) hS rfl rfl ?_)
              clear hf; intro a hf
              refine step_l (st_skip hf (Wn.some hf rfl rfl rfl rfl) rfl rfl ?_)
              clear hf; intro a hf
              refine step_l (st_rd hf (Wn.none rfl) (rd_pick_f hf rfl rfl rfl) hS rfl rfl ?_)
              clear hf; intro a hf
              refine step_l (st_rd hf (Wn.none rfl) (rd_assign hf rfl rfl) hS rfl rfl ?_)
              clear hf; intro a hf
              refine done_l ?_
              refine t_normal ?_
              refine c_ret ?_
              refine e_res1 hf.defers rfl (res_tmp hf rfl .nil) ?_
              exact ⟨rfl, hS.sub (by repeat (first | exact Sub.refl | exact Sub.none | exact Sub.behind | (apply Sub.cons; (focus ((repeat (first | exact Sel.head | apply Sel.tail)); done))) | apply Sub.skip))⟩
              )
          )
      · clear hf; intro hc3 a hf
        first
        | (first | exact Bool.noConfusion hc3 | exact absurd rfl hc3; done)
        | (
          refine step_l (st_rd hf (Wn.none rfl) (rd_pick_t hf rfl rfl rfl) hS rfl rfl ?_)
          clear hf; intro a hf
          refine step_l (st_rd hf (Wn.none rfl) (rd_move hf rfl rfl) hS rfl rfl ?_)
          clear hf; intro a hf
          refine step_l (st_skip hf (Wn.some hf rfl rfl rfl rfl) rfl rfl ?_)
          clear hf; intro a hf
          refine step_l (st_skip hf (Wn.some hf rfl rfl rfl rfl) rfl rfl ?_)
          clear hf; intro a hf
          refine step_l (st_skip hf (Wn.some hf rfl rfl rfl rfl) rfl rfl ?_)
          clear hf; intro a hf
          refine step_l (st_rd hf (Wn.none rfl) (rd_pick_f hf rfl rfl rfl) hS rfl rfl ?_)
          clear hf; intro a hf
          refine step_l (st_rd hf (Wn.none rfl) (rd_move hf rfl rfl) hS rfl rfl ?_)
          clear hf; intro a hf
          refine step_l (st_skip hf (Wn.some hf rfl rfl rfl rfl) rfl rfl ?_)
          clear hf; intro a hf
          refine step_l (st_skip hf (Wn.some hf rfl rfl rfl rfl) rfl rfl ?_)
          clear hf; intro a hf
          refine step_l (st_skip hf (Wn.some hf rfl rfl rfl rfl) rfl rfl ?_)
          clear hf; intro a hf
          refine step_l (st_rd hf (Wn.none rfl) (rd_pick_f hf rfl rfl rfl) hS rfl rfl ?_)
          clear hf; intro a hf
          refine step_l (st_rd hf (Wn.none rfl) (rd_move hf rfl rfl) hS rfl rfl ?_)
          clear hf; intro a hf
          refine step_l (st_skip hf (Wn.some hf rfl rfl rfl rfl) rfl rfl ?_)
          clear hf; intro a hf
          refine step_l (st_skip hf (Wn.some hf rfl rfl rfl rfl) rfl rfl ?_)
          clear hf; intro a hf
          refine step_l (st_skip hf (Wn.some hf rfl rfl rfl rfl) rfl rfl ?_)
          clear hf; intro a hf
          refine step_l (st_rd hf (Wn.none rfl) (rd_pick_f hf rfl rfl rfl) hS rfl rfl ?_)
          clear hf; intro a hf
          refine step_l (st_rd hf (Wn.none rfl) (rd_move hf rfl rfl) hS rfl rfl ?_)
          clear hf; intro a hf
          refine step_l (st_skip hf (Wn.some hf rfl rfl rfl rfl) rfl rfl ?_)
          clear hf; intro a hf
          refine step_l (st_skip hf (Wn.some hf rfl rfl rfl rfl) rfl rfl ?_)
          clear hf; intro a hf
          refine step_l (st_rd hf (Wn.none rfl) (rd_pick_f hf rfl rfl rfl) hS rfl rfl ?_)
          clear hf; intro a hf
          refine step_l (st_rd hf (Wn.none rfl) (rd_move hf rfl rfl) hS rfl rfl ?_)
          clear hf; intro a hf
          refine step_l (st_skip hf (Wn.some hf rfl rfl rfl rfl) rfl rfl ?_)
          clear hf; intro a hf
          refine step_l (st_skip hf (Wn.some hf rfl rfl rfl rfl) rfl rfl ?_)
          clear hf; intro a hf
          refine step_l (st_skip hf (Wn.some hf rfl rfl rfl rfl) rfl rfl ?_)
          clear hf; intro a hf
          refine step_l (st_rd hf (Wn.none rfl) (rd_pick_f hf rfl rfl rfl) hS rfl rfl ?_)
          clear hf; intro a hf
          refine step_l (st_rd hf (Wn.none rfl) (rd_move hf rfl rfl) hS rfl rfl ?_)
          clear hf; intro a hf
          refine step_l (st_skip hf (Wn.some hf rfl rfl rfl rfl) rfl rfl ?_)
          clear hf; intro a hf
          refine step_l (st_skip hf (Wn.some hf rfl rfl rfl rfl) rfl rfl ?_)
          clear hf; intro a hf
          refine step_l (st_rd hf (Wn.none rfl) (rd_pick_f hf rfl rfl rfl) hS rfl rfl ?_)
          clear hf; intro a hf
          refine step_l (st_rd hf (Wn.none rfl) (rd_move hf rfl rfl) hS rfl rfl ?_)
          clear hf; intro a hf
          refine step_l (st_skip hf (Wn.some hf rfl rfl rfl rfl) rfl rfl ?_)
          clear hf; intro a hf
          refine step_l (st_rd hf (Wn.none rfl) (rd_pick_f hf rfl rfl rfl) hS rfl rfl ?_)
          clear hf; intro a hf
          refine step_l (st_rd hf (Wn.none rfl) (rd_assign hf rfl rfl) hS rfl rfl ?_)
          clear hf; intro a hf
          refine done_l ?_
          refine t_normal ?_
          refine c_ret ?_
          refine e_res1 hf.defers rfl (res_tmp hf rfl .nil) ?_
          exact ⟨rfl, hS.sub (by repeat (first | exact Sub.refl | exact Sub.none | exact Sub.behind | (apply Sub.cons; (focus ((repeat (first | exact Sel.head | apply Sel.tail)); done))) | apply Sub.skip))⟩
          )
      )
  · clear hf; intro hc1 a hf
    first
    | (first | exact Bool.noConfusion hc1 | exact absurd rfl hc1; done)
    | (
      refine step_l (st_rd hf (Wn.none rfl) (rd_move hf rfl rfl) hS rfl rfl ?_)
      clear hf; intro a hf
      refine step_l (st_skip hf (Wn.some hf rfl rfl rfl rfl) rfl rfl ?_)
      clear hf; intro a hf
      refine step_l (st_skip hf (Wn.some hf rfl rfl rfl rfl) rfl rfl ?_)
      clear hf; intro a hf
      refine step_l (st_skip hf (Wn.some hf rfl rfl rfl rfl) rfl rfl ?_)
      clear hf; intro a hf
      refine step_l (st_skip hf (Wn.some hf rfl rfl rfl rfl) rfl rfl ?_)
      clear hf; intro a hf
      refine step_l (st_skip hf (Wn.some hf rfl rfl rfl rfl) rfl rfl ?_)
      clear hf; intro a hf
      refine step_l (st_rd hf (Wn.none rfl) (rd_pick_f hf rfl rfl rfl) hS rfl rfl ?_)
      clear hf; intro a hf
      refine step_l (st_rd hf (Wn.none rfl) (rd_move hf rfl rfl) hS rfl rfl ?_)
      clear hf; intro a hf
      refine step_l (st_skip hf (Wn.some hf rfl rfl rfl rfl) rfl rfl ?_)
      clear hf; intro a hf
      refine step_l (st_skip hf (Wn.some hf rfl rfl rfl rfl) rfl rfl ?_)
      clear hf; intro a hf
      refine step_l (st_skip hf (Wn.some hf rfl rfl rfl rfl) rfl rfl ?_)
      clear hf; intro a hf
      refine step_l (st_rd hf (Wn.none rfl) (rd_pick_f hf rfl rfl rfl) hS rfl rfl ?_)
      clear hf; intro a hf
      refine step_l (st_rd hf (Wn.none rfl) (rd_move hf rfl rfl) hS rfl rfl ?_)
      clear hf; intro a hf
      refine step_l (st_skip hf (Wn.some hf rfl rfl rfl rfl) rfl rfl ?_)
      clear hf; intro a hf
      refine step_l (st_skip hf (Wn.some hf rfl rfl rfl rfl) rfl rfl ?_)
      clear hf; intro a hf
      refine step_l (st_skip hf (Wn.some hf rfl rfl rfl rfl) rfl rfl ?_)
      clear hf; intro a hf
      refine step_l (st_rd hf (Wn.none rfl) (rd_pick_f hf rfl rfl rfl) hS rfl rfl ?_)
      clear hf; intro a hf
      refine step_l (st_rd hf (Wn.none rfl) (rd_move hf rfl rfl) hS rfl rfl ?_)
      clear hf; intro a hf
      refine step_l (st_skip hf (Wn.some hf rfl rfl rfl rfl) rfl rfl ?_)
      clear hf; intro a hf
      refine step_l (st_skip hf (Wn.some hf rfl rfl rfl rfl) rfl rfl ?_)
      clear hf; intro a hf
      refine step_l (st_skip hf (Wn.some hf rfl rfl rfl rfl) rfl rfl ?_)
      clear hf; intro a hf
      refine step_l (st_rd hf (Wn.none rfl) (rd_pick_f hf rfl rfl rfl) hS rfl rfl ?_)
      clear hf; intro a hf
      refine step_l (st_rd hf (Wn.none rfl) (rd_move hf rfl rfl) hS rfl rfl ?_)
      clear hf; intro a hf
      refine step_l (st_skip hf (Wn.some hf rfl rfl rfl rfl) rfl rfl ?_)
      clear hf; intro a hf
      refine step_l (st_skip hf (Wn.some hf rfl rfl rfl rfl) rfl rfl ?_)
      clear hf; intro a hf
      refine step_l (st_rd hf (Wn.none rfl) (rd_pick_f hf rfl rfl rfl) hS rfl rfl ?_)
      clear hf; intro a hf
      refine step_l (st_rd hf (Wn.none rfl) (rd_move hf rfl rfl) hS rfl rfl ?_)
      clear hf; intro a hf
      refine step_l (st_skip hf (Wn.some hf rfl rfl rfl rfl) rfl rfl ?_)
      clear hf; intro a hf
      refine step_l (st_skip hf (Wn.some hf rfl rfl rfl rfl) rfl rfl ?_)
      clear hf; intro a hf
      refine step_l (st_skip hf (Wn.some hf rfl rfl rfl rfl) rfl rfl ?_)
      clear hf; intro a hf
      refine step_l (st_rd hf (Wn.none rfl) (rd_pick_f hf rfl rfl rfl) hS rfl rfl ?_)
      clear hf; intro a hf
      refine step_l (st_rd hf (Wn.none rfl) (rd_move hf rfl rfl) hS rfl rfl ?_)
      clear hf; intro a hf
      refine step_l (st_skip hf (Wn.some hf rfl rfl rfl rfl) rfl rfl ?_)
      clear hf; intro a hf
      refine step_l (st_skip hf (Wn.some hf rfl rfl rfl rfl) rfl rfl ?_)
      clear hf; intro a hf
      refine step_l (st_rd hf (Wn.none rfl) (rd_pick_f hf rfl rfl rfl) hS rfl rfl ?_)
      clear hf; intro a hf
      refine step_l (st_rd hf (Wn.none rfl) (rd_move hf rfl rfl) hS rfl rfl ?_)
      clear hf; intro a hf
      refine step_l (st_skip hf (Wn.some hf rfl rfl rfl rfl) rfl rfl ?_)
      clear hf; intro a hf
      refine step_l (st_rd hf (Wn.none rfl) (rd_pick_f hf rfl rfl rfl) hS rfl rfl ?_)
      clear hf; intro a hf
      refine step_l (st_rd hf (Wn.none rfl) (rd_assign hf rfl rfl) hS rfl rfl ?_)
      clear hf; intro a hf
      refine done_l ?_
      refine t_normal ?_
      refine c_ret ?_
      refine e_res1 hf.defers rfl (res_tmp hf rfl .nil) ?_
      exact ⟨rfl, hS.sub (by repeat (first | exact Sub.refl | exact Sub.none | exact Sub.behind | (apply Sub.cons; (focus ((repeat (first | exact Sel.head | apply Sel.tail)); done))) | apply Sub.skip))⟩
      )

end Go.Proofs.Ytiibgekphgmjcaa
