/-
  The statement LazyNil, walked.
  Conditions: none.
-/
import Derived.Test.YtmjfmcgpmlfnbaaLazy1
import Derived.Test.YtmjfmcgpmlfnbaaLz2
namespace Go.Proofs.Ytmjfmcgpmlfnbaa
open Go Go.Sl
set_option linter.unusedVariables false
set_option linter.unusedSimpArgs false
theorem bz5_9 : ((Array.range (9 * 1)).map (fun j => ((.int .u8 0 : Value)).cells[j % ((.int .u8 0 : Value)).cells.size]!)) = ([.int .u8 0, .int .u8 0, .int .u8 0, .int .u8 0, .int .u8 0, .int .u8 0, .int .u8 0, .int .u8 0, .int .u8 0] : List Value).toArray := by kernel_rfl
theorem fn11 : fnB Try.prog 11 = true := by kernel_rfl
theorem fn15 : fnB Try.prog 15 = true := by kernel_rfl
theorem fn18 : fnB Try.prog 18 = true := by kernel_rfl
theorem fn23 : fnB Try.prog 23 = true := by kernel_rfl
theorem zr5 : (Try.prog.info? 5).bind (·.zero) = some (.int .u8 0) := by kernel_rfl
theorem awake_c  {W : World} {R : List HP} {w : World} (hS : Sat W (R) w)  : Calls Try.prog 15 [].toArray w (Ret fun v w' => v = .bool true ∧ Sat W R w') := by
  refine fn_start 6 Try.func15 rfl rfl rfl ?_
  intro a hf
  refine c_seq ?_
  refine c_region ?_
  refine step_l (st_rd hf (Wn.none rfl) (rd_assign hf rfl rfl) hS rfl rfl ?_)
  clear hf; intro a hf
  refine done_l ?_
  refine t_normal ?_
  refine c_seq ?_
  refine c_region ?_
  refine step_l (st_call hf (Wn.none rfl) rfl rfl rfl fn11 (Poly_c hS) rfl rfl ?_)
  clear hf hS; rintro v a w ⟨pt_1, rfl, hS⟩ hf
  refine step_l (st_buildRw hf (Wn.none rfl) hS rfl rfl Try.underlying38 sz5 zr5 (by decide) (by decide) bz5_9 rfl (.cons rfl (by first | rfl) (by rfl) (by repeat (first | exact Put.nil | apply Put.cons | apply Put.succ)) (.cons rfl (by first | rfl) (by rfl) (by repeat (first | exact Put.nil | apply Put.cons | apply Put.succ)) (.cons rfl (by first | rfl) (by rfl) (by repeat (first | exact Put.nil | apply Put.cons | apply Put.succ)) (.cons rfl (by first | rfl) (by rfl) (by repeat (first | exact Put.nil | apply Put.cons | apply Put.succ)) (.cons rfl (by first | rfl) (by rfl) (by repeat (first | exact Put.nil | apply Put.cons | apply Put.succ)) (.cons rfl (by first | rfl) (by rfl) (by repeat (first | exact Put.nil | apply Put.cons | apply Put.succ)) (.cons rfl (by first | rfl) (by rfl) (by repeat (first | exact Put.nil | apply Put.cons | apply Put.succ)) (.cons rfl (by first | rfl) (by rfl) (by repeat (first | exact Put.nil | apply Put.cons | apply Put.succ)) (.cons rfl (by first | rfl) (by rfl) (by repeat (first | exact Put.nil | apply Put.cons | apply Put.succ)) .nil))))))))) rfl rfl rfl ?_)
  clear hf hS; intro b_2 a w hf hS
  refine step_l (st_conv hf (Wn.none rfl) hS rfl rfl Try.underlying38 Try.underlying5 (by repeat (first | exact Sel.head | apply Sel.tail)) rfl rfl ?_)
  clear hf hS; intro a w hf hS
  refine step_l (st_call hf (Wn.none rfl) rfl rfl rfl fn23 (SumP_c _ _ [49, 50, 51, 52, 53, 54, 55, 56, 57] _ _ _ (hS.sel (by repeat (first | exact Sel.head | apply Sel.tail))) rfl (by simp) (fun _ h => h.slOfBlk (by repeat (first | exact Sel.head | apply Sel.tail)) (by rfl))) rfl rfl ?_)
  clear hf hS; rintro v a w ⟨rfl, ds_3, hS⟩ hf
  refine step_l (st_rd hf (Wn.none rfl) (rd_eql hf rfl rfl rfl) hS rfl rfl ?_)
  clear hf; intro a hf
  refine step_l (st_rd hf (Wn.none rfl) (rd_assign hf rfl rfl) hS rfl rfl ?_)
  clear hf; intro a hf
  refine done_l ?_
  refine t_normal ?_
  refine c_ret ?_
  refine e_res1 hf.defers rfl (res_tmp hf rfl .nil) ?_
  exact ⟨congrArg Value.bool (decide_eq_true (by rw [crc_awake]; rfl)), hS.sub (by repeat (first | exact Sub.refl | exact Sub.none | exact Sub.behind | (apply Sub.cons; (focus ((repeat (first | exact Sel.head | apply Sel.tail)); done))) | apply Sub.skip))⟩

theorem LazyNil_c (i k : Int) {W : World} {R : List HP} {w : World} (hS : Sat W (R) w)  : Calls Try.prog 5 [.int .i64 i, .int .i64 k].toArray w (Ret fun v w' => v = .bool true ∧ Sat W R w') := by
  refine fn_start 46 Try.func5 rfl rfl rfl ?_
  intro a hf
  obtain ⟨N, hN⟩ : ∃ N : Nat, (N : Int) = max 0 (min k 300) := ⟨(max 0 (min k 300)).toNat, by omega⟩
  refine c_seq ?_
  refine c_region ?_
  refine step_l (st_rd hf (Wn.none rfl) (rd_assign hf rfl rfl) hS rfl rfl ?_)
  clear hf; intro a hf
  refine done_l ?_
  refine t_normal ?_
  refine c_seq ?_
  refine c_region ?_
  refine step_l (st_rd hf (Wn.none rfl) (rd_assign hf rfl rfl) hS rfl rfl ?_)
  clear hf; intro a hf
  refine done_l ?_
  refine t_normal ?_
  refine c_seq ?_
  refine c_region ?_
  refine step_l (st_rd hf (Wn.none rfl) (rd_move hf rfl rfl) hS rfl rfl ?_)
  clear hf; intro a hf
  refine step_l (st_rd hf (Wn.none rfl) (rd_min hf rfl rfl rfl) hS rfl rfl ?_)
  clear hf; intro a hf
  refine step_l (st_rd hf (Wn.none rfl) (rd_assign hf rfl rfl) hS rfl rfl ?_)
  clear hf; intro a hf
  refine done_l ?_
  refine t_normal ?_
  refine c_seq ?_
  refine c_region ?_
  refine step_l (st_rd hf (Wn.none rfl) (rd_move hf rfl rfl) hS rfl rfl ?_)
  clear hf; intro a hf
  refine step_l (st_call hf (Wn.none rfl) rfl rfl rfl fn16 (LNew_c _ .nilFunc [] N hS (by omega) rfl) rfl rfl ?_)
  clear hf hS; rintro v a w ⟨pu, rfl, hS⟩ hf; rw [tb_f] at hS
  refine step_l (st_rd hf (Wn.none rfl) (rd_assign hf rfl rfl) hS rfl rfl ?_)
  clear hf; intro a hf
  refine done_l ?_
  refine t_normal ?_
  refine c_seq ?_
  refine c_region ?_
  refine step_l (st_rd hf (Wn.none rfl) (rd_move hf rfl rfl) hS rfl rfl ?_)
  clear hf; intro a hf
  refine step_l (st_rd hf (Wn.none rfl) (rd_move hf rfl rfl) hS rfl rfl ?_)
  clear hf; intro a hf
  refine step_l (st_call hf (Wn.none rfl) rfl rfl rfl fn14 (LNAt_c _ hS) rfl rfl ?_)
  clear hf hS; rintro v a w ⟨rfl, hS⟩ hf
  refine step_l (st_rdB hf (Wn.none rfl) (rd_eql hf rfl rfl rfl) hS rfl rfl ?_ ?_)
  · clear hf; intro hc1 a hf
    first
    | (first | exact Bool.noConfusion hc1 | exact absurd rfl hc1 | exact absurd hc1 (by omega) | exact absurd (by omega) hc1; done)
    | (
      refine step_l (st_rd hf (Wn.none rfl) (rd_move hf rfl rfl) hS rfl rfl ?_)
      clear hf; intro a hf
      refine step_l (st_rd hf (Wn.some hf rfl rfl rfl rfl) (rd_move hf rfl rfl) hS rfl rfl ?_)
      clear hf; intro a hf
      refine step_l (st_call hf (Wn.some hf rfl rfl rfl rfl) rfl rfl rfl fn13 (LNLen_c hS) rfl rfl ?_)
      clear hf hS; rintro v a w ⟨rfl, hS⟩ hf
      refine step_l (st_rdB hf (Wn.some hf rfl rfl rfl rfl) (rd_eql hf rfl rfl rfl) hS rfl rfl ?_ ?_)
      · clear hf; intro hc2 a hf
        first
        | (first | exact Bool.noConfusion hc2 | exact absurd rfl hc2 | exact absurd hc2 (by omega) | exact absurd (by omega) hc2; done)
        | (
          refine step_l (st_rd hf (Wn.none rfl) (rd_pick_t hf rfl rfl rfl) hS rfl rfl ?_)
          clear hf; intro a hf
          refine step_l (st_rd hf (Wn.none rfl) (rd_move hf rfl rfl) hS rfl rfl ?_)
          clear hf; intro a hf
          refine step_l (st_rd hf (Wn.some hf rfl rfl rfl rfl) (rd_move hf rfl rfl) hS rfl rfl ?_)
          clear hf; intro a hf
          refine step_l (st_call hf (Wn.some hf rfl rfl rfl rfl) rfl rfl rfl fn18 (LNMade_c hS) rfl rfl ?_)
          clear hf hS; rintro v a w ⟨rfl, hS⟩ hf
          refine step_l (st_rdB hf (Wn.some hf rfl rfl rfl rfl) (rd_eql hf rfl rfl rfl) hS rfl rfl ?_ ?_)
          · clear hf; intro hc3 a hf
            first
            | (first | exact Bool.noConfusion hc3 | exact absurd rfl hc3 | exact absurd hc3 (by omega) | exact absurd (by omega) hc3; done)
            | (
              refine step_l (st_rd hf (Wn.none rfl) (rd_pick_t hf rfl rfl rfl) hS rfl rfl ?_)
              clear hf; intro a hf
              refine step_l (st_rd hf (Wn.none rfl) (rd_move hf rfl rfl) hS rfl rfl ?_)
              clear hf; intro a hf
              refine step_l (st_rd hf (Wn.some hf rfl rfl rfl rfl) (rd_move hf rfl rfl) hS rfl rfl ?_)
              clear hf; intro a hf
              refine step_l (st_rd hf (Wn.some hf rfl rfl rfl rfl) (rd_move hf rfl rfl) hS rfl rfl ?_)
              clear hf; intro a hf
              refine step_l (st_call hf (Wn.some hf rfl rfl rfl rfl) rfl rfl rfl fn14 (AtNM_c _ _ _ _ (hS.sel (by repeat (first | exact Sel.head | apply Sel.tail))) (by omega)) rfl rfl ?_)
              clear hf hS; rintro v a w ⟨rfl, ⟨d3, hS⟩⟩ hf
              refine step_l (st_rdB hf (Wn.some hf rfl rfl rfl rfl) (rd_eql hf rfl rfl rfl) hS rfl rfl ?_ ?_)
              · clear hf; intro hc4 a hf
                first
                | (first | exact Bool.noConfusion hc4 | exact absurd rfl hc4 | exact absurd hc4 (by omega) | exact absurd (by omega) hc4; done)
                | (
                  refine step_l (st_rd hf (Wn.none rfl) (rd_pick_t hf rfl rfl rfl) hS rfl rfl ?_)
                  clear hf; intro a hf
                  refine step_l (st_rd hf (Wn.none rfl) (rd_move hf rfl rfl) hS rfl rfl ?_)
                  clear hf; intro a hf
                  refine step_l (st_rd hf (Wn.some hf rfl rfl rfl rfl) (rd_move hf rfl rfl) hS rfl rfl ?_)
                  clear hf; intro a hf
                  refine step_l (st_call hf (Wn.some hf rfl rfl rfl rfl) rfl rfl rfl fn13 (LLen_c _ _ _ _ (hS.sel (by repeat (first | exact Sel.head | apply Sel.tail)))) rfl rfl ?_)
                  clear hf hS; rintro v a w ⟨rfl, hS⟩ hf
                  refine step_l (st_rd hf (Wn.some hf rfl rfl rfl rfl) (rd_move hf rfl rfl) hS rfl rfl ?_)
                  clear hf; intro a hf
                  refine step_l (st_rd hf (Wn.some hf rfl rfl rfl rfl) (rd_max hf rfl rfl rfl) hS rfl rfl ?_)
                  clear hf; intro a hf
                  refine step_l (st_rdB hf (Wn.some hf rfl rfl rfl rfl) (rd_eql hf rfl rfl rfl) hS rfl rfl ?_ ?_)
                  · clear hf; intro hc5 a hf
                    first
                    | (first | exact Bool.noConfusion hc5 | exact absurd rfl hc5 | exact absurd hc5 (by omega) | exact absurd (by omega) hc5; done)
                    | (
                      refine step_l (st_rd hf (Wn.none rfl) (rd_pick_t hf rfl rfl rfl) hS rfl rfl ?_)
                      clear hf; intro a hf
                      refine step_l (st_rd hf (Wn.none rfl) (rd_move hf rfl rfl) hS rfl rfl ?_)
                      clear hf; intro a hf
                      refine step_l (st_rd hf (Wn.some hf rfl rfl rfl rfl) (rd_move hf rfl rfl) hS rfl rfl ?_)
                      clear hf; intro a hf
                      refine step_l (st_call hf (Wn.some hf rfl rfl rfl rfl) rfl rfl rfl fn18 (LMade_c _ _ _ _ (hS.sel (by repeat (first | exact Sel.head | apply Sel.tail))) rfl) rfl rfl ?_)
                      clear hf hS; rintro v a w ⟨rfl, hS⟩ hf
                      refine step_l (st_rdB hf (Wn.some hf rfl rfl rfl rfl) (rd_eql hf rfl rfl rfl) hS rfl rfl ?_ ?_)
                      · clear hf; intro hc6 a hf
                        first
                        | (first | exact Bool.noConfusion hc6 | exact absurd rfl hc6 | exact absurd hc6 (by omega) | exact absurd (by omega) hc6; done)
                        | (
                          refine step_l (st_rd hf (Wn.none rfl) (rd_pick_t hf rfl rfl rfl) hS rfl rfl ?_)
                          clear hf; intro a hf
                          refine step_l (st_rd hf (Wn.none rfl) (rd_move hf rfl rfl) hS rfl rfl ?_)
                          clear hf; intro a hf
                          refine step_l (st_call hf (Wn.some hf rfl rfl rfl rfl) rfl rfl rfl fn15 (awake_c hS) rfl rfl ?_)
                          clear hf hS; rintro v a w ⟨rfl, hS⟩ hf
                          refine step_l (st_rd hf (Wn.none rfl) (rd_pick_t hf rfl rfl rfl) hS rfl rfl ?_)
                          clear hf; intro a hf
                          refine step_l (st_rd hf (Wn.none rfl) (rd_assign hf rfl rfl) hS rfl rfl ?_)
                          clear hf; intro a hf
                          refine done_l ?_
                          refine t_normal ?_
                          refine c_ret ?_
                          refine e_res1 hf.defers rfl (res_tmp hf rfl .nil) ?_
                          exact ⟨rfl, hS.sub (by repeat (first | exact Sub.refl | exact Sub.none | exact Sub.behind | (apply Sub.cons; (focus ((repeat (first | exact Sel.head | apply Sel.tail)); done))) | apply Sub.skip))⟩
                          )
                      · clear hf; intro hc6 a hf
                        first
                        | (first | exact Bool.noConfusion hc6 | exact absurd rfl hc6 | exact absurd hc6 (by omega) | exact absurd (by omega) hc6; done)
                        | (
                          refine step_l (st_rd hf (Wn.none rfl) (rd_pick_t hf rfl rfl rfl) hS rfl rfl ?_)
                          clear hf; intro a hf
                          refine step_l (st_rd hf (Wn.none rfl) (rd_move hf rfl rfl) hS rfl rfl ?_)
                          clear hf; intro a hf
                          refine step_l (st_skip hf (Wn.some hf rfl rfl rfl rfl) rfl rfl ?_)
                          clear hf; intro a hf
                          refine step_l (st_rd hf (Wn.none rfl) (rd_pick_f hf rfl rfl rfl) hS rfl rfl ?_)
                          clear hf; intro a hf
                          refine step_l (st_rd hf (Wn.none rfl) (rd_assign hf rfl rfl) hS rfl rfl ?_)
                          clear hf; intro a hf
                          refine done_l ?_
                          refine t_normal ?_
                          refine c_ret ?_
                          refine e_res1 hf.defers rfl (res_tmp hf rfl .nil) ?_
                          exact ⟨rfl, hS.sub (by repeat (first | exact Sub.refl | exact Sub.none | exact Sub.behind | (apply Sub.cons; (focus ((repeat (first | exact Sel.head | apply Sel.tail)); done))) | apply Sub.skip))⟩
                          )
                      )
                  · clear hf; intro hc5 a hf
                    first
                    | (first | exact Bool.noConfusion hc5 | exact absurd rfl hc5 | exact absurd hc5 (by omega) | exact absurd (by omega) hc5; done)
                    | (
                      refine step_l (st_rd hf (Wn.none rfl) (rd_pick_t hf rfl rfl rfl) hS rfl rfl ?_)
                      clear hf; intro a hf
                      refine step_l (st_rd hf (Wn.none rfl) (rd_move hf rfl rfl) hS rfl rfl ?_)
                      clear hf; intro a hf
                      refine step_l (st_skip hf (Wn.some hf rfl rfl rfl rfl) rfl rfl ?_)
                      clear hf; intro a hf
                      refine step_l (st_skip hf (Wn.some hf rfl rfl rfl rfl) rfl rfl ?_)
                      clear hf; intro a hf
                      refine step_l (st_skip hf (Wn.some hf rfl rfl rfl rfl) rfl rfl ?_)
                      clear hf; intro a hf
                      refine step_l (st_rd hf (Wn.none rfl) (rd_pick_f hf rfl rfl rfl) hS rfl rfl ?_)
                      clear hf; intro a hf
                      refine step_l (st_rd hf (Wn.none rfl) (rd_move hf rfl rfl) hS rfl rfl ?_)
                      clear hf; intro a hf
                      refine step_l (st_skip hf (Wn.some hf rfl rfl rfl rfl) rfl rfl ?_)
                      clear hf; intro a hf
                      refine step_l (st_rd hf (Wn.none rfl) (rd_pick_f hf rfl rfl rfl) hS rfl rfl ?_)
                      clear hf; intro a hf
                      refine step_l (st_rd hf (Wn.none rfl) (rd_assign hf rfl rfl) hS rfl rfl ?_)
                      clear hf; intro a hf
                      refine done_l ?_
                      refine t_normal ?_
                      refine c_ret ?_
                      refine e_res1 hf.defers rfl (res_tmp hf rfl .nil) ?_
                      exact ⟨rfl, hS.sub (by repeat (first | exact Sub.refl | exact Sub.none | exact Sub.behind | (apply Sub.cons; (focus ((repeat (first | exact Sel.head | apply Sel.tail)); done))) | apply Sub.skip))⟩
                      )
                  )
              · clear hf; intro hc4 a hf
                first
                | (first | exact Bool.noConfusion hc4 | exact absurd rfl hc4 | exact absurd hc4 (by omega) | exact absurd (by omega) hc4; done)
                | (
                  refine step_l (st_rd hf (Wn.none rfl) (rd_pick_t hf rfl rfl rfl) hS rfl rfl ?_)
                  clear hf; intro a hf
                  refine step_l (st_rd hf (Wn.none rfl) (rd_move hf rfl rfl) hS rfl rfl ?_)
                  clear hf; intro a hf
                  refine step_l (st_skip hf (Wn.some hf rfl rfl rfl rfl) rfl rfl ?_)
                  clear hf; intro a hf
                  refine step_l (st_skip hf (Wn.some hf rfl rfl rfl rfl) rfl rfl ?_)
                  clear hf; intro a hf
                  refine step_l (st_skip hf (Wn.some hf rfl rfl rfl rfl) rfl rfl ?_)
                  clear hf; intro a hf
                  refine step_l (st_skip hf (Wn.some hf rfl rfl rfl rfl) rfl rfl ?_)
                  clear hf; intro a hf
                  refine step_l (st_skip hf (Wn.some hf rfl rfl rfl rfl) rfl rfl ?_)
                  clear hf; intro a hf
                  refine step_l (st_rd hf (Wn.none rfl) (rd_pick_f hf rfl rfl rfl) hS rfl rfl ?_)
                  clear hf; intro a hf
                  refine step_l (st_rd hf (Wn.none rfl) (rd_move hf rfl rfl) hS rfl rfl ?_)
                  clear hf; intro a hf
                  refine step_l (st_skip hf (Wn.some hf rfl rfl rfl rfl) rfl rfl ?_)
                  clear hf; intro a hf
                  refine step_l (st_skip hf (Wn.some hf rfl rfl rfl rfl) rfl rfl ?_)
                  clear hf; intro a hf
                  refine step_l (st_skip hf (Wn.some hf rfl rfl rfl rfl) rfl rfl ?_)
                  clear hf; intro a hf
                  refine step_l (st_rd hf (Wn.none rfl) (rd_pick_f hf rfl rfl rfl) hS rfl rfl ?_)
                  clear hf; intro a hf
                  refine step_l (st_rd hf (Wn.none rfl) (rd_move hf rfl rfl) hS rfl rfl ?_)
                  clear hf; intro a hf
                  refine step_l (st_skip hf (Wn.some hf rfl rfl rfl rfl) rfl rfl ?_)
                  clear hf; intro a hf
                  refine step_l (st_rd hf (Wn.none rfl) (rd_pick_f hf rfl rfl rfl) hS rfl rfl ?_)
                  clear hf; intro a hf
                  refine step_l (st_rd hf (Wn.none rfl) (rd_assign hf rfl rfl) hS rfl rfl ?_)
                  clear hf; intro a hf
                  refine done_l ?_
                  refine t_normal ?_
                  refine c_ret ?_
                  refine e_res1 hf.defers rfl (res_tmp hf rfl .nil) ?_
                  exact ⟨rfl, hS.sub (by repeat (first | exact Sub.refl | exact Sub.none | exact Sub.behind | (apply Sub.cons; (focus ((repeat (first | exact Sel.head | apply Sel.tail)); done))) | apply Sub.skip))⟩
                  )
              )
          · clear hf; intro hc3 a hf
            first
            | (first | exact Bool.noConfusion hc3 | exact absurd rfl hc3 | exact absurd hc3 (by omega) | exact absurd (by omega) hc3; done)
            | (
              refine step_l (st_rd hf (Wn.none rfl) (rd_pick_t hf rfl rfl rfl) hS rfl rfl ?_)
              clear hf; intro a hf
              refine step_l (st_rd hf (Wn.none rfl) (rd_move hf rfl rfl) hS rfl rfl ?_)
              clear hf; intro a hf
              refine step_l (st_skip hf (Wn.some hf rfl rfl rfl rfl) rfl rfl ?_)
              clear hf; intro a hf
              refine step_l (st_skip hf (Wn.some hf rfl rfl rfl rfl) rfl rfl ?_)
              clear hf; intro a hf
              refine step_l (st_skip hf (Wn.some hf rfl rfl rfl rfl) rfl rfl ?_)
              clear hf; intro a hf
              refine step_l (st_skip hf (Wn.some hf rfl rfl rfl rfl) rfl rfl ?_)
              clear hf; intro a hf
              refine step_l (st_rd hf (Wn.none rfl) (rd_pick_f hf rfl rfl rfl) hS rfl rfl ?_)
              clear hf; intro a hf
              refine step_l (st_rd hf (Wn.none rfl) (rd_move hf rfl rfl) hS rfl rfl ?_)
              clear hf; intro a hf
              refine step_l (st_skip hf (Wn.some hf rfl rfl rfl rfl) rfl rfl ?_)
              clear hf; intro a hf
              refine step_l (st_skip hf (Wn.some hf rfl rfl rfl rfl) rfl rfl ?_)
              clear hf; intro a hf
              refine step_l (st_skip hf (Wn.some hf rfl rfl rfl rfl) rfl rfl ?_)
              clear hf; intro a hf
              refine step_l (st_skip hf (Wn.some hf rfl rfl rfl rfl) rfl rfl ?_)
              clear hf; intro a hf
              refine step_l (st_skip hf (Wn.some hf rfl rfl rfl rfl) rfl rfl ?_)
              clear hf; intro a hf
              refine step_l (st_rd hf (Wn.none rfl) (rd_pick_f hf rfl rfl rfl) hS rfl rfl ?_)
              clear hf; intro a hf
              refine step_l (st_rd hf (Wn.none rfl) (rd_move hf rfl rfl) hS rfl rfl ?_)
              clear hf; intro a hf
              refine step_l (st_skip hf (Wn.some hf rfl rfl rfl rfl) rfl rfl ?_)
              clear hf; intro a hf
              refine step_l (st_skip hf (Wn.some hf rfl rfl rfl rfl) rfl rfl ?_)
              clear hf; intro a hf
              refine step_l (st_skip hf (Wn.some hf rfl rfl rfl rfl) rfl rfl ?_)
              clear hf; intro a hf
              refine step_l (st_rd hf (Wn.none rfl) (rd_pick_f hf rfl rfl rfl) hS rfl rfl ?_)
              clear hf; intro a hf
              refine step_l (st_rd hf (Wn.none rfl) (rd_move hf rfl rfl) hS rfl rfl ?_)
              clear hf; intro a hf
              refine step_l (st_skip hf (Wn.some hf rfl rfl rfl rfl) rfl rfl ?_)
              clear hf; intro a hf
              refine step_l (st_rd hf (Wn.none rfl) (rd_pick_f hf rfl rfl rfl) hS rfl rfl ?_)
              clear hf; intro a hf
              refine step_l (st_rd hf (Wn.none rfl) (rd_assign hf rfl rfl) hS rfl rfl ?_)
              clear hf; intro a hf
              refine done_l ?_
              refine t_normal ?_
              refine c_ret ?_
              refine e_res1 hf.defers rfl (res_tmp hf rfl .nil) ?_
              exact ⟨rfl, hS.sub (by repeat (first | exact Sub.refl | exact Sub.none | exact Sub.behind | (apply Sub.cons; (focus ((repeat (first | exact Sel.head | apply Sel.tail)); done))) | apply Sub.skip))⟩
              )
          )
      · clear hf; intro hc2 a hf
        first
        | (first | exact Bool.noConfusion hc2 | exact absurd rfl hc2 | exact absurd hc2 (by omega) | exact absurd (by omega) hc2; done)
        | (
          refine step_l (st_rd hf (Wn.none rfl) (rd_pick_t hf rfl rfl rfl) hS rfl rfl ?_)
          clear hf; intro a hf
          refine step_l (st_rd hf (Wn.none rfl) (rd_move hf rfl rfl) hS rfl rfl ?_)
          clear hf; intro a hf
          refine step_l (st_skip hf (Wn.some hf rfl rfl rfl rfl) rfl rfl ?_)
          clear hf; intro a hf
          refine step_l (st_skip hf (Wn.some hf rfl rfl rfl rfl) rfl rfl ?_)
          clear hf; intro a hf
          refine step_l (st_skip hf (Wn.some hf rfl rfl rfl rfl) rfl rfl ?_)
          clear hf; intro a hf
          refine step_l (st_rd hf (Wn.none rfl) (rd_pick_f hf rfl rfl rfl) hS rfl rfl ?_)
          clear hf; intro a hf
          refine step_l (st_rd hf (Wn.none rfl) (rd_move hf rfl rfl) hS rfl rfl ?_)
          clear hf; intro a hf
          refine step_l (st_skip hf (Wn.some hf rfl rfl rfl rfl) rfl rfl ?_)
          clear hf; intro a hf
          refine step_l (st_skip hf (Wn.some hf rfl rfl rfl rfl) rfl rfl ?_)
          clear hf; intro a hf
          refine step_l (st_skip hf (Wn.some hf rfl rfl rfl rfl) rfl rfl ?_)
          clear hf; intro a hf
          refine step_l (st_skip hf (Wn.some hf rfl rfl rfl rfl) rfl rfl ?_)
          clear hf; intro a hf
          refine step_l (st_rd hf (Wn.none rfl) (rd_pick_f hf rfl rfl rfl) hS rfl rfl ?_)
          clear hf; intro a hf
          refine step_l (st_rd hf (Wn.none rfl) (rd_move hf rfl rfl) hS rfl rfl ?_)
          clear hf; intro a hf
          refine step_l (st_skip hf (Wn.some hf rfl rfl rfl rfl) rfl rfl ?_)
          clear hf; intro a hf
          refine step_l (st_skip hf (Wn.some hf rfl rfl rfl rfl) rfl rfl ?_)
          clear hf; intro a hf
          refine step_l (st_skip hf (Wn.some hf rfl rfl rfl rfl) rfl rfl ?_)
          clear hf; intro a hf
          refine step_l (st_skip hf (Wn.some hf rfl rfl rfl rfl) rfl rfl ?_)
          clear hf; intro a hf
          refine step_l (st_skip hf (Wn.some hf rfl rfl rfl rfl) rfl rfl ?_)
          clear hf; intro a hf
          refine step_l (st_rd hf (Wn.none rfl) (rd_pick_f hf rfl rfl rfl) hS rfl rfl ?_)
          clear hf; intro a hf
          refine step_l (st_rd hf (Wn.none rfl) (rd_move hf rfl rfl) hS rfl rfl ?_)
          clear hf; intro a hf
          refine step_l (st_skip hf (Wn.some hf rfl rfl rfl rfl) rfl rfl ?_)
          clear hf; intro a hf
          refine step_l (st_skip hf (Wn.some hf rfl rfl rfl rfl) rfl rfl ?_)
          clear hf; intro a hf
          refine step_l (st_skip hf (Wn.some hf rfl rfl rfl rfl) rfl rfl ?_)
          clear hf; intro a hf
          refine step_l (st_rd hf (Wn.none rfl) (rd_pick_f hf rfl rfl rfl) hS rfl rfl ?_)
          clear hf; intro a hf
          refine step_l (st_rd hf (Wn.none rfl) (rd_move hf rfl rfl) hS rfl rfl ?_)
          clear hf; intro a hf
          refine step_l (st_skip hf (Wn.some hf rfl rfl rfl rfl) rfl rfl ?_)
          clear hf; intro a hf
          refine step_l (st_rd hf (Wn.none rfl) (rd_pick_f hf rfl rfl rfl) hS rfl rfl ?_)
          clear hf; intro a hf
          refine step_l (st_rd hf (Wn.none rfl) (rd_assign hf rfl rfl) hS rfl rfl ?_)
          clear hf; intro a hf
          refine done_l ?_
          refine t_normal ?_
          refine c_ret ?_
          refine e_res1 hf.defers rfl (res_tmp hf rfl .nil) ?_
          exact ⟨rfl, hS.sub (by repeat (first | exact Sub.refl | exact Sub.none | exact Sub.behind | (apply Sub.cons; (focus ((repeat (first | exact Sel.head | apply Sel.tail)); done))) | apply Sub.skip))⟩
          )
      )
  · clear hf; intro hc1 a hf
    first
    | (first | exact Bool.noConfusion hc1 | exact absurd rfl hc1 | exact absurd hc1 (by omega) | exact absurd (by omega) hc1; done)
    | (
      refine step_l (st_rd hf (Wn.none rfl) (rd_move hf rfl rfl) hS rfl rfl ?_)
      clear hf; intro a hf
      refine step_l (st_skip hf (Wn.some hf rfl rfl rfl rfl) rfl rfl ?_)
      clear hf; intro a hf
      refine step_l (st_skip hf (Wn.some hf rfl rfl rfl rfl) rfl rfl ?_)
      clear hf; intro a hf
      refine step_l (st_skip hf (Wn.some hf rfl rfl rfl rfl) rfl rfl ?_)
      clear hf; intro a hf
      refine step_l (st_rd hf (Wn.none rfl) (rd_pick_f hf rfl rfl rfl) hS rfl rfl ?_)
      clear hf; intro a hf
      refine step_l (st_rd hf (Wn.none rfl) (rd_move hf rfl rfl) hS rfl rfl ?_)
      clear hf; intro a hf
      refine step_l (st_skip hf (Wn.some hf rfl rfl rfl rfl) rfl rfl ?_)
      clear hf; intro a hf
      refine step_l (st_skip hf (Wn.some hf rfl rfl rfl rfl) rfl rfl ?_)
      clear hf; intro a hf
      refine step_l (st_skip hf (Wn.some hf rfl rfl rfl rfl) rfl rfl ?_)
      clear hf; intro a hf
      refine step_l (st_rd hf (Wn.none rfl) (rd_pick_f hf rfl rfl rfl) hS rfl rfl ?_)
      clear hf; intro a hf
      refine step_l (st_rd hf (Wn.none rfl) (rd_move hf rfl rfl) hS rfl rfl ?_)
      clear hf; intro a hf
      refine step_l (st_skip hf (Wn.some hf rfl rfl rfl rfl) rfl rfl ?_)
      clear hf; intro a hf
      refine step_l (st_skip hf (Wn.some hf rfl rfl rfl rfl) rfl rfl ?_)
      clear hf; intro a hf
      refine step_l (st_skip hf (Wn.some hf rfl rfl rfl rfl) rfl rfl ?_)
      clear hf; intro a hf
      refine step_l (st_skip hf (Wn.some hf rfl rfl rfl rfl) rfl rfl ?_)
      clear hf; intro a hf
      refine step_l (st_rd hf (Wn.none rfl) (rd_pick_f hf rfl rfl rfl) hS rfl rfl ?_)
      clear hf; intro a hf
      refine step_l (st_rd hf (Wn.none rfl) (rd_move hf rfl rfl) hS rfl rfl ?_)
      clear hf; intro a hf
      refine step_l (st_skip hf (Wn.some hf rfl rfl rfl rfl) rfl rfl ?_)
      clear hf; intro a hf
      refine step_l (st_skip hf (Wn.some hf rfl rfl rfl rfl) rfl rfl ?_)
      clear hf; intro a hf
      refine step_l (st_skip hf (Wn.some hf rfl rfl rfl rfl) rfl rfl ?_)
      clear hf; intro a hf
      refine step_l (st_skip hf (Wn.some hf rfl rfl rfl rfl) rfl rfl ?_)
      clear hf; intro a hf
      refine step_l (st_skip hf (Wn.some hf rfl rfl rfl rfl) rfl rfl ?_)
      clear hf; intro a hf
      refine step_l (st_rd hf (Wn.none rfl) (rd_pick_f hf rfl rfl rfl) hS rfl rfl ?_)
      clear hf; intro a hf
      refine step_l (st_rd hf (Wn.none rfl) (rd_move hf rfl rfl) hS rfl rfl ?_)
      clear hf; intro a hf
      refine step_l (st_skip hf (Wn.some hf rfl rfl rfl rfl) rfl rfl ?_)
      clear hf; intro a hf
      refine step_l (st_skip hf (Wn.some hf rfl rfl rfl rfl) rfl rfl ?_)
      clear hf; intro a hf
      refine step_l (st_skip hf (Wn.some hf rfl rfl rfl rfl) rfl rfl ?_)
      clear hf; intro a hf
      refine step_l (st_rd hf (Wn.none rfl) (rd_pick_f hf rfl rfl rfl) hS rfl rfl ?_)
      clear hf; intro a hf
      refine step_l (st_rd hf (Wn.none rfl) (rd_move hf rfl rfl) hS rfl rfl ?_)
      clear hf; intro a hf
      refine step_l (st_skip hf (Wn.some hf rfl rfl rfl rfl) rfl rfl ?_)
      clear hf; intro a hf
      refine step_l (st_rd hf (Wn.none rfl) (rd_pick_f hf rfl rfl rfl) hS rfl rfl ?_)
      clear hf; intro a hf
      refine step_l (st_rd hf (Wn.none rfl) (rd_assign hf rfl rfl) hS rfl rfl ?_)
      clear hf; intro a hf
      refine done_l ?_
      refine t_normal ?_
      refine c_ret ?_
      refine e_res1 hf.defers rfl (res_tmp hf rfl .nil) ?_
      exact ⟨rfl, hS.sub (by repeat (first | exact Sub.refl | exact Sub.none | exact Sub.behind | (apply Sub.cons; (focus ((repeat (first | exact Sel.head | apply Sel.tail)); done))) | apply Sub.skip))⟩
      )

end Go.Proofs.Ytmjfmcgpmlfnbaa
