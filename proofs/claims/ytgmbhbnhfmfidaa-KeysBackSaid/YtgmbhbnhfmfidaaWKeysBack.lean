/-
  The statement KeysBack, walked.
  Conditions: none.
-/
import Derived.Test.YtgmbhbnhfmfidaaKeys
namespace Go.Proofs.Ytgmbhbnhfmfidaa
open Go Go.Sl
set_option linter.unusedVariables false
set_option linter.unusedSimpArgs false
theorem fn19 : fnB Try.prog 19 = true := by kernel_rfl
theorem fn25 : fnB Try.prog 25 = true := by kernel_rfl
theorem fn26 : fnB Try.prog 26 = true := by kernel_rfl
theorem fn27 : fnB Try.prog 27 = true := by kernel_rfl
theorem fn29 : fnB Try.prog 29 = true := by kernel_rfl
theorem fn30 : fnB Try.prog 30 = true := by kernel_rfl
theorem fn31 : fnB Try.prog 31 = true := by kernel_rfl
theorem fn32 : fnB Try.prog 32 = true := by kernel_rfl
theorem KeysBack_c (p q : List UInt8) (hp : p.length ≤ 140737488351232) (hq : q.length ≤ 140737488351232) {W : World} {R : List HP} {w : World} (hS : Sat W R w) : Calls Try.prog 11 [.string (str p), .string (str q)].toArray w (Ret fun v w' => v = .bool true ∧ Sat W R w') := by
  refine fn_start 42 Try.func11 rfl rfl rfl ?_
  intro a hf
  have hta := textF_len p
  refine c_seq ?_
  refine c_region ?_
  refine step_l (st_rd hf (Wn.none rfl) (rd_assign hf rfl rfl) hS rfl rfl ?_)
  clear hf; intro a hf
  refine done_l ?_
  refine t_normal ?_
  refine c_seq ?_
  refine c_seq ?_
  refine c_region ?_
  refine step_l (st_rd hf (Wn.none rfl) (rd_move hf rfl rfl) hS rfl rfl ?_)
  clear hf; intro a hf
  refine step_l (st_rd hf (Wn.none rfl) (rd_lenS hf rfl rfl Try.underlying9) hS rfl rfl ?_)
  clear hf; intro a hf
  refine step_l (st_rdB hf (Wn.none rfl) (rd_gtr hf rfl rfl rfl) hS rfl rfl ?_ ?_)
  · clear hf; intro hc1 a hf
    first
    | (first | exact Bool.noConfusion hc1 | exact absurd rfl hc1 | exact absurd (decide_eq_decide.2 (text_inj _ _)) hc1 | exact absurd (by assumption) hc1 | exact absurd hc1 (by omega); done)
    | (
      refine step_l (st_rd hf (Wn.none rfl) (rd_move hf rfl rfl) hS rfl rfl ?_)
      clear hf; intro a hf
      refine step_l (st_skip hf (Wn.some hf rfl rfl rfl rfl) rfl rfl ?_)
      clear hf; intro a hf
      refine step_l (st_skip hf (Wn.some hf rfl rfl rfl rfl) rfl rfl ?_)
      clear hf; intro a hf
      refine step_l (st_skip hf (Wn.some hf rfl rfl rfl rfl) rfl rfl ?_)
      clear hf; intro a hf
      refine step_l (st_rd hf (Wn.none rfl) (rd_pick_t hf rfl rfl rfl) hS rfl rfl ?_)
      clear hf; intro a hf
      refine done_l ?_
      refine t_normal ?_
      refine c_true hf rfl ?_
      refine c_seq ?_
      refine c_region ?_
      refine step_l (st_call hf (Wn.none rfl) rfl rfl rfl fn19 (awake9_c  hS) rfl rfl ?_)
      clear hf hS; rintro v a w ⟨rfl, hS⟩ hf
      refine step_l (st_rd hf (Wn.none rfl) (rd_assign hf rfl rfl) hS rfl rfl ?_)
      clear hf; intro a hf
      refine done_l ?_
      refine t_normal ?_
      refine c_ret ?_
      refine t_ret ?_
      refine e_res1 hf.defers rfl (res_tmp hf rfl .nil) ?_
      refine ⟨?_, hS.sub (by repeat (first | exact Sub.refl | exact Sub.none | (apply Sub.cons; (focus ((repeat (first | exact Sel.head | apply Sel.tail)); done))) | apply Sub.skip))⟩
      clear hf hS
      rfl
      )
  · clear hf; intro hc1 a hf
    first
    | (first | exact Bool.noConfusion hc1 | exact absurd rfl hc1 | exact absurd (decide_eq_decide.2 (text_inj _ _)) hc1 | exact absurd (by assumption) hc1 | exact absurd hc1 (by omega); done)
    | (
      refine step_l (st_rd hf (Wn.none rfl) (rd_move hf rfl rfl) hS rfl rfl ?_)
      clear hf; intro a hf
      refine step_l (st_rd hf (Wn.some hf rfl rfl rfl rfl) (rd_move hf rfl rfl) hS rfl rfl ?_)
      clear hf; intro a hf
      refine step_l (st_rd hf (Wn.some hf rfl rfl rfl rfl) (rd_lenS hf rfl rfl Try.underlying9) hS rfl rfl ?_)
      clear hf; intro a hf
      refine step_l (st_rdB hf (Wn.some hf rfl rfl rfl rfl) (rd_gtr hf rfl rfl rfl) hS rfl rfl ?_ ?_)
      · clear hf; intro hc2 a hf
        first
        | (first | exact Bool.noConfusion hc2 | exact absurd rfl hc2 | exact absurd (decide_eq_decide.2 (text_inj _ _)) hc2 | exact absurd (by assumption) hc2 | exact absurd hc2 (by omega); done)
        | (
          refine step_l (st_rd hf (Wn.none rfl) (rd_pick_f hf rfl rfl rfl) hS rfl rfl ?_)
          clear hf; intro a hf
          refine done_l ?_
          refine t_normal ?_
          refine c_true hf rfl ?_
          refine c_seq ?_
          refine c_region ?_
          refine step_l (st_call hf (Wn.none rfl) rfl rfl rfl fn19 (awake9_c  hS) rfl rfl ?_)
          clear hf hS; rintro v a w ⟨rfl, hS⟩ hf
          refine step_l (st_rd hf (Wn.none rfl) (rd_assign hf rfl rfl) hS rfl rfl ?_)
          clear hf; intro a hf
          refine done_l ?_
          refine t_normal ?_
          refine c_ret ?_
          refine t_ret ?_
          refine e_res1 hf.defers rfl (res_tmp hf rfl .nil) ?_
          refine ⟨?_, hS.sub (by repeat (first | exact Sub.refl | exact Sub.none | (apply Sub.cons; (focus ((repeat (first | exact Sel.head | apply Sel.tail)); done))) | apply Sub.skip))⟩
          clear hf hS
          rfl
          )
      · clear hf; intro hc2 a hf
        first
        | (first | exact Bool.noConfusion hc2 | exact absurd rfl hc2 | exact absurd (decide_eq_decide.2 (text_inj _ _)) hc2 | exact absurd (by assumption) hc2 | exact absurd hc2 (by omega); done)
        | (
          refine step_l (st_rd hf (Wn.none rfl) (rd_pick_f hf rfl rfl rfl) hS rfl rfl ?_)
          clear hf; intro a hf
          refine done_l ?_
          refine t_normal ?_
          refine c_false hf rfl ?_
          refine c_skip ?_
          refine t_normal ?_
          refine c_seq ?_
          refine c_region ?_
          refine step_l (st_rd hf (Wn.none rfl) (rd_move hf rfl rfl) hS rfl rfl ?_)
          clear hf; intro a hf
          refine step_l (st_call hf (Wn.none rfl) rfl rfl rfl fn33 (Text_c _ (by first | omega | (simp only [List.length_cons, List.length_nil, List.length_append]; omega)) hS) rfl rfl ?_)
          clear hf hS; rintro v a w ⟨rfl, hS⟩ hf
          refine step_l (st_call hf (Wn.none rfl) rfl rfl rfl fn31 (Parse_c (textF p) (by omega) hS) rfl rfl ?_)
          clear hf hS; rintro v a w ⟨hv, hS⟩ hf; rw [parse_text] at hv; subst hv
          refine step_l (st_rd hf (Wn.none rfl) (rd_move hf rfl rfl) hS rfl rfl ?_)
          clear hf; intro a hf
          refine step_l (st_rd hf (Wn.none rfl) (rd_extract hf rfl rfl rfl) hS rfl rfl ?_)
          clear hf; intro a hf
          refine step_l (st_rdb hf (Wn.none rfl) (rd_extract hf rfl rfl rfl) hS rfl rfl ?_ ?_)
          · clear hf; intro hc3 a hf
            first
            | (first | exact Bool.noConfusion hc3 | exact absurd rfl hc3 | exact absurd (decide_eq_decide.2 (text_inj _ _)) hc3 | exact absurd (by assumption) hc3 | exact absurd hc3 (by omega); done)
            | (
              refine step_l (st_rd hf (Wn.none rfl) (rd_assign hf rfl rfl) hS rfl rfl ?_)
              clear hf; intro a hf
              refine step_l (st_rd hf (Wn.none rfl) (rd_assign hf rfl rfl) hS rfl rfl ?_)
              clear hf; intro a hf
              refine done_l ?_
              refine t_normal ?_
              refine c_seq ?_
              refine c_region ?_
              refine step_l (st_rd hf (Wn.none rfl) (rd_move hf rfl rfl) hS rfl rfl ?_)
              clear hf; intro a hf
              refine step_l (st_rd hf (Wn.none rfl) (rd_move hf rfl rfl) hS rfl rfl ?_)
              clear hf; intro a hf
              refine step_l (st_rd hf (Wn.some hf rfl rfl rfl rfl) (rd_move hf rfl rfl) hS rfl rfl ?_)
              clear hf; intro a hf
              refine step_l (st_rd hf (Wn.some hf rfl rfl rfl rfl) (rd_move hf rfl rfl) hS rfl rfl ?_)
              clear hf; intro a hf
              refine step_l (st_rdB hf (Wn.some hf rfl rfl rfl rfl) (rd_eqlS hf rfl rfl rfl) hS rfl rfl ?_ ?_)
              · clear hf; intro hc4 a hf
                first
                | (first | exact Bool.noConfusion hc4 | exact absurd rfl hc4 | exact absurd (decide_eq_decide.2 (text_inj _ _)) hc4 | exact absurd (by assumption) hc4 | exact absurd hc4 (by omega); done)
                | (
                  refine step_l (st_rd hf (Wn.none rfl) (rd_pick_t hf rfl rfl rfl) hS rfl rfl ?_)
                  clear hf; intro a hf
                  refine step_l (st_rd hf (Wn.none rfl) (rd_move hf rfl rfl) hS rfl rfl ?_)
                  clear hf; intro a hf
                  refine step_l (st_rd hf (Wn.some hf rfl rfl rfl rfl) (rd_move hf rfl rfl) hS rfl rfl ?_)
                  clear hf; intro a hf
                  refine step_l (st_call hf (Wn.some hf rfl rfl rfl rfl) rfl rfl rfl fn33 (Text_c _ (by first | omega | (simp only [List.length_cons, List.length_nil, List.length_append]; omega)) hS) rfl rfl ?_)
                  clear hf hS; rintro v a w ⟨rfl, hS⟩ hf
                  refine step_l (st_rd hf (Wn.some hf rfl rfl rfl rfl) (rd_move hf rfl rfl) hS rfl rfl ?_)
                  clear hf; intro a hf
                  refine step_l (st_call hf (Wn.some hf rfl rfl rfl rfl) rfl rfl rfl fn33 (Text_c _ (by first | omega | (simp only [List.length_cons, List.length_nil, List.length_append]; omega)) hS) rfl rfl ?_)
                  clear hf hS; rintro v a w ⟨rfl, hS⟩ hf
                  refine step_l (st_rd hf (Wn.some hf rfl rfl rfl rfl) (rd_eqlS hf rfl rfl rfl) hS rfl rfl ?_)
                  clear hf; intro a hf
                  refine step_l (st_rd hf (Wn.some hf rfl rfl rfl rfl) (rd_move hf rfl rfl) hS rfl rfl ?_)
                  clear hf; intro a hf
                  refine step_l (st_rd hf (Wn.some hf rfl rfl rfl rfl) (rd_move hf rfl rfl) hS rfl rfl ?_)
                  clear hf; intro a hf
                  refine step_l (st_rd hf (Wn.some hf rfl rfl rfl rfl) (rd_eqlS hf rfl rfl rfl) hS rfl rfl ?_)
                  clear hf; intro a hf
                  refine step_l (st_rdB hf (Wn.some hf rfl rfl rfl rfl) (rd_eqlBool hf rfl rfl rfl Try.underlying4) hS rfl rfl ?_ ?_)
                  · clear hf; intro hc5 a hf
                    first
                    | (first | exact Bool.noConfusion hc5 | exact absurd rfl hc5 | exact absurd (decide_eq_decide.2 (text_inj _ _)) hc5 | exact absurd (by assumption) hc5 | exact absurd hc5 (by omega); done)
                    | (
                      refine step_l (st_rd hf (Wn.none rfl) (rd_pick_t hf rfl rfl rfl) hS rfl rfl ?_)
                      clear hf; intro a hf
                      refine step_l (st_rd hf (Wn.none rfl) (rd_move hf rfl rfl) hS rfl rfl ?_)
                      clear hf; intro a hf
                      refine step_l (st_call hf (Wn.some hf rfl rfl rfl rfl) rfl rfl rfl fn19 (awake9_c  hS) rfl rfl ?_)
                      clear hf hS; rintro v a w ⟨rfl, hS⟩ hf
                      refine step_l (st_rd hf (Wn.none rfl) (rd_pick_t hf rfl rfl rfl) hS rfl rfl ?_)
                      clear hf; intro a hf
                      refine step_l (st_rd hf (Wn.none rfl) (rd_assign hf rfl rfl) hS rfl rfl ?_)
                      clear hf; intro a hf
                      refine done_l ?_
                      refine t_normal ?_
                      refine c_ret ?_
                      refine e_res1 hf.defers rfl (res_tmp hf rfl .nil) ?_
                      refine ⟨?_, hS.sub (by repeat (first | exact Sub.refl | exact Sub.none | (apply Sub.cons; (focus ((repeat (first | exact Sel.head | apply Sel.tail)); done))) | apply Sub.skip))⟩
                      clear hf hS
                      rfl
                      )
                  · clear hf; intro hc5 a hf
                    first
                    | (first | exact Bool.noConfusion hc5 | exact absurd rfl hc5 | exact absurd (decide_eq_decide.2 (text_inj _ _)) hc5 | exact absurd (by assumption) hc5 | exact absurd hc5 (by omega); done)
                    | (
                      refine step_l (st_rd hf (Wn.none rfl) (rd_pick_t hf rfl rfl rfl) hS rfl rfl ?_)
                      clear hf; intro a hf
                      refine step_l (st_rd hf (Wn.none rfl) (rd_move hf rfl rfl) hS rfl rfl ?_)
                      clear hf; intro a hf
                      refine step_l (st_skip hf (Wn.some hf rfl rfl rfl rfl) rfl rfl ?_)
                      clear hf; intro a hf
                      refine step_l (st_rd hf (Wn.none rfl) (rd_pick_f hf rfl rfl rfl) hS rfl rfl ?_)
                      clear hf; intro a hf
                      refine step_l (st_rd hf (Wn.none rfl) (rd_assign hf rfl rfl) hS rfl rfl ?_)
                      clear hf; intro a hf
                      refine done_l ?_
                      refine t_normal ?_
                      refine c_ret ?_
                      refine e_res1 hf.defers rfl (res_tmp hf rfl .nil) ?_
                      refine ⟨?_, hS.sub (by repeat (first | exact Sub.refl | exact Sub.none | (apply Sub.cons; (focus ((repeat (first | exact Sel.head | apply Sel.tail)); done))) | apply Sub.skip))⟩
                      clear hf hS
                      rfl
                      )
                  )
              · clear hf; intro hc4 a hf
                first
                | (first | exact Bool.noConfusion hc4 | exact absurd rfl hc4 | exact absurd (decide_eq_decide.2 (text_inj _ _)) hc4 | exact absurd (by assumption) hc4 | exact absurd hc4 (by omega); done)
                | (
                  refine step_l (st_rd hf (Wn.none rfl) (rd_pick_t hf rfl rfl rfl) hS rfl rfl ?_)
                  clear hf; intro a hf
                  refine step_l (st_rd hf (Wn.none rfl) (rd_move hf rfl rfl) hS rfl rfl ?_)
                  clear hf; intro a hf
                  refine step_l (st_skip hf (Wn.some hf rfl rfl rfl rfl) rfl rfl ?_)
                  clear hf; intro a hf
                  refine step_l (st_skip hf (Wn.some hf rfl rfl rfl rfl) rfl rfl ?_)
                  clear hf; intro a hf
                  refine step_l (st_skip hf (Wn.some hf rfl rfl rfl rfl) rfl rfl ?_)
                  clear hf; intro a hf
                  refine step_l (st_skip hf (Wn.some hf rfl rfl rfl rfl) rfl rfl ?_)
                  clear hf; intro a hf
                  refine step_l (st_skip hf (Wn.some hf rfl rfl rfl rfl) rfl rfl ?_)
                  clear hf; intro a hf
                  refine step_l (st_skip hf (Wn.some hf rfl rfl rfl rfl) rfl rfl ?_)
                  clear hf; intro a hf
                  refine step_l (st_skip hf (Wn.some hf rfl rfl rfl rfl) rfl rfl ?_)
                  clear hf; intro a hf
                  refine step_l (st_skip hf (Wn.some hf rfl rfl rfl rfl) rfl rfl ?_)
                  clear hf; intro a hf
                  refine step_l (st_skip hf (Wn.some hf rfl rfl rfl rfl) rfl rfl ?_)
                  clear hf; intro a hf
                  refine step_l (st_rd hf (Wn.none rfl) (rd_pick_f hf rfl rfl rfl) hS rfl rfl ?_)
                  clear hf; intro a hf
                  refine step_l (st_rd hf (Wn.none rfl) (rd_move hf rfl rfl) hS rfl rfl ?_)
                  clear hf; intro a hf
                  refine step_l (st_skip hf (Wn.some hf rfl rfl rfl rfl) rfl rfl ?_)
                  clear hf; intro a hf
                  refine step_l (st_rd hf (Wn.none rfl) (rd_pick_f hf rfl rfl rfl) hS rfl rfl ?_)
                  clear hf; intro a hf
                  refine step_l (st_rd hf (Wn.none rfl) (rd_assign hf rfl rfl) hS rfl rfl ?_)
                  clear hf; intro a hf
                  refine done_l ?_
                  refine t_normal ?_
                  refine c_ret ?_
                  refine e_res1 hf.defers rfl (res_tmp hf rfl .nil) ?_
                  refine ⟨?_, hS.sub (by repeat (first | exact Sub.refl | exact Sub.none | (apply Sub.cons; (focus ((repeat (first | exact Sel.head | apply Sel.tail)); done))) | apply Sub.skip))⟩
                  clear hf hS
                  rfl
                  )
              )
          · clear hf; intro hc3 a hf
            first
            | (first | exact Bool.noConfusion hc3 | exact absurd rfl hc3 | exact absurd (decide_eq_decide.2 (text_inj _ _)) hc3 | exact absurd (by assumption) hc3 | exact absurd hc3 (by omega); done)
            | (
              refine step_l (st_rd hf (Wn.none rfl) (rd_assign hf rfl rfl) hS rfl rfl ?_)
              clear hf; intro a hf
              refine step_l (st_rd hf (Wn.none rfl) (rd_assign hf rfl rfl) hS rfl rfl ?_)
              clear hf; intro a hf
              refine done_l ?_
              refine t_normal ?_
              refine c_seq ?_
              refine c_region ?_
              refine step_l (st_rd hf (Wn.none rfl) (rd_move hf rfl rfl) hS rfl rfl ?_)
              clear hf; intro a hf
              refine step_l (st_rd hf (Wn.none rfl) (rd_move hf rfl rfl) hS rfl rfl ?_)
              clear hf; intro a hf
              refine step_l (st_skip hf (Wn.some hf rfl rfl rfl rfl) rfl rfl ?_)
              clear hf; intro a hf
              refine step_l (st_skip hf (Wn.some hf rfl rfl rfl rfl) rfl rfl ?_)
              clear hf; intro a hf
              refine step_l (st_skip hf (Wn.some hf rfl rfl rfl rfl) rfl rfl ?_)
              clear hf; intro a hf
              refine step_l (st_rd hf (Wn.none rfl) (rd_pick_f hf rfl rfl rfl) hS rfl rfl ?_)
              clear hf; intro a hf
              refine step_l (st_rd hf (Wn.none rfl) (rd_move hf rfl rfl) hS rfl rfl ?_)
              clear hf; intro a hf
              refine step_l (st_skip hf (Wn.some hf rfl rfl rfl rfl) rfl rfl ?_)
              clear hf; intro a hf
              refine step_l (st_skip hf (Wn.some hf rfl rfl rfl rfl) rfl rfl ?_)
              clear hf; intro a hf
              refine step_l (st_skip hf (Wn.some hf rfl rfl rfl rfl) rfl rfl ?_)
              clear hf; intro a hf
              refine step_l (st_skip hf (Wn.some hf rfl rfl rfl rfl) rfl rfl ?_)
              clear hf; intro a hf
              refine step_l (st_skip hf (Wn.some hf rfl rfl rfl rfl) rfl rfl ?_)
              clear hf; intro a hf
              refine step_l (st_skip hf (Wn.some hf rfl rfl rfl rfl) rfl rfl ?_)
              clear hf; intro a hf
              refine step_l (st_skip hf (Wn.some hf rfl rfl rfl rfl) rfl rfl ?_)
              clear hf; intro a hf
              refine step_l (st_skip hf (Wn.some hf rfl rfl rfl rfl) rfl rfl ?_)
              clear hf; intro a hf
              refine step_l (st_skip hf (Wn.some hf rfl rfl rfl rfl) rfl rfl ?_)
              clear hf; intro a hf
              refine step_l (st_rd hf (Wn.none rfl) (rd_pick_f hf rfl rfl rfl) hS rfl rfl ?_)
              clear hf; intro a hf
              refine step_l (st_rd hf (Wn.none rfl) (rd_move hf rfl rfl) hS rfl rfl ?_)
              clear hf; intro a hf
              refine step_l (st_skip hf (Wn.some hf rfl rfl rfl rfl) rfl rfl ?_)
              clear hf; intro a hf
              refine step_l (st_rd hf (Wn.none rfl) (rd_pick_f hf rfl rfl rfl) hS rfl rfl ?_)
              clear hf; intro a hf
              refine step_l (st_rd hf (Wn.none rfl) (rd_assign hf rfl rfl) hS rfl rfl ?_)
              clear hf; intro a hf
              refine done_l ?_
              refine t_normal ?_
              refine c_ret ?_
              refine e_res1 hf.defers rfl (res_tmp hf rfl .nil) ?_
              refine ⟨?_, hS.sub (by repeat (first | exact Sub.refl | exact Sub.none | (apply Sub.cons; (focus ((repeat (first | exact Sel.head | apply Sel.tail)); done))) | apply Sub.skip))⟩
              clear hf hS
              rfl
              )
          )
      )

end Go.Proofs.Ytgmbhbnhfmfidaa
