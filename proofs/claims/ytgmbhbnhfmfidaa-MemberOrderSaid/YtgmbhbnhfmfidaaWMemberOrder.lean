/-
  The statement MemberOrder, walked.
  Conditions: none.
-/
import Derived.Test.YtgmbhbnhfmfidaaMem
namespace Go.Proofs.Ytgmbhbnhfmfidaa
open Go Go.Sl
set_option linter.unusedVariables false
set_option linter.unusedSimpArgs false
set_option maxHeartbeats 4000000 in
theorem MemberOrder_c (s i t j u k : Int) {W : World} {R : List HP} {w : World} (hS : Sat W R w) : Calls Try.prog 3 [.agg #[.int .i64 s, .int .i64 i], .agg #[.int .i64 t, .int .i64 j], .agg #[.int .i64 u, .int .i64 k]].toArray w (Ret fun v w' => v = .bool true ∧ Sat W R w') := by
  refine fn_start 92 Try.func3 rfl rfl rfl ?_
  intro a hf
  refine c_seq ?_
  refine c_region ?_
  refine step_l (st_box hf (Wn.none rfl) hS rfl rfl (by rfl) rfl rfl ?_)
  clear hf hS; intro b_1 a w hf hS
  refine step_l (st_box hf (Wn.none rfl) hS rfl rfl (by rfl) rfl rfl ?_)
  clear hf hS; intro b_2 a w hf hS
  refine step_l (st_box hf (Wn.none rfl) hS rfl rfl (by rfl) rfl rfl ?_)
  clear hf hS; intro b_3 a w hf hS
  refine step_l (st_rd hf (Wn.none rfl) (rd_assign hf rfl rfl) hS rfl rfl ?_)
  clear hf; intro a hf
  refine done_l ?_
  refine t_normal ?_
  refine c_seq ?_
  refine c_seq ?_
  refine c_region ?_
  refine step_l (st_rd hf (Wn.none rfl) (rd_loadN hf rfl rfl ag23 sz23 (by intro _ h; exact loadN_of h (by repeat (first | exact Sel.head | apply Sel.tail)) (by repeat (first | exact Seg.nil | apply Seg.cons | apply Seg.succ)) )) hS rfl rfl ?_)
  clear hf; intro a hf
  refine step_l (st_call hf (Wn.none rfl) rfl rfl rfl fn14 (May_c _ _ hS) rfl rfl ?_)
  clear hf hS; rintro v a w ⟨rfl, hS⟩ hf
  first | refine split_dec (d := 9) hf rfl ?_ ?_ | refine split_bool (d := 9) hf rfl ?_ ?_
  · clear hf; intro hc4 hf
    first
    | (first | contradiction | exact absurd (jcomm _ _ _ _) hc4 | exact absurd (jidem _ _) hc4 | exact absurd (jassoc _ _ _ _ _ _) hc4 | exact absurd (leq_l _ _ _ _) hc4 | exact absurd (leq_r _ _ _ _) hc4 | exact False.elim ((leq_total s i t j).elim (by assumption) (by assumption)) | exact absurd (leq_lub (by assumption) (by assumption)) hc4 | exact absurd (may_join (by assumption) (by assumption)) hc4; done)
    | (
      refine step_l (st_rd hf (Wn.none rfl) (rd_not hf rfl rfl) hS rfl rfl ?_)
      clear hf; intro a hf
      refine step_l (st_rd hf (Wn.none rfl) (rd_move hf rfl rfl) hS rfl rfl ?_)
      clear hf; intro a hf
      refine step_l (st_rd hf (Wn.some hf rfl rfl rfl rfl) (rd_loadN hf rfl rfl ag23 sz23 (by intro _ h; exact loadN_of h (by repeat (first | exact Sel.head | apply Sel.tail)) (by repeat (first | exact Seg.nil | apply Seg.cons | apply Seg.succ)) )) hS rfl rfl ?_)
      clear hf; intro a hf
      refine step_l (st_call hf (Wn.some hf rfl rfl rfl rfl) rfl rfl rfl fn14 (May_c _ _ hS) rfl rfl ?_)
      clear hf hS; rintro v a w ⟨rfl, hS⟩ hf
      first | refine split_dec (d := 13) hf rfl ?_ ?_ | refine split_bool (d := 13) hf rfl ?_ ?_
      · clear hf; intro hc5 hf
        first
        | (first | contradiction | exact absurd (jcomm _ _ _ _) hc5 | exact absurd (jidem _ _) hc5 | exact absurd (jassoc _ _ _ _ _ _) hc5 | exact absurd (leq_l _ _ _ _) hc5 | exact absurd (leq_r _ _ _ _) hc5 | exact False.elim ((leq_total s i t j).elim (by assumption) (by assumption)) | exact absurd (leq_lub (by assumption) (by assumption)) hc5 | exact absurd (may_join (by assumption) (by assumption)) hc5; done)
        | (
          refine step_l (st_rd hf (Wn.some hf rfl rfl rfl rfl) (rd_not hf rfl rfl) hS rfl rfl ?_)
          clear hf; intro a hf
          refine step_l (st_rd hf (Wn.none rfl) (rd_pick_f hf rfl rfl rfl) hS rfl rfl ?_)
          clear hf; intro a hf
          refine step_l (st_rd hf (Wn.none rfl) (rd_move hf rfl rfl) hS rfl rfl ?_)
          clear hf; intro a hf
          refine step_l (st_rd hf (Wn.some hf rfl rfl rfl rfl) (rd_loadN hf rfl rfl ag23 sz23 (by intro _ h; exact loadN_of h (by repeat (first | exact Sel.head | apply Sel.tail)) (by repeat (first | exact Seg.nil | apply Seg.cons | apply Seg.succ)) )) hS rfl rfl ?_)
          clear hf; intro a hf
          refine step_l (st_call hf (Wn.some hf rfl rfl rfl rfl) rfl rfl rfl fn14 (May_c _ _ hS) rfl rfl ?_)
          clear hf hS; rintro v a w ⟨rfl, hS⟩ hf
          first | refine split_dec (d := 18) hf rfl ?_ ?_ | refine split_bool (d := 18) hf rfl ?_ ?_
          · clear hf; intro hc6 hf
            first
            | (first | contradiction | exact absurd (jcomm _ _ _ _) hc6 | exact absurd (jidem _ _) hc6 | exact absurd (jassoc _ _ _ _ _ _) hc6 | exact absurd (leq_l _ _ _ _) hc6 | exact absurd (leq_r _ _ _ _) hc6 | exact False.elim ((leq_total s i t j).elim (by assumption) (by assumption)) | exact absurd (leq_lub (by assumption) (by assumption)) hc6 | exact absurd (may_join (by assumption) (by assumption)) hc6; done)
            | (
              refine step_l (st_rd hf (Wn.some hf rfl rfl rfl rfl) (rd_not hf rfl rfl) hS rfl rfl ?_)
              clear hf; intro a hf
              refine step_l (st_rd hf (Wn.none rfl) (rd_pick_f hf rfl rfl rfl) hS rfl rfl ?_)
              clear hf; intro a hf
              refine done_l ?_
              refine t_normal ?_
              refine c_false hf rfl ?_
              refine c_skip ?_
              refine t_normal ?_
              refine c_seq ?_
              refine c_region ?_
              refine step_l (st_rd hf (Wn.none rfl) (rd_loadN hf rfl rfl ag23 sz23 (by intro _ h; exact loadN_of h (by repeat (first | exact Sel.head | apply Sel.tail)) (by repeat (first | exact Seg.nil | apply Seg.cons | apply Seg.succ)) )) hS rfl rfl ?_)
              clear hf; intro a hf
              refine step_l (st_rd hf (Wn.none rfl) (rd_loadN hf rfl rfl ag23 sz23 (by intro _ h; exact loadN_of h (by repeat (first | exact Sel.head | apply Sel.tail)) (by repeat (first | exact Seg.nil | apply Seg.cons | apply Seg.succ)) )) hS rfl rfl ?_)
              clear hf; intro a hf
              refine step_l (st_call hf (Wn.none rfl) rfl rfl rfl fn16 (Join_c _ _ _ _ hS) rfl rfl ?_)
              clear hf hS; rintro v a w ⟨rfl, hS⟩ hf
              refine step_l (st_alloc hf (Wn.none rfl) hS rfl zr23 (by rfl) rfl rfl ?_)
              clear hf hS; intro b_7 a w hf hS
              refine step_l (st_store hf (Wn.none rfl) hS rfl rfl rfl (by rfl) sz23 (by rfl) (by rfl) (by repeat (first | exact Sel.head | apply Sel.tail)) (by repeat (first | exact Put.nil | apply Put.cons | apply Put.succ)) rfl ?_)
              clear hf hS; intro a w hf hS
              refine done_l ?_
              refine t_normal ?_
              refine c_seq ?_
              refine c_seq ?_
              refine any_begin mixed hS.drew ?_
              replace hS := hS.drew
              have hT := hS
              refine any_take (i := 0) hf rfl (by kernel_rfl) (by kernel_rfl) (by kernel_rfl) (fun _ _ _ h => h) (Wn.none rfl) (rd_loadN hf rfl rfl ag23 sz23 (by intro _ h; exact loadN_of h (by repeat (first | exact Sel.head | apply Sel.tail)) (by repeat (first | exact Seg.nil | apply Seg.cons | apply Seg.succ)) )) hT rfl rfl ?_
              clear hf; intro a hf
              refine any_take (i := 1) hf rfl (by kernel_rfl) (by kernel_rfl) (by kernel_rfl) (fun _ _ _ h => h) (Wn.none rfl) (rd_loadN hf rfl rfl ag23 sz23 (by intro _ h; exact loadN_of h (by repeat (first | exact Sel.head | apply Sel.tail)) (by repeat (first | exact Seg.nil | apply Seg.cons | apply Seg.succ)) )) hT rfl rfl ?_
              clear hf; intro a hf
              refine any_take (i := 2) hf rfl (by kernel_rfl) (by kernel_rfl) (by kernel_rfl) (fun _ _ _ h => h) (Wn.none rfl) (rd_loadN hf rfl rfl ag23 sz23 (by intro _ h; exact loadN_of h (by repeat (first | exact Sel.head | apply Sel.tail)) (by repeat (first | exact Seg.nil | apply Seg.cons | apply Seg.succ)) )) hT rfl rfl ?_
              clear hf; intro a hf
              refine any_one (i := 3) rfl (by kernel_rfl) (st_call hf (Wn.none rfl) rfl rfl rfl fn16 (Join_c _ _ _ _ hS) rfl rfl ?_)
              clear hf hS; rintro v a w ⟨rfl, hS⟩ hf
              replace hT := hS.sub' hT (by repeat (first | exact Sub.refl | exact Sub.none | (apply Sub.cons; (focus ((repeat (first | exact Sel.head | apply Sel.tail)); done))) | apply Sub.skip))
              refine ⟨hT, ?_⟩
              refine any_takeB (i := 4) hf rfl (by kernel_rfl) (by kernel_rfl) (by kernel_rfl) (fun _ _ _ _ h => h) (Wn.none rfl) (rd_neqM hf rfl rfl rfl) hT rfl rfl ?_ ?_
              · clear hf; intro hc8 a hf
                first
                | (first | contradiction | exact absurd (jcomm _ _ _ _) hc8 | exact absurd (jidem _ _) hc8 | exact absurd (jassoc _ _ _ _ _ _) hc8 | exact absurd (leq_l _ _ _ _) hc8 | exact absurd (leq_r _ _ _ _) hc8 | exact False.elim ((leq_total s i t j).elim (by assumption) (by assumption)) | exact absurd (leq_lub (by assumption) (by assumption)) hc8 | exact absurd (may_join (by assumption) (by assumption)) hc8; done)
                | (
                  refine any_take (i := 5) hf rfl (by kernel_rfl) (by kernel_rfl) (by kernel_rfl) (fun _ _ _ h => h) (Wn.none rfl) (rd_move hf rfl rfl) hT rfl rfl ?_
                  clear hf; intro a hf
                  refine any_skip (i := 6) hf rfl (by kernel_rfl) (by kernel_rfl) (by kernel_rfl) (fun _ _ _ h => h) (Wn.some hf rfl rfl rfl rfl) hT rfl rfl ?_
                  clear hf; intro a hf
                  refine any_skip (i := 7) hf rfl (by kernel_rfl) (by kernel_rfl) (by kernel_rfl) (fun _ _ _ h => h) (Wn.some hf rfl rfl rfl rfl) hT rfl rfl ?_
                  clear hf; intro a hf
                  refine any_skip (i := 8) hf rfl (by kernel_rfl) (by kernel_rfl) (by kernel_rfl) (fun _ _ _ h => h) (Wn.some hf rfl rfl rfl rfl) hT rfl rfl ?_
                  clear hf; intro a hf
                  refine any_skip (i := 9) hf rfl (by kernel_rfl) (by kernel_rfl) (by kernel_rfl) (fun _ _ _ h => h) (Wn.some hf rfl rfl rfl rfl) hT rfl rfl ?_
                  clear hf; intro a hf
                  refine any_skip (i := 10) hf rfl (by kernel_rfl) (by kernel_rfl) (by kernel_rfl) (fun _ _ _ h => h) (Wn.some hf rfl rfl rfl rfl) hT rfl rfl ?_
                  clear hf; intro a hf
                  refine any_take (i := 11) hf rfl (by kernel_rfl) (by kernel_rfl) (by kernel_rfl) (fun _ _ _ h => h) (Wn.none rfl) (rd_pick_t hf rfl rfl rfl) hT rfl rfl ?_
                  clear hf; intro a hf
                  refine any_take (i := 12) hf rfl (by kernel_rfl) (by kernel_rfl) (by kernel_rfl) (fun _ _ _ h => h) (Wn.none rfl) (rd_move hf rfl rfl) hT rfl rfl ?_
                  clear hf; intro a hf
                  refine any_skip (i := 13) hf rfl (by kernel_rfl) (by kernel_rfl) (by kernel_rfl) (fun _ _ _ h => h) (Wn.some hf rfl rfl rfl rfl) hT rfl rfl ?_
                  clear hf; intro a hf
                  refine any_skip (i := 14) hf rfl (by kernel_rfl) (by kernel_rfl) (by kernel_rfl) (fun _ _ _ h => h) (Wn.some hf rfl rfl rfl rfl) hT rfl rfl ?_
                  clear hf; intro a hf
                  refine any_skip (i := 15) hf rfl (by kernel_rfl) (by kernel_rfl) (by kernel_rfl) (fun _ _ _ h => h) (Wn.some hf rfl rfl rfl rfl) hT rfl rfl ?_
                  clear hf; intro a hf
                  refine any_skip (i := 16) hf rfl (by kernel_rfl) (by kernel_rfl) (by kernel_rfl) (fun _ _ _ h => h) (Wn.some hf rfl rfl rfl rfl) hT rfl rfl ?_
                  clear hf; intro a hf
                  refine any_skip (i := 17) hf rfl (by kernel_rfl) (by kernel_rfl) (by kernel_rfl) (fun _ _ _ h => h) (Wn.some hf rfl rfl rfl rfl) hT rfl rfl ?_
                  clear hf; intro a hf
                  refine any_skip (i := 18) hf rfl (by kernel_rfl) (by kernel_rfl) (by kernel_rfl) (fun _ _ _ h => h) (Wn.some hf rfl rfl rfl rfl) hT rfl rfl ?_
                  clear hf; intro a hf
                  refine any_skip (i := 19) hf rfl (by kernel_rfl) (by kernel_rfl) (by kernel_rfl) (fun _ _ _ h => h) (Wn.some hf rfl rfl rfl rfl) hT rfl rfl ?_
                  clear hf; intro a hf
                  refine any_skip (i := 20) hf rfl (by kernel_rfl) (by kernel_rfl) (by kernel_rfl) (fun _ _ _ h => h) (Wn.some hf rfl rfl rfl rfl) hT rfl rfl ?_
                  clear hf; intro a hf
                  refine any_skip (i := 21) hf rfl (by kernel_rfl) (by kernel_rfl) (by kernel_rfl) (fun _ _ _ h => h) (Wn.some hf rfl rfl rfl rfl) hT rfl rfl ?_
                  clear hf; intro a hf
                  refine any_take (i := 22) hf rfl (by kernel_rfl) (by kernel_rfl) (by kernel_rfl) (fun _ _ _ h => h) (Wn.none rfl) (rd_pick_t hf rfl rfl rfl) hT rfl rfl ?_
                  clear hf; intro a hf
                  refine any_take (i := 23) hf rfl (by kernel_rfl) (by kernel_rfl) (by kernel_rfl) (fun _ _ _ h => h) (Wn.none rfl) (rd_move hf rfl rfl) hT rfl rfl ?_
                  clear hf; intro a hf
                  refine any_skip (i := 24) hf rfl (by kernel_rfl) (by kernel_rfl) (by kernel_rfl) (fun _ _ _ h => h) (Wn.some hf rfl rfl rfl rfl) hT rfl rfl ?_
                  clear hf; intro a hf
                  refine any_skip (i := 25) hf rfl (by kernel_rfl) (by kernel_rfl) (by kernel_rfl) (fun _ _ _ h => h) (Wn.some hf rfl rfl rfl rfl) hT rfl rfl ?_
                  clear hf; intro a hf
                  refine any_skip (i := 26) hf rfl (by kernel_rfl) (by kernel_rfl) (by kernel_rfl) (fun _ _ _ h => h) (Wn.some hf rfl rfl rfl rfl) hT rfl rfl ?_
                  clear hf; intro a hf
                  refine any_skip (i := 27) hf rfl (by kernel_rfl) (by kernel_rfl) (by kernel_rfl) (fun _ _ _ h => h) (Wn.some hf rfl rfl rfl rfl) hT rfl rfl ?_
                  clear hf; intro a hf
                  refine any_take (i := 28) hf rfl (by kernel_rfl) (by kernel_rfl) (by kernel_rfl) (fun _ _ _ h => h) (Wn.none rfl) (rd_pick_t hf rfl rfl rfl) hT rfl rfl ?_
                  clear hf; intro a hf
                  refine any_take (i := 29) hf rfl (by kernel_rfl) (by kernel_rfl) (by kernel_rfl) (fun _ _ _ h => h) (Wn.none rfl) (rd_move hf rfl rfl) hT rfl rfl ?_
                  clear hf; intro a hf
                  refine any_skip (i := 30) hf rfl (by kernel_rfl) (by kernel_rfl) (by kernel_rfl) (fun _ _ _ h => h) (Wn.some hf rfl rfl rfl rfl) hT rfl rfl ?_
                  clear hf; intro a hf
                  refine any_skip (i := 31) hf rfl (by kernel_rfl) (by kernel_rfl) (by kernel_rfl) (fun _ _ _ h => h) (Wn.some hf rfl rfl rfl rfl) hT rfl rfl ?_
                  clear hf; intro a hf
                  refine any_skip (i := 32) hf rfl (by kernel_rfl) (by kernel_rfl) (by kernel_rfl) (fun _ _ _ h => h) (Wn.some hf rfl rfl rfl rfl) hT rfl rfl ?_
                  clear hf; intro a hf
                  refine any_skip (i := 33) hf rfl (by kernel_rfl) (by kernel_rfl) (by kernel_rfl) (fun _ _ _ h => h) (Wn.some hf rfl rfl rfl rfl) hT rfl rfl ?_
                  clear hf; intro a hf
                  refine any_take (i := 34) hf rfl (by kernel_rfl) (by kernel_rfl) (by kernel_rfl) (fun _ _ _ h => h) (Wn.none rfl) (rd_pick_t hf rfl rfl rfl) hT rfl rfl ?_
                  clear hf; intro a hf
                  refine any_done (by kernel_rfl) ?_
                  refine t_normal ?_
                  refine c_true hf rfl ?_
                  refine c_seq ?_
                  refine c_region ?_
                  refine step_l (st_rd hf (Wn.none rfl) (rd_assign hf rfl rfl) hS rfl rfl ?_)
                  clear hf; intro a hf
                  refine done_l ?_
                  refine t_normal ?_
                  refine c_ret ?_
                  refine t_ret ?_
                  refine e_res1 hf.defers rfl (res_tmp hf rfl .nil) ?_
                  refine ⟨?_, hS.sub (by repeat (first | exact Sub.refl | exact Sub.none | (apply Sub.cons; (focus ((repeat (first | exact Sel.head | apply Sel.tail)); done))) | apply Sub.skip))⟩
                  clear hf hS
                  rfl
                  )
              · clear hf; intro hc8 a hf
                first
                | (first | contradiction | exact absurd (jcomm _ _ _ _) hc8 | exact absurd (jidem _ _) hc8 | exact absurd (jassoc _ _ _ _ _ _) hc8 | exact absurd (leq_l _ _ _ _) hc8 | exact absurd (leq_r _ _ _ _) hc8 | exact False.elim ((leq_total s i t j).elim (by assumption) (by assumption)) | exact absurd (leq_lub (by assumption) (by assumption)) hc8 | exact absurd (may_join (by assumption) (by assumption)) hc8; done)
                | (
                  refine any_take (i := 5) hf rfl (by kernel_rfl) (by kernel_rfl) (by kernel_rfl) (fun _ _ _ h => h) (Wn.none rfl) (rd_move hf rfl rfl) hT rfl rfl ?_
                  clear hf; intro a hf
                  refine any_take (i := 6) hf rfl (by kernel_rfl) (by kernel_rfl) (by kernel_rfl) (fun _ _ _ h => h) (Wn.some hf rfl rfl rfl rfl) (rd_loadN hf rfl rfl ag23 sz23 (by intro _ h; exact loadN_of h (by repeat (first | exact Sel.head | apply Sel.tail)) (by repeat (first | exact Seg.nil | apply Seg.cons | apply Seg.succ)) )) hT rfl rfl ?_
                  clear hf; intro a hf
                  refine any_take (i := 7) hf rfl (by kernel_rfl) (by kernel_rfl) (by kernel_rfl) (fun _ _ _ h => h) (Wn.some hf rfl rfl rfl rfl) (rd_loadN hf rfl rfl ag23 sz23 (by intro _ h; exact loadN_of h (by repeat (first | exact Sel.head | apply Sel.tail)) (by repeat (first | exact Seg.nil | apply Seg.cons | apply Seg.succ)) )) hT rfl rfl ?_
                  clear hf; intro a hf
                  refine any_take (i := 9) hf rfl (by kernel_rfl) (by kernel_rfl) (by kernel_rfl) (fun _ _ _ h => h) (Wn.some hf rfl rfl rfl rfl) (rd_loadN hf rfl rfl ag23 sz23 (by intro _ h; exact loadN_of h (by repeat (first | exact Sel.head | apply Sel.tail)) (by repeat (first | exact Seg.nil | apply Seg.cons | apply Seg.succ)) )) hT rfl rfl ?_
                  clear hf; intro a hf
                  refine any_one (i := 8) rfl (by kernel_rfl) (st_call hf (Wn.some hf rfl rfl rfl rfl) rfl rfl rfl fn16 (Join_c _ _ _ _ hS) rfl rfl ?_)
                  clear hf hS; rintro v a w ⟨rfl, hS⟩ hf
                  replace hT := hS.sub' hT (by repeat (first | exact Sub.refl | exact Sub.none | (apply Sub.cons; (focus ((repeat (first | exact Sel.head | apply Sel.tail)); done))) | apply Sub.skip))
                  refine ⟨hT, ?_⟩
                  refine any_takeB (i := 10) hf rfl (by kernel_rfl) (by kernel_rfl) (by kernel_rfl) (fun _ _ _ _ h => h) (Wn.some hf rfl rfl rfl rfl) (rd_neqM hf rfl rfl rfl) hT rfl rfl ?_ ?_
                  · clear hf; intro hc9 a hf
                    first
                    | (first | contradiction | exact absurd (jcomm _ _ _ _) hc9 | exact absurd (jidem _ _) hc9 | exact absurd (jassoc _ _ _ _ _ _) hc9 | exact absurd (leq_l _ _ _ _) hc9 | exact absurd (leq_r _ _ _ _) hc9 | exact False.elim ((leq_total s i t j).elim (by assumption) (by assumption)) | exact absurd (leq_lub (by assumption) (by assumption)) hc9 | exact absurd (may_join (by assumption) (by assumption)) hc9; done)
                    | (
                      refine any_take (i := 11) hf rfl (by kernel_rfl) (by kernel_rfl) (by kernel_rfl) (fun _ _ _ h => h) (Wn.none rfl) (rd_pick_f hf rfl rfl rfl) hT rfl rfl ?_
                      clear hf; intro a hf
                      refine any_take (i := 12) hf rfl (by kernel_rfl) (by kernel_rfl) (by kernel_rfl) (fun _ _ _ h => h) (Wn.none rfl) (rd_move hf rfl rfl) hT rfl rfl ?_
                      clear hf; intro a hf
                      refine any_skip (i := 13) hf rfl (by kernel_rfl) (by kernel_rfl) (by kernel_rfl) (fun _ _ _ h => h) (Wn.some hf rfl rfl rfl rfl) hT rfl rfl ?_
                      clear hf; intro a hf
                      refine any_skip (i := 14) hf rfl (by kernel_rfl) (by kernel_rfl) (by kernel_rfl) (fun _ _ _ h => h) (Wn.some hf rfl rfl rfl rfl) hT rfl rfl ?_
                      clear hf; intro a hf
                      refine any_skip (i := 15) hf rfl (by kernel_rfl) (by kernel_rfl) (by kernel_rfl) (fun _ _ _ h => h) (Wn.some hf rfl rfl rfl rfl) hT rfl rfl ?_
                      clear hf; intro a hf
                      refine any_skip (i := 16) hf rfl (by kernel_rfl) (by kernel_rfl) (by kernel_rfl) (fun _ _ _ h => h) (Wn.some hf rfl rfl rfl rfl) hT rfl rfl ?_
                      clear hf; intro a hf
                      refine any_skip (i := 17) hf rfl (by kernel_rfl) (by kernel_rfl) (by kernel_rfl) (fun _ _ _ h => h) (Wn.some hf rfl rfl rfl rfl) hT rfl rfl ?_
                      clear hf; intro a hf
                      refine any_skip (i := 18) hf rfl (by kernel_rfl) (by kernel_rfl) (by kernel_rfl) (fun _ _ _ h => h) (Wn.some hf rfl rfl rfl rfl) hT rfl rfl ?_
                      clear hf; intro a hf
                      refine any_skip (i := 19) hf rfl (by kernel_rfl) (by kernel_rfl) (by kernel_rfl) (fun _ _ _ h => h) (Wn.some hf rfl rfl rfl rfl) hT rfl rfl ?_
                      clear hf; intro a hf
                      refine any_skip (i := 20) hf rfl (by kernel_rfl) (by kernel_rfl) (by kernel_rfl) (fun _ _ _ h => h) (Wn.some hf rfl rfl rfl rfl) hT rfl rfl ?_
                      clear hf; intro a hf
                      refine any_skip (i := 21) hf rfl (by kernel_rfl) (by kernel_rfl) (by kernel_rfl) (fun _ _ _ h => h) (Wn.some hf rfl rfl rfl rfl) hT rfl rfl ?_
                      clear hf; intro a hf
                      refine any_take (i := 22) hf rfl (by kernel_rfl) (by kernel_rfl) (by kernel_rfl) (fun _ _ _ h => h) (Wn.none rfl) (rd_pick_t hf rfl rfl rfl) hT rfl rfl ?_
                      clear hf; intro a hf
                      refine any_take (i := 23) hf rfl (by kernel_rfl) (by kernel_rfl) (by kernel_rfl) (fun _ _ _ h => h) (Wn.none rfl) (rd_move hf rfl rfl) hT rfl rfl ?_
                      clear hf; intro a hf
                      refine any_skip (i := 24) hf rfl (by kernel_rfl) (by kernel_rfl) (by kernel_rfl) (fun _ _ _ h => h) (Wn.some hf rfl rfl rfl rfl) hT rfl rfl ?_
                      clear hf; intro a hf
                      refine any_skip (i := 25) hf rfl (by kernel_rfl) (by kernel_rfl) (by kernel_rfl) (fun _ _ _ h => h) (Wn.some hf rfl rfl rfl rfl) hT rfl rfl ?_
                      clear hf; intro a hf
                      refine any_skip (i := 26) hf rfl (by kernel_rfl) (by kernel_rfl) (by kernel_rfl) (fun _ _ _ h => h) (Wn.some hf rfl rfl rfl rfl) hT rfl rfl ?_
                      clear hf; intro a hf
                      refine any_skip (i := 27) hf rfl (by kernel_rfl) (by kernel_rfl) (by kernel_rfl) (fun _ _ _ h => h) (Wn.some hf rfl rfl rfl rfl) hT rfl rfl ?_
                      clear hf; intro a hf
                      refine any_take (i := 28) hf rfl (by kernel_rfl) (by kernel_rfl) (by kernel_rfl) (fun _ _ _ h => h) (Wn.none rfl) (rd_pick_t hf rfl rfl rfl) hT rfl rfl ?_
                      clear hf; intro a hf
                      refine any_take (i := 29) hf rfl (by kernel_rfl) (by kernel_rfl) (by kernel_rfl) (fun _ _ _ h => h) (Wn.none rfl) (rd_move hf rfl rfl) hT rfl rfl ?_
                      clear hf; intro a hf
                      refine any_skip (i := 30) hf rfl (by kernel_rfl) (by kernel_rfl) (by kernel_rfl) (fun _ _ _ h => h) (Wn.some hf rfl rfl rfl rfl) hT rfl rfl ?_
                      clear hf; intro a hf
                      refine any_skip (i := 31) hf rfl (by kernel_rfl) (by kernel_rfl) (by kernel_rfl) (fun _ _ _ h => h) (Wn.some hf rfl rfl rfl rfl) hT rfl rfl ?_
                      clear hf; intro a hf
                      refine any_skip (i := 32) hf rfl (by kernel_rfl) (by kernel_rfl) (by kernel_rfl) (fun _ _ _ h => h) (Wn.some hf rfl rfl rfl rfl) hT rfl rfl ?_
                      clear hf; intro a hf
                      refine any_skip (i := 33) hf rfl (by kernel_rfl) (by kernel_rfl) (by kernel_rfl) (fun _ _ _ h => h) (Wn.some hf rfl rfl rfl rfl) hT rfl rfl ?_
                      clear hf; intro a hf
                      refine any_take (i := 34) hf rfl (by kernel_rfl) (by kernel_rfl) (by kernel_rfl) (fun _ _ _ h => h) (Wn.none rfl) (rd_pick_t hf rfl rfl rfl) hT rfl rfl ?_
                      clear hf; intro a hf
                      refine any_done (by kernel_rfl) ?_
                      refine t_normal ?_
                      refine c_true hf rfl ?_
                      refine c_seq ?_
                      refine c_region ?_
                      refine step_l (st_rd hf (Wn.none rfl) (rd_assign hf rfl rfl) hS rfl rfl ?_)
                      clear hf; intro a hf
                      refine done_l ?_
                      refine t_normal ?_
                      refine c_ret ?_
                      refine t_ret ?_
                      refine e_res1 hf.defers rfl (res_tmp hf rfl .nil) ?_
                      refine ⟨?_, hS.sub (by repeat (first | exact Sub.refl | exact Sub.none | (apply Sub.cons; (focus ((repeat (first | exact Sel.head | apply Sel.tail)); done))) | apply Sub.skip))⟩
                      clear hf hS
                      rfl
                      )
                  · clear hf; intro hc9 a hf
                    first
                    | (first | contradiction | exact absurd (jcomm _ _ _ _) hc9 | exact absurd (jidem _ _) hc9 | exact absurd (jassoc _ _ _ _ _ _) hc9 | exact absurd (leq_l _ _ _ _) hc9 | exact absurd (leq_r _ _ _ _) hc9 | exact False.elim ((leq_total s i t j).elim (by assumption) (by assumption)) | exact absurd (leq_lub (by assumption) (by assumption)) hc9 | exact absurd (may_join (by assumption) (by assumption)) hc9; done)
                    | (
                      refine any_take (i := 11) hf rfl (by kernel_rfl) (by kernel_rfl) (by kernel_rfl) (fun _ _ _ h => h) (Wn.none rfl) (rd_pick_f hf rfl rfl rfl) hT rfl rfl ?_
                      clear hf; intro a hf
                      refine any_take (i := 12) hf rfl (by kernel_rfl) (by kernel_rfl) (by kernel_rfl) (fun _ _ _ h => h) (Wn.none rfl) (rd_move hf rfl rfl) hT rfl rfl ?_
                      clear hf; intro a hf
                      refine any_take (i := 13) hf rfl (by kernel_rfl) (by kernel_rfl) (by kernel_rfl) (fun _ _ _ h => h) (Wn.some hf rfl rfl rfl rfl) (rd_loadN hf rfl rfl ag23 sz23 (by intro _ h; exact loadN_of h (by repeat (first | exact Sel.head | apply Sel.tail)) (by repeat (first | exact Seg.nil | apply Seg.cons | apply Seg.succ)) )) hT rfl rfl ?_
                      clear hf; intro a hf
                      refine any_take (i := 14) hf rfl (by kernel_rfl) (by kernel_rfl) (by kernel_rfl) (fun _ _ _ h => h) (Wn.some hf rfl rfl rfl rfl) (rd_loadN hf rfl rfl ag23 sz23 (by intro _ h; exact loadN_of h (by repeat (first | exact Sel.head | apply Sel.tail)) (by repeat (first | exact Seg.nil | apply Seg.cons | apply Seg.succ)) )) hT rfl rfl ?_
                      clear hf; intro a hf
                      refine any_take (i := 16) hf rfl (by kernel_rfl) (by kernel_rfl) (by kernel_rfl) (fun _ _ _ h => h) (Wn.some hf rfl rfl rfl rfl) (rd_loadN hf rfl rfl ag23 sz23 (by intro _ h; exact loadN_of h (by repeat (first | exact Sel.head | apply Sel.tail)) (by repeat (first | exact Seg.nil | apply Seg.cons | apply Seg.succ)) )) hT rfl rfl ?_
                      clear hf; intro a hf
                      refine any_take (i := 17) hf rfl (by kernel_rfl) (by kernel_rfl) (by kernel_rfl) (fun _ _ _ h => h) (Wn.some hf rfl rfl rfl rfl) (rd_loadN hf rfl rfl ag23 sz23 (by intro _ h; exact loadN_of h (by repeat (first | exact Sel.head | apply Sel.tail)) (by repeat (first | exact Seg.nil | apply Seg.cons | apply Seg.succ)) )) hT rfl rfl ?_
                      clear hf; intro a hf
                      refine any_take (i := 18) hf rfl (by kernel_rfl) (by kernel_rfl) (by kernel_rfl) (fun _ _ _ h => h) (Wn.some hf rfl rfl rfl rfl) (rd_loadN hf rfl rfl ag23 sz23 (by intro _ h; exact loadN_of h (by repeat (first | exact Sel.head | apply Sel.tail)) (by repeat (first | exact Seg.nil | apply Seg.cons | apply Seg.succ)) )) hT rfl rfl ?_
                      clear hf; intro a hf
                      refine any_one (i := 15) rfl (by kernel_rfl) (st_call hf (Wn.some hf rfl rfl rfl rfl) rfl rfl rfl fn16 (Join_c _ _ _ _ hS) rfl rfl ?_)
                      clear hf hS; rintro v a w ⟨rfl, hS⟩ hf
                      replace hT := hS.sub' hT (by repeat (first | exact Sub.refl | exact Sub.none | (apply Sub.cons; (focus ((repeat (first | exact Sel.head | apply Sel.tail)); done))) | apply Sub.skip))
                      refine ⟨hT, ?_⟩
                      refine any_one (i := 19) rfl (by kernel_rfl) (st_call hf (Wn.some hf rfl rfl rfl rfl) rfl rfl rfl fn16 (Join_c _ _ _ _ hS) rfl rfl ?_)
                      clear hf hS; rintro v a w ⟨rfl, hS⟩ hf
                      replace hT := hS.sub' hT (by repeat (first | exact Sub.refl | exact Sub.none | (apply Sub.cons; (focus ((repeat (first | exact Sel.head | apply Sel.tail)); done))) | apply Sub.skip))
                      refine ⟨hT, ?_⟩
                      refine any_one (i := 20) rfl (by kernel_rfl) (st_call hf (Wn.some hf rfl rfl rfl rfl) rfl rfl rfl fn16 (Join_c _ _ _ _ hS) rfl rfl ?_)
                      clear hf hS; rintro v a w ⟨rfl, hS⟩ hf
                      replace hT := hS.sub' hT (by repeat (first | exact Sub.refl | exact Sub.none | (apply Sub.cons; (focus ((repeat (first | exact Sel.head | apply Sel.tail)); done))) | apply Sub.skip))
                      refine ⟨hT, ?_⟩
                      refine any_takeB (i := 21) hf rfl (by kernel_rfl) (by kernel_rfl) (by kernel_rfl) (fun _ _ _ _ h => h) (Wn.some hf rfl rfl rfl rfl) (rd_neqM hf rfl rfl rfl) hT rfl rfl ?_ ?_
                      · clear hf; intro hc10 a hf
                        first
                        | (first | contradiction | exact absurd (jcomm _ _ _ _) hc10 | exact absurd (jidem _ _) hc10 | exact absurd (jassoc _ _ _ _ _ _) hc10 | exact absurd (leq_l _ _ _ _) hc10 | exact absurd (leq_r _ _ _ _) hc10 | exact False.elim ((leq_total s i t j).elim (by assumption) (by assumption)) | exact absurd (leq_lub (by assumption) (by assumption)) hc10 | exact absurd (may_join (by assumption) (by assumption)) hc10; done)
                        | (
                          refine any_take (i := 22) hf rfl (by kernel_rfl) (by kernel_rfl) (by kernel_rfl) (fun _ _ _ h => h) (Wn.none rfl) (rd_pick_f hf rfl rfl rfl) hT rfl rfl ?_
                          clear hf; intro a hf
                          refine any_take (i := 23) hf rfl (by kernel_rfl) (by kernel_rfl) (by kernel_rfl) (fun _ _ _ h => h) (Wn.none rfl) (rd_move hf rfl rfl) hT rfl rfl ?_
                          clear hf; intro a hf
                          refine any_skip (i := 24) hf rfl (by kernel_rfl) (by kernel_rfl) (by kernel_rfl) (fun _ _ _ h => h) (Wn.some hf rfl rfl rfl rfl) hT rfl rfl ?_
                          clear hf; intro a hf
                          refine any_skip (i := 25) hf rfl (by kernel_rfl) (by kernel_rfl) (by kernel_rfl) (fun _ _ _ h => h) (Wn.some hf rfl rfl rfl rfl) hT rfl rfl ?_
                          clear hf; intro a hf
                          refine any_skip (i := 26) hf rfl (by kernel_rfl) (by kernel_rfl) (by kernel_rfl) (fun _ _ _ h => h) (Wn.some hf rfl rfl rfl rfl) hT rfl rfl ?_
                          clear hf; intro a hf
                          refine any_skip (i := 27) hf rfl (by kernel_rfl) (by kernel_rfl) (by kernel_rfl) (fun _ _ _ h => h) (Wn.some hf rfl rfl rfl rfl) hT rfl rfl ?_
                          clear hf; intro a hf
                          refine any_take (i := 28) hf rfl (by kernel_rfl) (by kernel_rfl) (by kernel_rfl) (fun _ _ _ h => h) (Wn.none rfl) (rd_pick_t hf rfl rfl rfl) hT rfl rfl ?_
                          clear hf; intro a hf
                          refine any_take (i := 29) hf rfl (by kernel_rfl) (by kernel_rfl) (by kernel_rfl) (fun _ _ _ h => h) (Wn.none rfl) (rd_move hf rfl rfl) hT rfl rfl ?_
                          clear hf; intro a hf
                          refine any_skip (i := 30) hf rfl (by kernel_rfl) (by kernel_rfl) (by kernel_rfl) (fun _ _ _ h => h) (Wn.some hf rfl rfl rfl rfl) hT rfl rfl ?_
                          clear hf; intro a hf
                          refine any_skip (i := 31) hf rfl (by kernel_rfl) (by kernel_rfl) (by kernel_rfl) (fun _ _ _ h => h) (Wn.some hf rfl rfl rfl rfl) hT rfl rfl ?_
                          clear hf; intro a hf
                          refine any_skip (i := 32) hf rfl (by kernel_rfl) (by kernel_rfl) (by kernel_rfl) (fun _ _ _ h => h) (Wn.some hf rfl rfl rfl rfl) hT rfl rfl ?_
                          clear hf; intro a hf
                          refine any_skip (i := 33) hf rfl (by kernel_rfl) (by kernel_rfl) (by kernel_rfl) (fun _ _ _ h => h) (Wn.some hf rfl rfl rfl rfl) hT rfl rfl ?_
                          clear hf; intro a hf
                          refine any_take (i := 34) hf rfl (by kernel_rfl) (by kernel_rfl) (by kernel_rfl) (fun _ _ _ h => h) (Wn.none rfl) (rd_pick_t hf rfl rfl rfl) hT rfl rfl ?_
                          clear hf; intro a hf
                          refine any_done (by kernel_rfl) ?_
                          refine t_normal ?_
                          refine c_true hf rfl ?_
                          refine c_seq ?_
                          refine c_region ?_
                          refine step_l (st_rd hf (Wn.none rfl) (rd_assign hf rfl rfl) hS rfl rfl ?_)
                          clear hf; intro a hf
                          refine done_l ?_
                          refine t_normal ?_
                          refine c_ret ?_
                          refine t_ret ?_
                          refine e_res1 hf.defers rfl (res_tmp hf rfl .nil) ?_
                          refine ⟨?_, hS.sub (by repeat (first | exact Sub.refl | exact Sub.none | (apply Sub.cons; (focus ((repeat (first | exact Sel.head | apply Sel.tail)); done))) | apply Sub.skip))⟩
                          clear hf hS
                          rfl
                          )
                      · clear hf; intro hc10 a hf
                        first
                        | (first | contradiction | exact absurd (jcomm _ _ _ _) hc10 | exact absurd (jidem _ _) hc10 | exact absurd (jassoc _ _ _ _ _ _) hc10 | exact absurd (leq_l _ _ _ _) hc10 | exact absurd (leq_r _ _ _ _) hc10 | exact False.elim ((leq_total s i t j).elim (by assumption) (by assumption)) | exact absurd (leq_lub (by assumption) (by assumption)) hc10 | exact absurd (may_join (by assumption) (by assumption)) hc10; done)
                        | (
                          refine any_take (i := 22) hf rfl (by kernel_rfl) (by kernel_rfl) (by kernel_rfl) (fun _ _ _ h => h) (Wn.none rfl) (rd_pick_f hf rfl rfl rfl) hT rfl rfl ?_
                          clear hf; intro a hf
                          refine any_take (i := 23) hf rfl (by kernel_rfl) (by kernel_rfl) (by kernel_rfl) (fun _ _ _ h => h) (Wn.none rfl) (rd_move hf rfl rfl) hT rfl rfl ?_
                          clear hf; intro a hf
                          refine any_take (i := 24) hf rfl (by kernel_rfl) (by kernel_rfl) (by kernel_rfl) (fun _ _ _ h => h) (Wn.some hf rfl rfl rfl rfl) (rd_loadN hf rfl rfl ag23 sz23 (by intro _ h; exact loadN_of h (by repeat (first | exact Sel.head | apply Sel.tail)) (by repeat (first | exact Seg.nil | apply Seg.cons | apply Seg.succ)) )) hT rfl rfl ?_
                          clear hf; intro a hf
                          refine any_take (i := 25) hf rfl (by kernel_rfl) (by kernel_rfl) (by kernel_rfl) (fun _ _ _ h => h) (Wn.some hf rfl rfl rfl rfl) (rd_loadN hf rfl rfl ag23 sz23 (by intro _ h; exact loadN_of h (by repeat (first | exact Sel.head | apply Sel.tail)) (by repeat (first | exact Seg.nil | apply Seg.cons | apply Seg.succ)) )) hT rfl rfl ?_
                          clear hf; intro a hf
                          refine any_one (i := 26) rfl (by kernel_rfl) (st_call hf (Wn.some hf rfl rfl rfl rfl) rfl rfl rfl fn17 (Leq_c _ _ _ _ hS) rfl rfl ?_)
                          clear hf hS; rintro v a w ⟨rfl, hS⟩ hf
                          replace hT := hS.sub' hT (by repeat (first | exact Sub.refl | exact Sub.none | (apply Sub.cons; (focus ((repeat (first | exact Sel.head | apply Sel.tail)); done))) | apply Sub.skip))
                          refine ⟨hT, ?_⟩
                          first | refine split_dec (d := 51) hf rfl ?_ ?_ | refine split_bool (d := 51) hf rfl ?_ ?_
                          · clear hf; intro hc11 hf
                            first
                            | (first | contradiction | exact absurd (jcomm _ _ _ _) hc11 | exact absurd (jidem _ _) hc11 | exact absurd (jassoc _ _ _ _ _ _) hc11 | exact absurd (leq_l _ _ _ _) hc11 | exact absurd (leq_r _ _ _ _) hc11 | exact False.elim ((leq_total s i t j).elim (by assumption) (by assumption)) | exact absurd (leq_lub (by assumption) (by assumption)) hc11 | exact absurd (may_join (by assumption) (by assumption)) hc11; done)
                            | (
                              refine any_take (i := 27) hf rfl (by kernel_rfl) (by kernel_rfl) (by kernel_rfl) (fun _ _ _ h => h) (Wn.some hf rfl rfl rfl rfl) (rd_not hf rfl rfl) hT rfl rfl ?_
                              clear hf; intro a hf
                              refine any_take (i := 28) hf rfl (by kernel_rfl) (by kernel_rfl) (by kernel_rfl) (fun _ _ _ h => h) (Wn.none rfl) (rd_pick_f hf rfl rfl rfl) hT rfl rfl ?_
                              clear hf; intro a hf
                              refine any_take (i := 29) hf rfl (by kernel_rfl) (by kernel_rfl) (by kernel_rfl) (fun _ _ _ h => h) (Wn.none rfl) (rd_move hf rfl rfl) hT rfl rfl ?_
                              clear hf; intro a hf
                              refine any_take (i := 30) hf rfl (by kernel_rfl) (by kernel_rfl) (by kernel_rfl) (fun _ _ _ h => h) (Wn.some hf rfl rfl rfl rfl) (rd_loadN hf rfl rfl ag23 sz23 (by intro _ h; exact loadN_of h (by repeat (first | exact Sel.head | apply Sel.tail)) (by repeat (first | exact Seg.nil | apply Seg.cons | apply Seg.succ)) )) hT rfl rfl ?_
                              clear hf; intro a hf
                              refine any_take (i := 31) hf rfl (by kernel_rfl) (by kernel_rfl) (by kernel_rfl) (fun _ _ _ h => h) (Wn.some hf rfl rfl rfl rfl) (rd_loadN hf rfl rfl ag23 sz23 (by intro _ h; exact loadN_of h (by repeat (first | exact Sel.head | apply Sel.tail)) (by repeat (first | exact Seg.nil | apply Seg.cons | apply Seg.succ)) )) hT rfl rfl ?_
                              clear hf; intro a hf
                              refine any_one (i := 32) rfl (by kernel_rfl) (st_call hf (Wn.some hf rfl rfl rfl rfl) rfl rfl rfl fn17 (Leq_c _ _ _ _ hS) rfl rfl ?_)
                              clear hf hS; rintro v a w ⟨rfl, hS⟩ hf
                              replace hT := hS.sub' hT (by repeat (first | exact Sub.refl | exact Sub.none | (apply Sub.cons; (focus ((repeat (first | exact Sel.head | apply Sel.tail)); done))) | apply Sub.skip))
                              refine ⟨hT, ?_⟩
                              first | refine split_dec (d := 57) hf rfl ?_ ?_ | refine split_bool (d := 57) hf rfl ?_ ?_
                              · clear hf; intro hc12 hf
                                first
                                | (first | contradiction | exact absurd (jcomm _ _ _ _) hc12 | exact absurd (jidem _ _) hc12 | exact absurd (jassoc _ _ _ _ _ _) hc12 | exact absurd (leq_l _ _ _ _) hc12 | exact absurd (leq_r _ _ _ _) hc12 | exact False.elim ((leq_total s i t j).elim (by assumption) (by assumption)) | exact absurd (leq_lub (by assumption) (by assumption)) hc12 | exact absurd (may_join (by assumption) (by assumption)) hc12; done)
                                | (
                                  refine any_take (i := 33) hf rfl (by kernel_rfl) (by kernel_rfl) (by kernel_rfl) (fun _ _ _ h => h) (Wn.some hf rfl rfl rfl rfl) (rd_not hf rfl rfl) hT rfl rfl ?_
                                  clear hf; intro a hf
                                  refine any_take (i := 34) hf rfl (by kernel_rfl) (by kernel_rfl) (by kernel_rfl) (fun _ _ _ h => h) (Wn.none rfl) (rd_pick_f hf rfl rfl rfl) hT rfl rfl ?_
                                  clear hf; intro a hf
                                  refine any_done (by kernel_rfl) ?_
                                  refine t_normal ?_
                                  refine c_false hf rfl ?_
                                  refine c_skip ?_
                                  refine t_normal ?_
                                  refine c_seq ?_
                                  refine c_region ?_
                                  refine step_l (st_rd hf (Wn.none rfl) (rd_loadN hf rfl rfl ag23 sz23 (by intro _ h; exact loadN_of h (by repeat (first | exact Sel.head | apply Sel.tail)) (by repeat (first | exact Seg.nil | apply Seg.cons | apply Seg.succ)) )) hS rfl rfl ?_)
                                  clear hf; intro a hf
                                  refine step_l (st_rd hf (Wn.none rfl) (rd_loadN hf rfl rfl ag23 sz23 (by intro _ h; exact loadN_of h (by repeat (first | exact Sel.head | apply Sel.tail)) (by repeat (first | exact Seg.nil | apply Seg.cons | apply Seg.succ)) )) hS rfl rfl ?_)
                                  clear hf; intro a hf
                                  refine step_l (st_call hf (Wn.none rfl) rfl rfl rfl fn17 (Leq_c _ _ _ _ hS) rfl rfl ?_)
                                  clear hf hS; rintro v a w ⟨rfl, hS⟩ hf
                                  first | refine split_dec (d := 62) hf rfl ?_ ?_ | refine split_bool (d := 62) hf rfl ?_ ?_
                                  · clear hf; intro hc13 hf
                                    first
                                    | (first | contradiction | exact absurd (jcomm _ _ _ _) hc13 | exact absurd (jidem _ _) hc13 | exact absurd (jassoc _ _ _ _ _ _) hc13 | exact absurd (leq_l _ _ _ _) hc13 | exact absurd (leq_r _ _ _ _) hc13 | exact False.elim ((leq_total s i t j).elim (by assumption) (by assumption)) | exact absurd (leq_lub (by assumption) (by assumption)) hc13 | exact absurd (may_join (by assumption) (by assumption)) hc13; done)
                                    | (
                                      refine step_l (st_rd hf (Wn.none rfl) (rd_move hf rfl rfl) hS rfl rfl ?_)
                                      clear hf; intro a hf
                                      refine step_l (st_skip hf (Wn.some hf rfl rfl rfl rfl) rfl rfl ?_)
                                      clear hf; intro a hf
                                      refine step_l (st_skip hf (Wn.some hf rfl rfl rfl rfl) rfl rfl ?_)
                                      clear hf; intro a hf
                                      refine step_l (st_skip hf (Wn.some hf rfl rfl rfl rfl) rfl rfl ?_)
                                      clear hf; intro a hf
                                      refine step_l (st_rd hf (Wn.none rfl) (rd_pick_t hf rfl rfl rfl) hS rfl rfl ?_)
                                      clear hf; intro a hf
                                      refine step_l (st_rd hf (Wn.none rfl) (rd_move hf rfl rfl) hS rfl rfl ?_)
                                      clear hf; intro a hf
                                      refine step_l (st_rd hf (Wn.some hf rfl rfl rfl rfl) (rd_loadN hf rfl rfl ag23 sz23 (by intro _ h; exact loadN_of h (by repeat (first | exact Sel.head | apply Sel.tail)) (by repeat (first | exact Seg.nil | apply Seg.cons | apply Seg.succ)) )) hS rfl rfl ?_)
                                      clear hf; intro a hf
                                      refine step_l (st_rd hf (Wn.some hf rfl rfl rfl rfl) (rd_loadN hf rfl rfl ag23 sz23 (by intro _ h; exact loadN_of h (by repeat (first | exact Sel.head | apply Sel.tail)) (by repeat (first | exact Seg.nil | apply Seg.cons | apply Seg.succ)) )) hS rfl rfl ?_)
                                      clear hf; intro a hf
                                      refine step_l (st_call hf (Wn.some hf rfl rfl rfl rfl) rfl rfl rfl fn17 (Leq_c _ _ _ _ hS) rfl rfl ?_)
                                      clear hf hS; rintro v a w ⟨rfl, hS⟩ hf
                                      first | refine split_dec (d := 71) hf rfl ?_ ?_ | refine split_bool (d := 71) hf rfl ?_ ?_
                                      · clear hf; intro hc14 hf
                                        first
                                        | (first | contradiction | exact absurd (jcomm _ _ _ _) hc14 | exact absurd (jidem _ _) hc14 | exact absurd (jassoc _ _ _ _ _ _) hc14 | exact absurd (leq_l _ _ _ _) hc14 | exact absurd (leq_r _ _ _ _) hc14 | exact False.elim ((leq_total s i t j).elim (by assumption) (by assumption)) | exact absurd (leq_lub (by assumption) (by assumption)) hc14 | exact absurd (may_join (by assumption) (by assumption)) hc14; done)
                                        | (
                                          refine step_l (st_rd hf (Wn.some hf rfl rfl rfl rfl) (rd_not hf rfl rfl) hS rfl rfl ?_)
                                          clear hf; intro a hf
                                          refine step_l (st_rd hf (Wn.some hf rfl rfl rfl rfl) (rd_move hf rfl rfl) hS rfl rfl ?_)
                                          clear hf; intro a hf
                                          refine step_l (st_rd hf (Wn.some hf rfl rfl rfl rfl) (rd_loadN hf rfl rfl ag23 sz23 (by intro _ h; exact loadN_of h (by repeat (first | exact Sel.head | apply Sel.tail)) (by repeat (first | exact Seg.nil | apply Seg.cons | apply Seg.succ)) )) hS rfl rfl ?_)
                                          clear hf; intro a hf
                                          refine step_l (st_rd hf (Wn.some hf rfl rfl rfl rfl) (rd_loadN hf rfl rfl ag23 sz23 (by intro _ h; exact loadN_of h (by repeat (first | exact Sel.head | apply Sel.tail)) (by repeat (first | exact Seg.nil | apply Seg.cons | apply Seg.succ)) )) hS rfl rfl ?_)
                                          clear hf; intro a hf
                                          refine step_l (st_call hf (Wn.some hf rfl rfl rfl rfl) rfl rfl rfl fn17 (Leq_c _ _ _ _ hS) rfl rfl ?_)
                                          clear hf hS; rintro v a w ⟨rfl, hS⟩ hf
                                          first | refine split_dec (d := 76) hf rfl ?_ ?_ | refine split_bool (d := 76) hf rfl ?_ ?_
                                          · clear hf; intro hc15 hf
                                            first
                                            | (first | contradiction | exact absurd (jcomm _ _ _ _) hc15 | exact absurd (jidem _ _) hc15 | exact absurd (jassoc _ _ _ _ _ _) hc15 | exact absurd (leq_l _ _ _ _) hc15 | exact absurd (leq_r _ _ _ _) hc15 | exact False.elim ((leq_total s i t j).elim (by assumption) (by assumption)) | exact absurd (leq_lub (by assumption) (by assumption)) hc15 | exact absurd (may_join (by assumption) (by assumption)) hc15; done)
                                            | (
                                              refine step_l (st_rd hf (Wn.some hf rfl rfl rfl rfl) (rd_not hf rfl rfl) hS rfl rfl ?_)
                                              clear hf; intro a hf
                                              refine step_l (st_rd hf (Wn.some hf rfl rfl rfl rfl) (rd_pick_f hf rfl rfl rfl) hS rfl rfl ?_)
                                              clear hf; intro a hf
                                              refine step_l (st_rd hf (Wn.some hf rfl rfl rfl rfl) (rd_move hf rfl rfl) hS rfl rfl ?_)
                                              clear hf; intro a hf
                                              refine step_l (st_rd hf (Wn.some hf rfl rfl rfl rfl) (rd_loadN hf rfl rfl ag23 sz23 (by intro _ h; exact loadN_of h (by repeat (first | exact Sel.head | apply Sel.tail)) (by repeat (first | exact Seg.nil | apply Seg.cons | apply Seg.succ)) )) hS rfl rfl ?_)
                                              clear hf; intro a hf
                                              refine step_l (st_rd hf (Wn.some hf rfl rfl rfl rfl) (rd_loadN hf rfl rfl ag23 sz23 (by intro _ h; exact loadN_of h (by repeat (first | exact Sel.head | apply Sel.tail)) (by repeat (first | exact Seg.nil | apply Seg.cons | apply Seg.succ)) )) hS rfl rfl ?_)
                                              clear hf; intro a hf
                                              refine step_l (st_call hf (Wn.some hf rfl rfl rfl rfl) rfl rfl rfl fn17 (Leq_c _ _ _ _ hS) rfl rfl ?_)
                                              clear hf hS; rintro v a w ⟨rfl, hS⟩ hf
                                              first | refine split_dec (d := 82) hf rfl ?_ ?_ | refine split_bool (d := 82) hf rfl ?_ ?_
                                              · clear hf; intro hc16 hf
                                                first
                                                | (first | contradiction | exact absurd (jcomm _ _ _ _) hc16 | exact absurd (jidem _ _) hc16 | exact absurd (jassoc _ _ _ _ _ _) hc16 | exact absurd (leq_l _ _ _ _) hc16 | exact absurd (leq_r _ _ _ _) hc16 | exact False.elim ((leq_total s i t j).elim (by assumption) (by assumption)) | exact absurd (leq_lub (by assumption) (by assumption)) hc16 | exact absurd (may_join (by assumption) (by assumption)) hc16; done)
                                                | (
                                                  refine step_l (st_rd hf (Wn.some hf rfl rfl rfl rfl) (rd_pick_f hf rfl rfl rfl) hS rfl rfl ?_)
                                                  clear hf; intro a hf
                                                  refine step_l (st_rd hf (Wn.none rfl) (rd_pick_t hf rfl rfl rfl) hS rfl rfl ?_)
                                                  clear hf; intro a hf
                                                  refine step_l (st_rd hf (Wn.none rfl) (rd_move hf rfl rfl) hS rfl rfl ?_)
                                                  clear hf; intro a hf
                                                  refine step_l (st_rd hf (Wn.some hf rfl rfl rfl rfl) (rd_loadN hf rfl rfl ag23 sz23 (by intro _ h; exact loadN_of h (by repeat (first | exact Sel.head | apply Sel.tail)) (by repeat (first | exact Seg.nil | apply Seg.cons | apply Seg.succ)) )) hS rfl rfl ?_)
                                                  clear hf; intro a hf
                                                  refine step_l (st_call hf (Wn.some hf rfl rfl rfl rfl) rfl rfl rfl fn14 (May_c _ _ hS) rfl rfl ?_)
                                                  clear hf hS; rintro v a w ⟨rfl, hS⟩ hf
                                                  first | refine split_dec (d := 87) hf rfl ?_ ?_ | refine split_bool (d := 87) hf rfl ?_ ?_
                                                  · clear hf; intro hc17 hf
                                                    first
                                                    | (first | contradiction | exact absurd (jcomm _ _ _ _) hc17 | exact absurd (jidem _ _) hc17 | exact absurd (jassoc _ _ _ _ _ _) hc17 | exact absurd (leq_l _ _ _ _) hc17 | exact absurd (leq_r _ _ _ _) hc17 | exact False.elim ((leq_total s i t j).elim (by assumption) (by assumption)) | exact absurd (leq_lub (by assumption) (by assumption)) hc17 | exact absurd (may_join (by assumption) (by assumption)) hc17; done)
                                                    | (
                                                      refine step_l (st_rd hf (Wn.none rfl) (rd_pick_t hf rfl rfl rfl) hS rfl rfl ?_)
                                                      clear hf; intro a hf
                                                      refine step_l (st_rd hf (Wn.none rfl) (rd_move hf rfl rfl) hS rfl rfl ?_)
                                                      clear hf; intro a hf
                                                      refine step_l (st_call hf (Wn.some hf rfl rfl rfl rfl) rfl rfl rfl fn15 (awake_c hS) rfl rfl ?_)
                                                      clear hf hS; rintro v a w ⟨rfl, hS⟩ hf
                                                      refine step_l (st_rd hf (Wn.none rfl) (rd_pick_t hf rfl rfl rfl) hS rfl rfl ?_)
                                                      clear hf; intro a hf
                                                      refine step_l (st_rd hf (Wn.none rfl) (rd_assign hf rfl rfl) hS rfl rfl ?_)
                                                      clear hf; intro a hf
                                                      refine done_l ?_
                                                      refine t_normal ?_
                                                      refine c_ret ?_
                                                      refine e_res1 hf.defers rfl (res_tmp hf rfl .nil) ?_
                                                      refine ⟨?_, hS.sub (by repeat (first | exact Sub.refl | exact Sub.none | (apply Sub.cons; (focus ((repeat (first | exact Sel.head | apply Sel.tail)); done))) | apply Sub.skip))⟩
                                                      clear hf hS
                                                      rfl
                                                      )
                                                  · clear hf; intro hc17 hf
                                                    first
                                                    | (first | contradiction | exact absurd (jcomm _ _ _ _) hc17 | exact absurd (jidem _ _) hc17 | exact absurd (jassoc _ _ _ _ _ _) hc17 | exact absurd (leq_l _ _ _ _) hc17 | exact absurd (leq_r _ _ _ _) hc17 | exact False.elim ((leq_total s i t j).elim (by assumption) (by assumption)) | exact absurd (leq_lub (by assumption) (by assumption)) hc17 | exact absurd (may_join (by assumption) (by assumption)) hc17; done)
                                                    | (
                                                      refine step_l (st_rd hf (Wn.none rfl) (rd_pick_t hf rfl rfl rfl) hS rfl rfl ?_)
                                                      clear hf; intro a hf
                                                      refine step_l (st_rd hf (Wn.none rfl) (rd_move hf rfl rfl) hS rfl rfl ?_)
                                                      clear hf; intro a hf
                                                      refine step_l (st_skip hf (Wn.some hf rfl rfl rfl rfl) rfl rfl ?_)
                                                      clear hf; intro a hf
                                                      refine step_l (st_rd hf (Wn.none rfl) (rd_pick_f hf rfl rfl rfl) hS rfl rfl ?_)
                                                      clear hf; intro a hf
                                                      refine step_l (st_rd hf (Wn.none rfl) (rd_assign hf rfl rfl) hS rfl rfl ?_)
                                                      clear hf; intro a hf
                                                      refine done_l ?_
                                                      refine t_normal ?_
                                                      refine c_ret ?_
                                                      refine e_res1 hf.defers rfl (res_tmp hf rfl .nil) ?_
                                                      refine ⟨?_, hS.sub (by repeat (first | exact Sub.refl | exact Sub.none | (apply Sub.cons; (focus ((repeat (first | exact Sel.head | apply Sel.tail)); done))) | apply Sub.skip))⟩
                                                      clear hf hS
                                                      rfl
                                                      )
                                                  )
                                              · clear hf; intro hc16 hf
                                                first
                                                | (first | contradiction | exact absurd (jcomm _ _ _ _) hc16 | exact absurd (jidem _ _) hc16 | exact absurd (jassoc _ _ _ _ _ _) hc16 | exact absurd (leq_l _ _ _ _) hc16 | exact absurd (leq_r _ _ _ _) hc16 | exact False.elim ((leq_total s i t j).elim (by assumption) (by assumption)) | exact absurd (leq_lub (by assumption) (by assumption)) hc16 | exact absurd (may_join (by assumption) (by assumption)) hc16; done)
                                                | (
                                                  refine step_l (st_rd hf (Wn.some hf rfl rfl rfl rfl) (rd_pick_f hf rfl rfl rfl) hS rfl rfl ?_)
                                                  clear hf; intro a hf
                                                  refine step_l (st_rd hf (Wn.none rfl) (rd_pick_t hf rfl rfl rfl) hS rfl rfl ?_)
                                                  clear hf; intro a hf
                                                  refine step_l (st_rd hf (Wn.none rfl) (rd_move hf rfl rfl) hS rfl rfl ?_)
                                                  clear hf; intro a hf
                                                  refine step_l (st_skip hf (Wn.some hf rfl rfl rfl rfl) rfl rfl ?_)
                                                  clear hf; intro a hf
                                                  refine step_l (st_skip hf (Wn.some hf rfl rfl rfl rfl) rfl rfl ?_)
                                                  clear hf; intro a hf
                                                  refine step_l (st_rd hf (Wn.none rfl) (rd_pick_f hf rfl rfl rfl) hS rfl rfl ?_)
                                                  clear hf; intro a hf
                                                  refine step_l (st_rd hf (Wn.none rfl) (rd_move hf rfl rfl) hS rfl rfl ?_)
                                                  clear hf; intro a hf
                                                  refine step_l (st_skip hf (Wn.some hf rfl rfl rfl rfl) rfl rfl ?_)
                                                  clear hf; intro a hf
                                                  refine step_l (st_rd hf (Wn.none rfl) (rd_pick_f hf rfl rfl rfl) hS rfl rfl ?_)
                                                  clear hf; intro a hf
                                                  refine step_l (st_rd hf (Wn.none rfl) (rd_assign hf rfl rfl) hS rfl rfl ?_)
                                                  clear hf; intro a hf
                                                  refine done_l ?_
                                                  refine t_normal ?_
                                                  refine c_ret ?_
                                                  refine e_res1 hf.defers rfl (res_tmp hf rfl .nil) ?_
                                                  refine ⟨?_, hS.sub (by repeat (first | exact Sub.refl | exact Sub.none | (apply Sub.cons; (focus ((repeat (first | exact Sel.head | apply Sel.tail)); done))) | apply Sub.skip))⟩
                                                  clear hf hS
                                                  rfl
                                                  )
                                              )
                                          · clear hf; intro hc15 hf
                                            first
                                            | (first | contradiction | exact absurd (jcomm _ _ _ _) hc15 | exact absurd (jidem _ _) hc15 | exact absurd (jassoc _ _ _ _ _ _) hc15 | exact absurd (leq_l _ _ _ _) hc15 | exact absurd (leq_r _ _ _ _) hc15 | exact False.elim ((leq_total s i t j).elim (by assumption) (by assumption)) | exact absurd (leq_lub (by assumption) (by assumption)) hc15 | exact absurd (may_join (by assumption) (by assumption)) hc15; done)
                                            | (
                                              refine step_l (st_rd hf (Wn.some hf rfl rfl rfl rfl) (rd_not hf rfl rfl) hS rfl rfl ?_)
                                              clear hf; intro a hf
                                              refine step_l (st_rd hf (Wn.some hf rfl rfl rfl rfl) (rd_pick_f hf rfl rfl rfl) hS rfl rfl ?_)
                                              clear hf; intro a hf
                                              refine step_l (st_rd hf (Wn.some hf rfl rfl rfl rfl) (rd_move hf rfl rfl) hS rfl rfl ?_)
                                              clear hf; intro a hf
                                              refine step_l (st_skip hf (Wn.some hf rfl rfl rfl rfl) rfl rfl ?_)
                                              clear hf; intro a hf
                                              refine step_l (st_skip hf (Wn.some hf rfl rfl rfl rfl) rfl rfl ?_)
                                              clear hf; intro a hf
                                              refine step_l (st_skip hf (Wn.some hf rfl rfl rfl rfl) rfl rfl ?_)
                                              clear hf; intro a hf
                                              refine step_l (st_rd hf (Wn.some hf rfl rfl rfl rfl) (rd_pick_t hf rfl rfl rfl) hS rfl rfl ?_)
                                              clear hf; intro a hf
                                              refine step_l (st_rd hf (Wn.none rfl) (rd_pick_t hf rfl rfl rfl) hS rfl rfl ?_)
                                              clear hf; intro a hf
                                              refine step_l (st_rd hf (Wn.none rfl) (rd_move hf rfl rfl) hS rfl rfl ?_)
                                              clear hf; intro a hf
                                              refine step_l (st_rd hf (Wn.some hf rfl rfl rfl rfl) (rd_loadN hf rfl rfl ag23 sz23 (by intro _ h; exact loadN_of h (by repeat (first | exact Sel.head | apply Sel.tail)) (by repeat (first | exact Seg.nil | apply Seg.cons | apply Seg.succ)) )) hS rfl rfl ?_)
                                              clear hf; intro a hf
                                              refine step_l (st_call hf (Wn.some hf rfl rfl rfl rfl) rfl rfl rfl fn14 (May_c _ _ hS) rfl rfl ?_)
                                              clear hf hS; rintro v a w ⟨rfl, hS⟩ hf
                                              first | refine split_dec (d := 87) hf rfl ?_ ?_ | refine split_bool (d := 87) hf rfl ?_ ?_
                                              · clear hf; intro hc18 hf
                                                first
                                                | (first | contradiction | exact absurd (jcomm _ _ _ _) hc18 | exact absurd (jidem _ _) hc18 | exact absurd (jassoc _ _ _ _ _ _) hc18 | exact absurd (leq_l _ _ _ _) hc18 | exact absurd (leq_r _ _ _ _) hc18 | exact False.elim ((leq_total s i t j).elim (by assumption) (by assumption)) | exact absurd (leq_lub (by assumption) (by assumption)) hc18 | exact absurd (may_join (by assumption) (by assumption)) hc18; done)
                                                | (
                                                  refine step_l (st_rd hf (Wn.none rfl) (rd_pick_t hf rfl rfl rfl) hS rfl rfl ?_)
                                                  clear hf; intro a hf
                                                  refine step_l (st_rd hf (Wn.none rfl) (rd_move hf rfl rfl) hS rfl rfl ?_)
                                                  clear hf; intro a hf
                                                  refine step_l (st_call hf (Wn.some hf rfl rfl rfl rfl) rfl rfl rfl fn15 (awake_c hS) rfl rfl ?_)
                                                  clear hf hS; rintro v a w ⟨rfl, hS⟩ hf
                                                  refine step_l (st_rd hf (Wn.none rfl) (rd_pick_t hf rfl rfl rfl) hS rfl rfl ?_)
                                                  clear hf; intro a hf
                                                  refine step_l (st_rd hf (Wn.none rfl) (rd_assign hf rfl rfl) hS rfl rfl ?_)
                                                  clear hf; intro a hf
                                                  refine done_l ?_
                                                  refine t_normal ?_
                                                  refine c_ret ?_
                                                  refine e_res1 hf.defers rfl (res_tmp hf rfl .nil) ?_
                                                  refine ⟨?_, hS.sub (by repeat (first | exact Sub.refl | exact Sub.none | (apply Sub.cons; (focus ((repeat (first | exact Sel.head | apply Sel.tail)); done))) | apply Sub.skip))⟩
                                                  clear hf hS
                                                  rfl
                                                  )
                                              · clear hf; intro hc18 hf
                                                first
                                                | (first | contradiction | exact absurd (jcomm _ _ _ _) hc18 | exact absurd (jidem _ _) hc18 | exact absurd (jassoc _ _ _ _ _ _) hc18 | exact absurd (leq_l _ _ _ _) hc18 | exact absurd (leq_r _ _ _ _) hc18 | exact False.elim ((leq_total s i t j).elim (by assumption) (by assumption)) | exact absurd (leq_lub (by assumption) (by assumption)) hc18 | exact absurd (may_join (by assumption) (by assumption)) hc18; done)
                                                | (
                                                  refine step_l (st_rd hf (Wn.none rfl) (rd_pick_t hf rfl rfl rfl) hS rfl rfl ?_)
                                                  clear hf; intro a hf
                                                  refine step_l (st_rd hf (Wn.none rfl) (rd_move hf rfl rfl) hS rfl rfl ?_)
                                                  clear hf; intro a hf
                                                  refine step_l (st_skip hf (Wn.some hf rfl rfl rfl rfl) rfl rfl ?_)
                                                  clear hf; intro a hf
                                                  refine step_l (st_rd hf (Wn.none rfl) (rd_pick_f hf rfl rfl rfl) hS rfl rfl ?_)
                                                  clear hf; intro a hf
                                                  refine step_l (st_rd hf (Wn.none rfl) (rd_assign hf rfl rfl) hS rfl rfl ?_)
                                                  clear hf; intro a hf
                                                  refine done_l ?_
                                                  refine t_normal ?_
                                                  refine c_ret ?_
                                                  refine e_res1 hf.defers rfl (res_tmp hf rfl .nil) ?_
                                                  refine ⟨?_, hS.sub (by repeat (first | exact Sub.refl | exact Sub.none | (apply Sub.cons; (focus ((repeat (first | exact Sel.head | apply Sel.tail)); done))) | apply Sub.skip))⟩
                                                  clear hf hS
                                                  rfl
                                                  )
                                              )
                                          )
                                      · clear hf; intro hc14 hf
                                        first
                                        | (first | contradiction | exact absurd (jcomm _ _ _ _) hc14 | exact absurd (jidem _ _) hc14 | exact absurd (jassoc _ _ _ _ _ _) hc14 | exact absurd (leq_l _ _ _ _) hc14 | exact absurd (leq_r _ _ _ _) hc14 | exact False.elim ((leq_total s i t j).elim (by assumption) (by assumption)) | exact absurd (leq_lub (by assumption) (by assumption)) hc14 | exact absurd (may_join (by assumption) (by assumption)) hc14; done)
                                        | (
                                          refine step_l (st_rd hf (Wn.some hf rfl rfl rfl rfl) (rd_not hf rfl rfl) hS rfl rfl ?_)
                                          clear hf; intro a hf
                                          refine step_l (st_rd hf (Wn.some hf rfl rfl rfl rfl) (rd_move hf rfl rfl) hS rfl rfl ?_)
                                          clear hf; intro a hf
                                          refine step_l (st_skip hf (Wn.some hf rfl rfl rfl rfl) rfl rfl ?_)
                                          clear hf; intro a hf
                                          refine step_l (st_skip hf (Wn.some hf rfl rfl rfl rfl) rfl rfl ?_)
                                          clear hf; intro a hf
                                          refine step_l (st_skip hf (Wn.some hf rfl rfl rfl rfl) rfl rfl ?_)
                                          clear hf; intro a hf
                                          refine step_l (st_skip hf (Wn.some hf rfl rfl rfl rfl) rfl rfl ?_)
                                          clear hf; intro a hf
                                          refine step_l (st_rd hf (Wn.some hf rfl rfl rfl rfl) (rd_pick_t hf rfl rfl rfl) hS rfl rfl ?_)
                                          clear hf; intro a hf
                                          refine step_l (st_rd hf (Wn.some hf rfl rfl rfl rfl) (rd_move hf rfl rfl) hS rfl rfl ?_)
                                          clear hf; intro a hf
                                          refine step_l (st_skip hf (Wn.some hf rfl rfl rfl rfl) rfl rfl ?_)
                                          clear hf; intro a hf
                                          refine step_l (st_skip hf (Wn.some hf rfl rfl rfl rfl) rfl rfl ?_)
                                          clear hf; intro a hf
                                          refine step_l (st_skip hf (Wn.some hf rfl rfl rfl rfl) rfl rfl ?_)
                                          clear hf; intro a hf
                                          refine step_l (st_rd hf (Wn.some hf rfl rfl rfl rfl) (rd_pick_t hf rfl rfl rfl) hS rfl rfl ?_)
                                          clear hf; intro a hf
                                          refine step_l (st_rd hf (Wn.none rfl) (rd_pick_t hf rfl rfl rfl) hS rfl rfl ?_)
                                          clear hf; intro a hf
                                          refine step_l (st_rd hf (Wn.none rfl) (rd_move hf rfl rfl) hS rfl rfl ?_)
                                          clear hf; intro a hf
                                          refine step_l (st_rd hf (Wn.some hf rfl rfl rfl rfl) (rd_loadN hf rfl rfl ag23 sz23 (by intro _ h; exact loadN_of h (by repeat (first | exact Sel.head | apply Sel.tail)) (by repeat (first | exact Seg.nil | apply Seg.cons | apply Seg.succ)) )) hS rfl rfl ?_)
                                          clear hf; intro a hf
                                          refine step_l (st_call hf (Wn.some hf rfl rfl rfl rfl) rfl rfl rfl fn14 (May_c _ _ hS) rfl rfl ?_)
                                          clear hf hS; rintro v a w ⟨rfl, hS⟩ hf
                                          first | refine split_dec (d := 87) hf rfl ?_ ?_ | refine split_bool (d := 87) hf rfl ?_ ?_
                                          · clear hf; intro hc19 hf
                                            first
                                            | (first | contradiction | exact absurd (jcomm _ _ _ _) hc19 | exact absurd (jidem _ _) hc19 | exact absurd (jassoc _ _ _ _ _ _) hc19 | exact absurd (leq_l _ _ _ _) hc19 | exact absurd (leq_r _ _ _ _) hc19 | exact False.elim ((leq_total s i t j).elim (by assumption) (by assumption)) | exact absurd (leq_lub (by assumption) (by assumption)) hc19 | exact absurd (may_join (by assumption) (by assumption)) hc19; done)
                                            | (
                                              refine step_l (st_rd hf (Wn.none rfl) (rd_pick_t hf rfl rfl rfl) hS rfl rfl ?_)
                                              clear hf; intro a hf
                                              refine step_l (st_rd hf (Wn.none rfl) (rd_move hf rfl rfl) hS rfl rfl ?_)
                                              clear hf; intro a hf
                                              refine step_l (st_call hf (Wn.some hf rfl rfl rfl rfl) rfl rfl rfl fn15 (awake_c hS) rfl rfl ?_)
                                              clear hf hS; rintro v a w ⟨rfl, hS⟩ hf
                                              refine step_l (st_rd hf (Wn.none rfl) (rd_pick_t hf rfl rfl rfl) hS rfl rfl ?_)
                                              clear hf; intro a hf
                                              refine step_l (st_rd hf (Wn.none rfl) (rd_assign hf rfl rfl) hS rfl rfl ?_)
                                              clear hf; intro a hf
                                              refine done_l ?_
                                              refine t_normal ?_
                                              refine c_ret ?_
                                              refine e_res1 hf.defers rfl (res_tmp hf rfl .nil) ?_
                                              refine ⟨?_, hS.sub (by repeat (first | exact Sub.refl | exact Sub.none | (apply Sub.cons; (focus ((repeat (first | exact Sel.head | apply Sel.tail)); done))) | apply Sub.skip))⟩
                                              clear hf hS
                                              rfl
                                              )
                                          · clear hf; intro hc19 hf
                                            first
                                            | (first | contradiction | exact absurd (jcomm _ _ _ _) hc19 | exact absurd (jidem _ _) hc19 | exact absurd (jassoc _ _ _ _ _ _) hc19 | exact absurd (leq_l _ _ _ _) hc19 | exact absurd (leq_r _ _ _ _) hc19 | exact False.elim ((leq_total s i t j).elim (by assumption) (by assumption)) | exact absurd (leq_lub (by assumption) (by assumption)) hc19 | exact absurd (may_join (by assumption) (by assumption)) hc19; done)
                                            | (
                                              refine step_l (st_rd hf (Wn.none rfl) (rd_pick_t hf rfl rfl rfl) hS rfl rfl ?_)
                                              clear hf; intro a hf
                                              refine step_l (st_rd hf (Wn.none rfl) (rd_move hf rfl rfl) hS rfl rfl ?_)
                                              clear hf; intro a hf
                                              refine step_l (st_skip hf (Wn.some hf rfl rfl rfl rfl) rfl rfl ?_)
                                              clear hf; intro a hf
                                              refine step_l (st_rd hf (Wn.none rfl) (rd_pick_f hf rfl rfl rfl) hS rfl rfl ?_)
                                              clear hf; intro a hf
                                              refine step_l (st_rd hf (Wn.none rfl) (rd_assign hf rfl rfl) hS rfl rfl ?_)
                                              clear hf; intro a hf
                                              refine done_l ?_
                                              refine t_normal ?_
                                              refine c_ret ?_
                                              refine e_res1 hf.defers rfl (res_tmp hf rfl .nil) ?_
                                              refine ⟨?_, hS.sub (by repeat (first | exact Sub.refl | exact Sub.none | (apply Sub.cons; (focus ((repeat (first | exact Sel.head | apply Sel.tail)); done))) | apply Sub.skip))⟩
                                              clear hf hS
                                              rfl
                                              )
                                          )
                                      )
                                  · clear hf; intro hc13 hf
                                    first
                                    | (first | contradiction | exact absurd (jcomm _ _ _ _) hc13 | exact absurd (jidem _ _) hc13 | exact absurd (jassoc _ _ _ _ _ _) hc13 | exact absurd (leq_l _ _ _ _) hc13 | exact absurd (leq_r _ _ _ _) hc13 | exact False.elim ((leq_total s i t j).elim (by assumption) (by assumption)) | exact absurd (leq_lub (by assumption) (by assumption)) hc13 | exact absurd (may_join (by assumption) (by assumption)) hc13; done)
                                    | (
                                      refine step_l (st_rd hf (Wn.none rfl) (rd_move hf rfl rfl) hS rfl rfl ?_)
                                      clear hf; intro a hf
                                      refine step_l (st_rd hf (Wn.some hf rfl rfl rfl rfl) (rd_loadN hf rfl rfl ag23 sz23 (by intro _ h; exact loadN_of h (by repeat (first | exact Sel.head | apply Sel.tail)) (by repeat (first | exact Seg.nil | apply Seg.cons | apply Seg.succ)) )) hS rfl rfl ?_)
                                      clear hf; intro a hf
                                      refine step_l (st_rd hf (Wn.some hf rfl rfl rfl rfl) (rd_loadN hf rfl rfl ag23 sz23 (by intro _ h; exact loadN_of h (by repeat (first | exact Sel.head | apply Sel.tail)) (by repeat (first | exact Seg.nil | apply Seg.cons | apply Seg.succ)) )) hS rfl rfl ?_)
                                      clear hf; intro a hf
                                      refine step_l (st_call hf (Wn.some hf rfl rfl rfl rfl) rfl rfl rfl fn17 (Leq_c _ _ _ _ hS) rfl rfl ?_)
                                      clear hf hS; rintro v a w ⟨rfl, hS⟩ hf
                                      first | refine split_dec (d := 66) hf rfl ?_ ?_ | refine split_bool (d := 66) hf rfl ?_ ?_
                                      · clear hf; intro hc20 hf
                                        first
                                        | (first | contradiction | exact absurd (jcomm _ _ _ _) hc20 | exact absurd (jidem _ _) hc20 | exact absurd (jassoc _ _ _ _ _ _) hc20 | exact absurd (leq_l _ _ _ _) hc20 | exact absurd (leq_r _ _ _ _) hc20 | exact False.elim ((leq_total s i t j).elim (by assumption) (by assumption)) | exact absurd (leq_lub (by assumption) (by assumption)) hc20 | exact absurd (may_join (by assumption) (by assumption)) hc20; done)
                                        | (
                                          refine step_l (st_rd hf (Wn.none rfl) (rd_pick_f hf rfl rfl rfl) hS rfl rfl ?_)
                                          clear hf; intro a hf
                                          refine step_l (st_rd hf (Wn.none rfl) (rd_move hf rfl rfl) hS rfl rfl ?_)
                                          clear hf; intro a hf
                                          refine step_l (st_rd hf (Wn.some hf rfl rfl rfl rfl) (rd_loadN hf rfl rfl ag23 sz23 (by intro _ h; exact loadN_of h (by repeat (first | exact Sel.head | apply Sel.tail)) (by repeat (first | exact Seg.nil | apply Seg.cons | apply Seg.succ)) )) hS rfl rfl ?_)
                                          clear hf; intro a hf
                                          refine step_l (st_rd hf (Wn.some hf rfl rfl rfl rfl) (rd_loadN hf rfl rfl ag23 sz23 (by intro _ h; exact loadN_of h (by repeat (first | exact Sel.head | apply Sel.tail)) (by repeat (first | exact Seg.nil | apply Seg.cons | apply Seg.succ)) )) hS rfl rfl ?_)
                                          clear hf; intro a hf
                                          refine step_l (st_call hf (Wn.some hf rfl rfl rfl rfl) rfl rfl rfl fn17 (Leq_c _ _ _ _ hS) rfl rfl ?_)
                                          clear hf hS; rintro v a w ⟨rfl, hS⟩ hf
                                          first | refine split_dec (d := 71) hf rfl ?_ ?_ | refine split_bool (d := 71) hf rfl ?_ ?_
                                          · clear hf; intro hc21 hf
                                            first
                                            | (first | contradiction | exact absurd (jcomm _ _ _ _) hc21 | exact absurd (jidem _ _) hc21 | exact absurd (jassoc _ _ _ _ _ _) hc21 | exact absurd (leq_l _ _ _ _) hc21 | exact absurd (leq_r _ _ _ _) hc21 | exact False.elim ((leq_total s i t j).elim (by assumption) (by assumption)) | exact absurd (leq_lub (by assumption) (by assumption)) hc21 | exact absurd (may_join (by assumption) (by assumption)) hc21; done)
                                            | (
                                              refine step_l (st_rd hf (Wn.some hf rfl rfl rfl rfl) (rd_not hf rfl rfl) hS rfl rfl ?_)
                                              clear hf; intro a hf
                                              refine step_l (st_rd hf (Wn.some hf rfl rfl rfl rfl) (rd_move hf rfl rfl) hS rfl rfl ?_)
                                              clear hf; intro a hf
                                              refine step_l (st_rd hf (Wn.some hf rfl rfl rfl rfl) (rd_loadN hf rfl rfl ag23 sz23 (by intro _ h; exact loadN_of h (by repeat (first | exact Sel.head | apply Sel.tail)) (by repeat (first | exact Seg.nil | apply Seg.cons | apply Seg.succ)) )) hS rfl rfl ?_)
                                              clear hf; intro a hf
                                              refine step_l (st_rd hf (Wn.some hf rfl rfl rfl rfl) (rd_loadN hf rfl rfl ag23 sz23 (by intro _ h; exact loadN_of h (by repeat (first | exact Sel.head | apply Sel.tail)) (by repeat (first | exact Seg.nil | apply Seg.cons | apply Seg.succ)) )) hS rfl rfl ?_)
                                              clear hf; intro a hf
                                              refine step_l (st_call hf (Wn.some hf rfl rfl rfl rfl) rfl rfl rfl fn17 (Leq_c _ _ _ _ hS) rfl rfl ?_)
                                              clear hf hS; rintro v a w ⟨rfl, hS⟩ hf
                                              first | refine split_dec (d := 76) hf rfl ?_ ?_ | refine split_bool (d := 76) hf rfl ?_ ?_
                                              · clear hf; intro hc22 hf
                                                first
                                                | (first | contradiction | exact absurd (jcomm _ _ _ _) hc22 | exact absurd (jidem _ _) hc22 | exact absurd (jassoc _ _ _ _ _ _) hc22 | exact absurd (leq_l _ _ _ _) hc22 | exact absurd (leq_r _ _ _ _) hc22 | exact False.elim ((leq_total s i t j).elim (by assumption) (by assumption)) | exact absurd (leq_lub (by assumption) (by assumption)) hc22 | exact absurd (may_join (by assumption) (by assumption)) hc22; done)
                                                | (
                                                  refine step_l (st_rd hf (Wn.some hf rfl rfl rfl rfl) (rd_not hf rfl rfl) hS rfl rfl ?_)
                                                  clear hf; intro a hf
                                                  refine step_l (st_rd hf (Wn.some hf rfl rfl rfl rfl) (rd_pick_f hf rfl rfl rfl) hS rfl rfl ?_)
                                                  clear hf; intro a hf
                                                  refine step_l (st_rd hf (Wn.some hf rfl rfl rfl rfl) (rd_move hf rfl rfl) hS rfl rfl ?_)
                                                  clear hf; intro a hf
                                                  refine step_l (st_rd hf (Wn.some hf rfl rfl rfl rfl) (rd_loadN hf rfl rfl ag23 sz23 (by intro _ h; exact loadN_of h (by repeat (first | exact Sel.head | apply Sel.tail)) (by repeat (first | exact Seg.nil | apply Seg.cons | apply Seg.succ)) )) hS rfl rfl ?_)
                                                  clear hf; intro a hf
                                                  refine step_l (st_rd hf (Wn.some hf rfl rfl rfl rfl) (rd_loadN hf rfl rfl ag23 sz23 (by intro _ h; exact loadN_of h (by repeat (first | exact Sel.head | apply Sel.tail)) (by repeat (first | exact Seg.nil | apply Seg.cons | apply Seg.succ)) )) hS rfl rfl ?_)
                                                  clear hf; intro a hf
                                                  refine step_l (st_call hf (Wn.some hf rfl rfl rfl rfl) rfl rfl rfl fn17 (Leq_c _ _ _ _ hS) rfl rfl ?_)
                                                  clear hf hS; rintro v a w ⟨rfl, hS⟩ hf
                                                  first | refine split_dec (d := 82) hf rfl ?_ ?_ | refine split_bool (d := 82) hf rfl ?_ ?_
                                                  · clear hf; intro hc23 hf
                                                    first
                                                    | (first | contradiction | exact absurd (jcomm _ _ _ _) hc23 | exact absurd (jidem _ _) hc23 | exact absurd (jassoc _ _ _ _ _ _) hc23 | exact absurd (leq_l _ _ _ _) hc23 | exact absurd (leq_r _ _ _ _) hc23 | exact False.elim ((leq_total s i t j).elim (by assumption) (by assumption)) | exact absurd (leq_lub (by assumption) (by assumption)) hc23 | exact absurd (may_join (by assumption) (by assumption)) hc23; done)
                                                    | (
                                                      refine step_l (st_rd hf (Wn.some hf rfl rfl rfl rfl) (rd_pick_f hf rfl rfl rfl) hS rfl rfl ?_)
                                                      clear hf; intro a hf
                                                      refine step_l (st_rd hf (Wn.none rfl) (rd_pick_t hf rfl rfl rfl) hS rfl rfl ?_)
                                                      clear hf; intro a hf
                                                      refine step_l (st_rd hf (Wn.none rfl) (rd_move hf rfl rfl) hS rfl rfl ?_)
                                                      clear hf; intro a hf
                                                      refine step_l (st_rd hf (Wn.some hf rfl rfl rfl rfl) (rd_loadN hf rfl rfl ag23 sz23 (by intro _ h; exact loadN_of h (by repeat (first | exact Sel.head | apply Sel.tail)) (by repeat (first | exact Seg.nil | apply Seg.cons | apply Seg.succ)) )) hS rfl rfl ?_)
                                                      clear hf; intro a hf
                                                      refine step_l (st_call hf (Wn.some hf rfl rfl rfl rfl) rfl rfl rfl fn14 (May_c _ _ hS) rfl rfl ?_)
                                                      clear hf hS; rintro v a w ⟨rfl, hS⟩ hf
                                                      first | refine split_dec (d := 87) hf rfl ?_ ?_ | refine split_bool (d := 87) hf rfl ?_ ?_
                                                      · clear hf; intro hc24 hf
                                                        first
                                                        | (first | contradiction | exact absurd (jcomm _ _ _ _) hc24 | exact absurd (jidem _ _) hc24 | exact absurd (jassoc _ _ _ _ _ _) hc24 | exact absurd (leq_l _ _ _ _) hc24 | exact absurd (leq_r _ _ _ _) hc24 | exact False.elim ((leq_total s i t j).elim (by assumption) (by assumption)) | exact absurd (leq_lub (by assumption) (by assumption)) hc24 | exact absurd (may_join (by assumption) (by assumption)) hc24; done)
                                                        | (
                                                          refine step_l (st_rd hf (Wn.none rfl) (rd_pick_t hf rfl rfl rfl) hS rfl rfl ?_)
                                                          clear hf; intro a hf
                                                          refine step_l (st_rd hf (Wn.none rfl) (rd_move hf rfl rfl) hS rfl rfl ?_)
                                                          clear hf; intro a hf
                                                          refine step_l (st_call hf (Wn.some hf rfl rfl rfl rfl) rfl rfl rfl fn15 (awake_c hS) rfl rfl ?_)
                                                          clear hf hS; rintro v a w ⟨rfl, hS⟩ hf
                                                          refine step_l (st_rd hf (Wn.none rfl) (rd_pick_t hf rfl rfl rfl) hS rfl rfl ?_)
                                                          clear hf; intro a hf
                                                          refine step_l (st_rd hf (Wn.none rfl) (rd_assign hf rfl rfl) hS rfl rfl ?_)
                                                          clear hf; intro a hf
                                                          refine done_l ?_
                                                          refine t_normal ?_
                                                          refine c_ret ?_
                                                          refine e_res1 hf.defers rfl (res_tmp hf rfl .nil) ?_
                                                          refine ⟨?_, hS.sub (by repeat (first | exact Sub.refl | exact Sub.none | (apply Sub.cons; (focus ((repeat (first | exact Sel.head | apply Sel.tail)); done))) | apply Sub.skip))⟩
                                                          clear hf hS
                                                          rfl
                                                          )
                                                      · clear hf; intro hc24 hf
                                                        first
                                                        | (first | contradiction | exact absurd (jcomm _ _ _ _) hc24 | exact absurd (jidem _ _) hc24 | exact absurd (jassoc _ _ _ _ _ _) hc24 | exact absurd (leq_l _ _ _ _) hc24 | exact absurd (leq_r _ _ _ _) hc24 | exact False.elim ((leq_total s i t j).elim (by assumption) (by assumption)) | exact absurd (leq_lub (by assumption) (by assumption)) hc24 | exact absurd (may_join (by assumption) (by assumption)) hc24; done)
                                                        | (
                                                          refine step_l (st_rd hf (Wn.none rfl) (rd_pick_t hf rfl rfl rfl) hS rfl rfl ?_)
                                                          clear hf; intro a hf
                                                          refine step_l (st_rd hf (Wn.none rfl) (rd_move hf rfl rfl) hS rfl rfl ?_)
                                                          clear hf; intro a hf
                                                          refine step_l (st_skip hf (Wn.some hf rfl rfl rfl rfl) rfl rfl ?_)
                                                          clear hf; intro a hf
                                                          refine step_l (st_rd hf (Wn.none rfl) (rd_pick_f hf rfl rfl rfl) hS rfl rfl ?_)
                                                          clear hf; intro a hf
                                                          refine step_l (st_rd hf (Wn.none rfl) (rd_assign hf rfl rfl) hS rfl rfl ?_)
                                                          clear hf; intro a hf
                                                          refine done_l ?_
                                                          refine t_normal ?_
                                                          refine c_ret ?_
                                                          refine e_res1 hf.defers rfl (res_tmp hf rfl .nil) ?_
                                                          refine ⟨?_, hS.sub (by repeat (first | exact Sub.refl | exact Sub.none | (apply Sub.cons; (focus ((repeat (first | exact Sel.head | apply Sel.tail)); done))) | apply Sub.skip))⟩
                                                          clear hf hS
                                                          rfl
                                                          )
                                                      )
                                                  · clear hf; intro hc23 hf
                                                    first
                                                    | (first | contradiction | exact absurd (jcomm _ _ _ _) hc23 | exact absurd (jidem _ _) hc23 | exact absurd (jassoc _ _ _ _ _ _) hc23 | exact absurd (leq_l _ _ _ _) hc23 | exact absurd (leq_r _ _ _ _) hc23 | exact False.elim ((leq_total s i t j).elim (by assumption) (by assumption)) | exact absurd (leq_lub (by assumption) (by assumption)) hc23 | exact absurd (may_join (by assumption) (by assumption)) hc23; done)
                                                    | (
                                                      refine step_l (st_rd hf (Wn.some hf rfl rfl rfl rfl) (rd_pick_f hf rfl rfl rfl) hS rfl rfl ?_)
                                                      clear hf; intro a hf
                                                      refine step_l (st_rd hf (Wn.none rfl) (rd_pick_t hf rfl rfl rfl) hS rfl rfl ?_)
                                                      clear hf; intro a hf
                                                      refine step_l (st_rd hf (Wn.none rfl) (rd_move hf rfl rfl) hS rfl rfl ?_)
                                                      clear hf; intro a hf
                                                      refine step_l (st_skip hf (Wn.some hf rfl rfl rfl rfl) rfl rfl ?_)
                                                      clear hf; intro a hf
                                                      refine step_l (st_skip hf (Wn.some hf rfl rfl rfl rfl) rfl rfl ?_)
                                                      clear hf; intro a hf
                                                      refine step_l (st_rd hf (Wn.none rfl) (rd_pick_f hf rfl rfl rfl) hS rfl rfl ?_)
                                                      clear hf; intro a hf
                                                      refine step_l (st_rd hf (Wn.none rfl) (rd_move hf rfl rfl) hS rfl rfl ?_)
                                                      clear hf; intro a hf
                                                      refine step_l (st_skip hf (Wn.some hf rfl rfl rfl rfl) rfl rfl ?_)
                                                      clear hf; intro a hf
                                                      refine step_l (st_rd hf (Wn.none rfl) (rd_pick_f hf rfl rfl rfl) hS rfl rfl ?_)
                                                      clear hf; intro a hf
                                                      refine step_l (st_rd hf (Wn.none rfl) (rd_assign hf rfl rfl) hS rfl rfl ?_)
                                                      clear hf; intro a hf
                                                      refine done_l ?_
                                                      refine t_normal ?_
                                                      refine c_ret ?_
                                                      refine e_res1 hf.defers rfl (res_tmp hf rfl .nil) ?_
                                                      refine ⟨?_, hS.sub (by repeat (first | exact Sub.refl | exact Sub.none | (apply Sub.cons; (focus ((repeat (first | exact Sel.head | apply Sel.tail)); done))) | apply Sub.skip))⟩
                                                      clear hf hS
                                                      rfl
                                                      )
                                                  )
                                              · clear hf; intro hc22 hf
                                                first
                                                | (first | contradiction | exact absurd (jcomm _ _ _ _) hc22 | exact absurd (jidem _ _) hc22 | exact absurd (jassoc _ _ _ _ _ _) hc22 | exact absurd (leq_l _ _ _ _) hc22 | exact absurd (leq_r _ _ _ _) hc22 | exact False.elim ((leq_total s i t j).elim (by assumption) (by assumption)) | exact absurd (leq_lub (by assumption) (by assumption)) hc22 | exact absurd (may_join (by assumption) (by assumption)) hc22; done)
                                                | (
                                                  refine step_l (st_rd hf (Wn.some hf rfl rfl rfl rfl) (rd_not hf rfl rfl) hS rfl rfl ?_)
                                                  clear hf; intro a hf
                                                  refine step_l (st_rd hf (Wn.some hf rfl rfl rfl rfl) (rd_pick_f hf rfl rfl rfl) hS rfl rfl ?_)
                                                  clear hf; intro a hf
                                                  refine step_l (st_rd hf (Wn.some hf rfl rfl rfl rfl) (rd_move hf rfl rfl) hS rfl rfl ?_)
                                                  clear hf; intro a hf
                                                  refine step_l (st_skip hf (Wn.some hf rfl rfl rfl rfl) rfl rfl ?_)
                                                  clear hf; intro a hf
                                                  refine step_l (st_skip hf (Wn.some hf rfl rfl rfl rfl) rfl rfl ?_)
                                                  clear hf; intro a hf
                                                  refine step_l (st_skip hf (Wn.some hf rfl rfl rfl rfl) rfl rfl ?_)
                                                  clear hf; intro a hf
                                                  refine step_l (st_rd hf (Wn.some hf rfl rfl rfl rfl) (rd_pick_t hf rfl rfl rfl) hS rfl rfl ?_)
                                                  clear hf; intro a hf
                                                  refine step_l (st_rd hf (Wn.none rfl) (rd_pick_t hf rfl rfl rfl) hS rfl rfl ?_)
                                                  clear hf; intro a hf
                                                  refine step_l (st_rd hf (Wn.none rfl) (rd_move hf rfl rfl) hS rfl rfl ?_)
                                                  clear hf; intro a hf
                                                  refine step_l (st_rd hf (Wn.some hf rfl rfl rfl rfl) (rd_loadN hf rfl rfl ag23 sz23 (by intro _ h; exact loadN_of h (by repeat (first | exact Sel.head | apply Sel.tail)) (by repeat (first | exact Seg.nil | apply Seg.cons | apply Seg.succ)) )) hS rfl rfl ?_)
                                                  clear hf; intro a hf
                                                  refine step_l (st_call hf (Wn.some hf rfl rfl rfl rfl) rfl rfl rfl fn14 (May_c _ _ hS) rfl rfl ?_)
                                                  clear hf hS; rintro v a w ⟨rfl, hS⟩ hf
                                                  first | refine split_dec (d := 87) hf rfl ?_ ?_ | refine split_bool (d := 87) hf rfl ?_ ?_
                                                  · clear hf; intro hc25 hf
                                                    first
                                                    | (first | contradiction | exact absurd (jcomm _ _ _ _) hc25 | exact absurd (jidem _ _) hc25 | exact absurd (jassoc _ _ _ _ _ _) hc25 | exact absurd (leq_l _ _ _ _) hc25 | exact absurd (leq_r _ _ _ _) hc25 | exact False.elim ((leq_total s i t j).elim (by assumption) (by assumption)) | exact absurd (leq_lub (by assumption) (by assumption)) hc25 | exact absurd (may_join (by assumption) (by assumption)) hc25; done)
                                                    | (
                                                      refine step_l (st_rd hf (Wn.none rfl) (rd_pick_t hf rfl rfl rfl) hS rfl rfl ?_)
                                                      clear hf; intro a hf
                                                      refine step_l (st_rd hf (Wn.none rfl) (rd_move hf rfl rfl) hS rfl rfl ?_)
                                                      clear hf; intro a hf
                                                      refine step_l (st_call hf (Wn.some hf rfl rfl rfl rfl) rfl rfl rfl fn15 (awake_c hS) rfl rfl ?_)
                                                      clear hf hS; rintro v a w ⟨rfl, hS⟩ hf
                                                      refine step_l (st_rd hf (Wn.none rfl) (rd_pick_t hf rfl rfl rfl) hS rfl rfl ?_)
                                                      clear hf; intro a hf
                                                      refine step_l (st_rd hf (Wn.none rfl) (rd_assign hf rfl rfl) hS rfl rfl ?_)
                                                      clear hf; intro a hf
                                                      refine done_l ?_
                                                      refine t_normal ?_
                                                      refine c_ret ?_
                                                      refine e_res1 hf.defers rfl (res_tmp hf rfl .nil) ?_
                                                      refine ⟨?_, hS.sub (by repeat (first | exact Sub.refl | exact Sub.none | (apply Sub.cons; (focus ((repeat (first | exact Sel.head | apply Sel.tail)); done))) | apply Sub.skip))⟩
                                                      clear hf hS
                                                      rfl
                                                      )
                                                  · clear hf; intro hc25 hf
                                                    first
                                                    | (first | contradiction | exact absurd (jcomm _ _ _ _) hc25 | exact absurd (jidem _ _) hc25 | exact absurd (jassoc _ _ _ _ _ _) hc25 | exact absurd (leq_l _ _ _ _) hc25 | exact absurd (leq_r _ _ _ _) hc25 | exact False.elim ((leq_total s i t j).elim (by assumption) (by assumption)) | exact absurd (leq_lub (by assumption) (by assumption)) hc25 | exact absurd (may_join (by assumption) (by assumption)) hc25; done)
                                                    | (
                                                      refine step_l (st_rd hf (Wn.none rfl) (rd_pick_t hf rfl rfl rfl) hS rfl rfl ?_)
                                                      clear hf; intro a hf
                                                      refine step_l (st_rd hf (Wn.none rfl) (rd_move hf rfl rfl) hS rfl rfl ?_)
                                                      clear hf; intro a hf
                                                      refine step_l (st_skip hf (Wn.some hf rfl rfl rfl rfl) rfl rfl ?_)
                                                      clear hf; intro a hf
                                                      refine step_l (st_rd hf (Wn.none rfl) (rd_pick_f hf rfl rfl rfl) hS rfl rfl ?_)
                                                      clear hf; intro a hf
                                                      refine step_l (st_rd hf (Wn.none rfl) (rd_assign hf rfl rfl) hS rfl rfl ?_)
                                                      clear hf; intro a hf
                                                      refine done_l ?_
                                                      refine t_normal ?_
                                                      refine c_ret ?_
                                                      refine e_res1 hf.defers rfl (res_tmp hf rfl .nil) ?_
                                                      refine ⟨?_, hS.sub (by repeat (first | exact Sub.refl | exact Sub.none | (apply Sub.cons; (focus ((repeat (first | exact Sel.head | apply Sel.tail)); done))) | apply Sub.skip))⟩
                                                      clear hf hS
                                                      rfl
                                                      )
                                                  )
                                              )
                                          · clear hf; intro hc21 hf
                                            first
                                            | (first | contradiction | exact absurd (jcomm _ _ _ _) hc21 | exact absurd (jidem _ _) hc21 | exact absurd (jassoc _ _ _ _ _ _) hc21 | exact absurd (leq_l _ _ _ _) hc21 | exact absurd (leq_r _ _ _ _) hc21 | exact False.elim ((leq_total s i t j).elim (by assumption) (by assumption)) | exact absurd (leq_lub (by assumption) (by assumption)) hc21 | exact absurd (may_join (by assumption) (by assumption)) hc21; done)
                                            | (
                                              refine step_l (st_rd hf (Wn.some hf rfl rfl rfl rfl) (rd_not hf rfl rfl) hS rfl rfl ?_)
                                              clear hf; intro a hf
                                              refine step_l (st_rd hf (Wn.some hf rfl rfl rfl rfl) (rd_move hf rfl rfl) hS rfl rfl ?_)
                                              clear hf; intro a hf
                                              refine step_l (st_skip hf (Wn.some hf rfl rfl rfl rfl) rfl rfl ?_)
                                              clear hf; intro a hf
                                              refine step_l (st_skip hf (Wn.some hf rfl rfl rfl rfl) rfl rfl ?_)
                                              clear hf; intro a hf
                                              refine step_l (st_skip hf (Wn.some hf rfl rfl rfl rfl) rfl rfl ?_)
                                              clear hf; intro a hf
                                              refine step_l (st_skip hf (Wn.some hf rfl rfl rfl rfl) rfl rfl ?_)
                                              clear hf; intro a hf
                                              refine step_l (st_rd hf (Wn.some hf rfl rfl rfl rfl) (rd_pick_t hf rfl rfl rfl) hS rfl rfl ?_)
                                              clear hf; intro a hf
                                              refine step_l (st_rd hf (Wn.some hf rfl rfl rfl rfl) (rd_move hf rfl rfl) hS rfl rfl ?_)
                                              clear hf; intro a hf
                                              refine step_l (st_skip hf (Wn.some hf rfl rfl rfl rfl) rfl rfl ?_)
                                              clear hf; intro a hf
                                              refine step_l (st_skip hf (Wn.some hf rfl rfl rfl rfl) rfl rfl ?_)
                                              clear hf; intro a hf
                                              refine step_l (st_skip hf (Wn.some hf rfl rfl rfl rfl) rfl rfl ?_)
                                              clear hf; intro a hf
                                              refine step_l (st_rd hf (Wn.some hf rfl rfl rfl rfl) (rd_pick_t hf rfl rfl rfl) hS rfl rfl ?_)
                                              clear hf; intro a hf
                                              refine step_l (st_rd hf (Wn.none rfl) (rd_pick_t hf rfl rfl rfl) hS rfl rfl ?_)
                                              clear hf; intro a hf
                                              refine step_l (st_rd hf (Wn.none rfl) (rd_move hf rfl rfl) hS rfl rfl ?_)
                                              clear hf; intro a hf
                                              refine step_l (st_rd hf (Wn.some hf rfl rfl rfl rfl) (rd_loadN hf rfl rfl ag23 sz23 (by intro _ h; exact loadN_of h (by repeat (first | exact Sel.head | apply Sel.tail)) (by repeat (first | exact Seg.nil | apply Seg.cons | apply Seg.succ)) )) hS rfl rfl ?_)
                                              clear hf; intro a hf
                                              refine step_l (st_call hf (Wn.some hf rfl rfl rfl rfl) rfl rfl rfl fn14 (May_c _ _ hS) rfl rfl ?_)
                                              clear hf hS; rintro v a w ⟨rfl, hS⟩ hf
                                              first | refine split_dec (d := 87) hf rfl ?_ ?_ | refine split_bool (d := 87) hf rfl ?_ ?_
                                              · clear hf; intro hc26 hf
                                                first
                                                | (first | contradiction | exact absurd (jcomm _ _ _ _) hc26 | exact absurd (jidem _ _) hc26 | exact absurd (jassoc _ _ _ _ _ _) hc26 | exact absurd (leq_l _ _ _ _) hc26 | exact absurd (leq_r _ _ _ _) hc26 | exact False.elim ((leq_total s i t j).elim (by assumption) (by assumption)) | exact absurd (leq_lub (by assumption) (by assumption)) hc26 | exact absurd (may_join (by assumption) (by assumption)) hc26; done)
                                                | (
                                                  refine step_l (st_rd hf (Wn.none rfl) (rd_pick_t hf rfl rfl rfl) hS rfl rfl ?_)
                                                  clear hf; intro a hf
                                                  refine step_l (st_rd hf (Wn.none rfl) (rd_move hf rfl rfl) hS rfl rfl ?_)
                                                  clear hf; intro a hf
                                                  refine step_l (st_call hf (Wn.some hf rfl rfl rfl rfl) rfl rfl rfl fn15 (awake_c hS) rfl rfl ?_)
                                                  clear hf hS; rintro v a w ⟨rfl, hS⟩ hf
                                                  refine step_l (st_rd hf (Wn.none rfl) (rd_pick_t hf rfl rfl rfl) hS rfl rfl ?_)
                                                  clear hf; intro a hf
                                                  refine step_l (st_rd hf (Wn.none rfl) (rd_assign hf rfl rfl) hS rfl rfl ?_)
                                                  clear hf; intro a hf
                                                  refine done_l ?_
                                                  refine t_normal ?_
                                                  refine c_ret ?_
                                                  refine e_res1 hf.defers rfl (res_tmp hf rfl .nil) ?_
                                                  refine ⟨?_, hS.sub (by repeat (first | exact Sub.refl | exact Sub.none | (apply Sub.cons; (focus ((repeat (first | exact Sel.head | apply Sel.tail)); done))) | apply Sub.skip))⟩
                                                  clear hf hS
                                                  rfl
                                                  )
                                              · clear hf; intro hc26 hf
                                                first
                                                | (first | contradiction | exact absurd (jcomm _ _ _ _) hc26 | exact absurd (jidem _ _) hc26 | exact absurd (jassoc _ _ _ _ _ _) hc26 | exact absurd (leq_l _ _ _ _) hc26 | exact absurd (leq_r _ _ _ _) hc26 | exact False.elim ((leq_total s i t j).elim (by assumption) (by assumption)) | exact absurd (leq_lub (by assumption) (by assumption)) hc26 | exact absurd (may_join (by assumption) (by assumption)) hc26; done)
                                                | (
                                                  refine step_l (st_rd hf (Wn.none rfl) (rd_pick_t hf rfl rfl rfl) hS rfl rfl ?_)
                                                  clear hf; intro a hf
                                                  refine step_l (st_rd hf (Wn.none rfl) (rd_move hf rfl rfl) hS rfl rfl ?_)
                                                  clear hf; intro a hf
                                                  refine step_l (st_skip hf (Wn.some hf rfl rfl rfl rfl) rfl rfl ?_)
                                                  clear hf; intro a hf
                                                  refine step_l (st_rd hf (Wn.none rfl) (rd_pick_f hf rfl rfl rfl) hS rfl rfl ?_)
                                                  clear hf; intro a hf
                                                  refine step_l (st_rd hf (Wn.none rfl) (rd_assign hf rfl rfl) hS rfl rfl ?_)
                                                  clear hf; intro a hf
                                                  refine done_l ?_
                                                  refine t_normal ?_
                                                  refine c_ret ?_
                                                  refine e_res1 hf.defers rfl (res_tmp hf rfl .nil) ?_
                                                  refine ⟨?_, hS.sub (by repeat (first | exact Sub.refl | exact Sub.none | (apply Sub.cons; (focus ((repeat (first | exact Sel.head | apply Sel.tail)); done))) | apply Sub.skip))⟩
                                                  clear hf hS
                                                  rfl
                                                  )
                                              )
                                          )
                                      · clear hf; intro hc20 hf
                                        first
                                        | (first | contradiction | exact absurd (jcomm _ _ _ _) hc20 | exact absurd (jidem _ _) hc20 | exact absurd (jassoc _ _ _ _ _ _) hc20 | exact absurd (leq_l _ _ _ _) hc20 | exact absurd (leq_r _ _ _ _) hc20 | exact False.elim ((leq_total s i t j).elim (by assumption) (by assumption)) | exact absurd (leq_lub (by assumption) (by assumption)) hc20 | exact absurd (may_join (by assumption) (by assumption)) hc20; done)
                                        | (
                                          refine step_l (st_rd hf (Wn.none rfl) (rd_pick_f hf rfl rfl rfl) hS rfl rfl ?_)
                                          clear hf; intro a hf
                                          refine step_l (st_rd hf (Wn.none rfl) (rd_move hf rfl rfl) hS rfl rfl ?_)
                                          clear hf; intro a hf
                                          refine step_l (st_skip hf (Wn.some hf rfl rfl rfl rfl) rfl rfl ?_)
                                          clear hf; intro a hf
                                          refine step_l (st_skip hf (Wn.some hf rfl rfl rfl rfl) rfl rfl ?_)
                                          clear hf; intro a hf
                                          refine step_l (st_skip hf (Wn.some hf rfl rfl rfl rfl) rfl rfl ?_)
                                          clear hf; intro a hf
                                          refine step_l (st_skip hf (Wn.some hf rfl rfl rfl rfl) rfl rfl ?_)
                                          clear hf; intro a hf
                                          refine step_l (st_skip hf (Wn.some hf rfl rfl rfl rfl) rfl rfl ?_)
                                          clear hf; intro a hf
                                          refine step_l (st_skip hf (Wn.undef hf rfl rfl rfl) rfl rfl ?_)
                                          clear hf; intro a hf
                                          refine step_l (st_skip hf (Wn.undef hf rfl rfl rfl) rfl rfl ?_)
                                          clear hf; intro a hf
                                          refine step_l (st_skip hf (Wn.undef hf rfl rfl rfl) rfl rfl ?_)
                                          clear hf; intro a hf
                                          refine step_l (st_skip hf (Wn.undef hf rfl rfl rfl) rfl rfl ?_)
                                          clear hf; intro a hf
                                          refine step_l (st_skip hf (Wn.some hf rfl rfl rfl rfl) rfl rfl ?_)
                                          clear hf; intro a hf
                                          refine step_l (st_skip hf (Wn.some hf rfl rfl rfl rfl) rfl rfl ?_)
                                          clear hf; intro a hf
                                          refine step_l (st_skip hf (Wn.undef hf rfl rfl rfl) rfl rfl ?_)
                                          clear hf; intro a hf
                                          refine step_l (st_skip hf (Wn.undef hf rfl rfl rfl) rfl rfl ?_)
                                          clear hf; intro a hf
                                          refine step_l (st_skip hf (Wn.undef hf rfl rfl rfl) rfl rfl ?_)
                                          clear hf; intro a hf
                                          refine step_l (st_skip hf (Wn.some hf rfl rfl rfl rfl) rfl rfl ?_)
                                          clear hf; intro a hf
                                          refine step_l (st_rd hf (Wn.none rfl) (rd_pick_f hf rfl rfl rfl) hS rfl rfl ?_)
                                          clear hf; intro a hf
                                          refine step_l (st_rd hf (Wn.none rfl) (rd_move hf rfl rfl) hS rfl rfl ?_)
                                          clear hf; intro a hf
                                          refine step_l (st_skip hf (Wn.some hf rfl rfl rfl rfl) rfl rfl ?_)
                                          clear hf; intro a hf
                                          refine step_l (st_skip hf (Wn.some hf rfl rfl rfl rfl) rfl rfl ?_)
                                          clear hf; intro a hf
                                          refine step_l (st_rd hf (Wn.none rfl) (rd_pick_f hf rfl rfl rfl) hS rfl rfl ?_)
                                          clear hf; intro a hf
                                          refine step_l (st_rd hf (Wn.none rfl) (rd_move hf rfl rfl) hS rfl rfl ?_)
                                          clear hf; intro a hf
                                          refine step_l (st_skip hf (Wn.some hf rfl rfl rfl rfl) rfl rfl ?_)
                                          clear hf; intro a hf
                                          refine step_l (st_rd hf (Wn.none rfl) (rd_pick_f hf rfl rfl rfl) hS rfl rfl ?_)
                                          clear hf; intro a hf
                                          refine step_l (st_rd hf (Wn.none rfl) (rd_assign hf rfl rfl) hS rfl rfl ?_)
                                          clear hf; intro a hf
                                          refine done_l ?_
                                          refine t_normal ?_
                                          refine c_ret ?_
                                          refine e_res1 hf.defers rfl (res_tmp hf rfl .nil) ?_
                                          refine ⟨?_, hS.sub (by repeat (first | exact Sub.refl | exact Sub.none | (apply Sub.cons; (focus ((repeat (first | exact Sel.head | apply Sel.tail)); done))) | apply Sub.skip))⟩
                                          clear hf hS
                                          rfl
                                          )
                                      )
                                  )
                              · clear hf; intro hc12 hf
                                first
                                | (first | contradiction | exact absurd (jcomm _ _ _ _) hc12 | exact absurd (jidem _ _) hc12 | exact absurd (jassoc _ _ _ _ _ _) hc12 | exact absurd (leq_l _ _ _ _) hc12 | exact absurd (leq_r _ _ _ _) hc12 | exact False.elim ((leq_total s i t j).elim (by assumption) (by assumption)) | exact absurd (leq_lub (by assumption) (by assumption)) hc12 | exact absurd (may_join (by assumption) (by assumption)) hc12; done)
                                | (
                                  refine any_take (i := 33) hf rfl (by kernel_rfl) (by kernel_rfl) (by kernel_rfl) (fun _ _ _ h => h) (Wn.some hf rfl rfl rfl rfl) (rd_not hf rfl rfl) hT rfl rfl ?_
                                  clear hf; intro a hf
                                  refine any_take (i := 34) hf rfl (by kernel_rfl) (by kernel_rfl) (by kernel_rfl) (fun _ _ _ h => h) (Wn.none rfl) (rd_pick_f hf rfl rfl rfl) hT rfl rfl ?_
                                  clear hf; intro a hf
                                  refine any_done (by kernel_rfl) ?_
                                  refine t_normal ?_
                                  refine c_true hf rfl ?_
                                  refine c_seq ?_
                                  refine c_region ?_
                                  refine step_l (st_rd hf (Wn.none rfl) (rd_assign hf rfl rfl) hS rfl rfl ?_)
                                  clear hf; intro a hf
                                  refine done_l ?_
                                  refine t_normal ?_
                                  refine c_ret ?_
                                  refine t_ret ?_
                                  refine e_res1 hf.defers rfl (res_tmp hf rfl .nil) ?_
                                  refine ⟨?_, hS.sub (by repeat (first | exact Sub.refl | exact Sub.none | (apply Sub.cons; (focus ((repeat (first | exact Sel.head | apply Sel.tail)); done))) | apply Sub.skip))⟩
                                  clear hf hS
                                  rfl
                                  )
                              )
                          · clear hf; intro hc11 hf
                            first
                            | (first | contradiction | exact absurd (jcomm _ _ _ _) hc11 | exact absurd (jidem _ _) hc11 | exact absurd (jassoc _ _ _ _ _ _) hc11 | exact absurd (leq_l _ _ _ _) hc11 | exact absurd (leq_r _ _ _ _) hc11 | exact False.elim ((leq_total s i t j).elim (by assumption) (by assumption)) | exact absurd (leq_lub (by assumption) (by assumption)) hc11 | exact absurd (may_join (by assumption) (by assumption)) hc11; done)
                            | (
                              refine any_take (i := 27) hf rfl (by kernel_rfl) (by kernel_rfl) (by kernel_rfl) (fun _ _ _ h => h) (Wn.some hf rfl rfl rfl rfl) (rd_not hf rfl rfl) hT rfl rfl ?_
                              clear hf; intro a hf
                              refine any_take (i := 28) hf rfl (by kernel_rfl) (by kernel_rfl) (by kernel_rfl) (fun _ _ _ h => h) (Wn.none rfl) (rd_pick_f hf rfl rfl rfl) hT rfl rfl ?_
                              clear hf; intro a hf
                              refine any_take (i := 29) hf rfl (by kernel_rfl) (by kernel_rfl) (by kernel_rfl) (fun _ _ _ h => h) (Wn.none rfl) (rd_move hf rfl rfl) hT rfl rfl ?_
                              clear hf; intro a hf
                              refine any_skip (i := 30) hf rfl (by kernel_rfl) (by kernel_rfl) (by kernel_rfl) (fun _ _ _ h => h) (Wn.some hf rfl rfl rfl rfl) hT rfl rfl ?_
                              clear hf; intro a hf
                              refine any_skip (i := 31) hf rfl (by kernel_rfl) (by kernel_rfl) (by kernel_rfl) (fun _ _ _ h => h) (Wn.some hf rfl rfl rfl rfl) hT rfl rfl ?_
                              clear hf; intro a hf
                              refine any_skip (i := 32) hf rfl (by kernel_rfl) (by kernel_rfl) (by kernel_rfl) (fun _ _ _ h => h) (Wn.some hf rfl rfl rfl rfl) hT rfl rfl ?_
                              clear hf; intro a hf
                              refine any_skip (i := 33) hf rfl (by kernel_rfl) (by kernel_rfl) (by kernel_rfl) (fun _ _ _ h => h) (Wn.some hf rfl rfl rfl rfl) hT rfl rfl ?_
                              clear hf; intro a hf
                              refine any_take (i := 34) hf rfl (by kernel_rfl) (by kernel_rfl) (by kernel_rfl) (fun _ _ _ h => h) (Wn.none rfl) (rd_pick_t hf rfl rfl rfl) hT rfl rfl ?_
                              clear hf; intro a hf
                              refine any_done (by kernel_rfl) ?_
                              refine t_normal ?_
                              refine c_true hf rfl ?_
                              refine c_seq ?_
                              refine c_region ?_
                              refine step_l (st_rd hf (Wn.none rfl) (rd_assign hf rfl rfl) hS rfl rfl ?_)
                              clear hf; intro a hf
                              refine done_l ?_
                              refine t_normal ?_
                              refine c_ret ?_
                              refine t_ret ?_
                              refine e_res1 hf.defers rfl (res_tmp hf rfl .nil) ?_
                              refine ⟨?_, hS.sub (by repeat (first | exact Sub.refl | exact Sub.none | (apply Sub.cons; (focus ((repeat (first | exact Sel.head | apply Sel.tail)); done))) | apply Sub.skip))⟩
                              clear hf hS
                              rfl
                              )
                          )
                      )
                  )
              )
          · clear hf; intro hc6 hf
            first
            | (first | contradiction | exact absurd (jcomm _ _ _ _) hc6 | exact absurd (jidem _ _) hc6 | exact absurd (jassoc _ _ _ _ _ _) hc6 | exact absurd (leq_l _ _ _ _) hc6 | exact absurd (leq_r _ _ _ _) hc6 | exact False.elim ((leq_total s i t j).elim (by assumption) (by assumption)) | exact absurd (leq_lub (by assumption) (by assumption)) hc6 | exact absurd (may_join (by assumption) (by assumption)) hc6; done)
            | (
              refine step_l (st_rd hf (Wn.some hf rfl rfl rfl rfl) (rd_not hf rfl rfl) hS rfl rfl ?_)
              clear hf; intro a hf
              refine step_l (st_rd hf (Wn.none rfl) (rd_pick_f hf rfl rfl rfl) hS rfl rfl ?_)
              clear hf; intro a hf
              refine done_l ?_
              refine t_normal ?_
              refine c_true hf rfl ?_
              refine c_seq ?_
              refine c_region ?_
              refine step_l (st_call hf (Wn.none rfl) rfl rfl rfl fn15 (awake_c hS) rfl rfl ?_)
              clear hf hS; rintro v a w ⟨rfl, hS⟩ hf
              refine step_l (st_rd hf (Wn.none rfl) (rd_assign hf rfl rfl) hS rfl rfl ?_)
              clear hf; intro a hf
              refine done_l ?_
              refine t_normal ?_
              refine c_ret ?_
              refine t_ret ?_
              refine e_res1 hf.defers rfl (res_tmp hf rfl .nil) ?_
              refine ⟨?_, hS.sub (by repeat (first | exact Sub.refl | exact Sub.none | (apply Sub.cons; (focus ((repeat (first | exact Sel.head | apply Sel.tail)); done))) | apply Sub.skip))⟩
              clear hf hS
              rfl
              )
          )
      · clear hf; intro hc5 hf
        first
        | (first | contradiction | exact absurd (jcomm _ _ _ _) hc5 | exact absurd (jidem _ _) hc5 | exact absurd (jassoc _ _ _ _ _ _) hc5 | exact absurd (leq_l _ _ _ _) hc5 | exact absurd (leq_r _ _ _ _) hc5 | exact False.elim ((leq_total s i t j).elim (by assumption) (by assumption)) | exact absurd (leq_lub (by assumption) (by assumption)) hc5 | exact absurd (may_join (by assumption) (by assumption)) hc5; done)
        | (
          refine step_l (st_rd hf (Wn.some hf rfl rfl rfl rfl) (rd_not hf rfl rfl) hS rfl rfl ?_)
          clear hf; intro a hf
          refine step_l (st_rd hf (Wn.none rfl) (rd_pick_f hf rfl rfl rfl) hS rfl rfl ?_)
          clear hf; intro a hf
          refine step_l (st_rd hf (Wn.none rfl) (rd_move hf rfl rfl) hS rfl rfl ?_)
          clear hf; intro a hf
          refine step_l (st_skip hf (Wn.some hf rfl rfl rfl rfl) rfl rfl ?_)
          clear hf; intro a hf
          refine step_l (st_skip hf (Wn.some hf rfl rfl rfl rfl) rfl rfl ?_)
          clear hf; intro a hf
          refine step_l (st_skip hf (Wn.some hf rfl rfl rfl rfl) rfl rfl ?_)
          clear hf; intro a hf
          refine step_l (st_rd hf (Wn.none rfl) (rd_pick_t hf rfl rfl rfl) hS rfl rfl ?_)
          clear hf; intro a hf
          refine done_l ?_
          refine t_normal ?_
          refine c_true hf rfl ?_
          refine c_seq ?_
          refine c_region ?_
          refine step_l (st_call hf (Wn.none rfl) rfl rfl rfl fn15 (awake_c hS) rfl rfl ?_)
          clear hf hS; rintro v a w ⟨rfl, hS⟩ hf
          refine step_l (st_rd hf (Wn.none rfl) (rd_assign hf rfl rfl) hS rfl rfl ?_)
          clear hf; intro a hf
          refine done_l ?_
          refine t_normal ?_
          refine c_ret ?_
          refine t_ret ?_
          refine e_res1 hf.defers rfl (res_tmp hf rfl .nil) ?_
          refine ⟨?_, hS.sub (by repeat (first | exact Sub.refl | exact Sub.none | (apply Sub.cons; (focus ((repeat (first | exact Sel.head | apply Sel.tail)); done))) | apply Sub.skip))⟩
          clear hf hS
          rfl
          )
      )
  · clear hf; intro hc4 hf
    first
    | (first | contradiction | exact absurd (jcomm _ _ _ _) hc4 | exact absurd (jidem _ _) hc4 | exact absurd (jassoc _ _ _ _ _ _) hc4 | exact absurd (leq_l _ _ _ _) hc4 | exact absurd (leq_r _ _ _ _) hc4 | exact False.elim ((leq_total s i t j).elim (by assumption) (by assumption)) | exact absurd (leq_lub (by assumption) (by assumption)) hc4 | exact absurd (may_join (by assumption) (by assumption)) hc4; done)
    | (
      refine step_l (st_rd hf (Wn.none rfl) (rd_not hf rfl rfl) hS rfl rfl ?_)
      clear hf; intro a hf
      refine step_l (st_rd hf (Wn.none rfl) (rd_move hf rfl rfl) hS rfl rfl ?_)
      clear hf; intro a hf
      refine step_l (st_skip hf (Wn.some hf rfl rfl rfl rfl) rfl rfl ?_)
      clear hf; intro a hf
      refine step_l (st_skip hf (Wn.some hf rfl rfl rfl rfl) rfl rfl ?_)
      clear hf; intro a hf
      refine step_l (st_skip hf (Wn.some hf rfl rfl rfl rfl) rfl rfl ?_)
      clear hf; intro a hf
      refine step_l (st_rd hf (Wn.none rfl) (rd_pick_t hf rfl rfl rfl) hS rfl rfl ?_)
      clear hf; intro a hf
      refine step_l (st_rd hf (Wn.none rfl) (rd_move hf rfl rfl) hS rfl rfl ?_)
      clear hf; intro a hf
      refine step_l (st_skip hf (Wn.some hf rfl rfl rfl rfl) rfl rfl ?_)
      clear hf; intro a hf
      refine step_l (st_skip hf (Wn.some hf rfl rfl rfl rfl) rfl rfl ?_)
      clear hf; intro a hf
      refine step_l (st_skip hf (Wn.some hf rfl rfl rfl rfl) rfl rfl ?_)
      clear hf; intro a hf
      refine step_l (st_rd hf (Wn.none rfl) (rd_pick_t hf rfl rfl rfl) hS rfl rfl ?_)
      clear hf; intro a hf
      refine done_l ?_
      refine t_normal ?_
      refine c_true hf rfl ?_
      refine c_seq ?_
      refine c_region ?_
      refine step_l (st_call hf (Wn.none rfl) rfl rfl rfl fn15 (awake_c hS) rfl rfl ?_)
      clear hf hS; rintro v a w ⟨rfl, hS⟩ hf
      refine step_l (st_rd hf (Wn.none rfl) (rd_assign hf rfl rfl) hS rfl rfl ?_)
      clear hf; intro a hf
      refine done_l ?_
      refine t_normal ?_
      refine c_ret ?_
      refine t_ret ?_
      refine e_res1 hf.defers rfl (res_tmp hf rfl .nil) ?_
      refine ⟨?_, hS.sub (by repeat (first | exact Sub.refl | exact Sub.none | (apply Sub.cons; (focus ((repeat (first | exact Sel.head | apply Sel.tail)); done))) | apply Sub.skip))⟩
      clear hf hS
      rfl
      )

end Go.Proofs.Ytgmbhbnhfmfidaa
