/-
  The statement NetNil, walked.
  Conditions: none.
-/
import Derived.Test.YtcflbdpjoanbgaaNla1
namespace Go.Proofs.Ytcflbdpjoanbgaa
open Go Go.Sl
set_option linter.unusedVariables false
set_option linter.unusedSimpArgs false
theorem fn11 : fnB Try.prog 11 = true := by kernel_rfl
theorem fn12 : fnB Try.prog 12 = true := by kernel_rfl
theorem fn16 : fnB Try.prog 16 = true := by kernel_rfl
theorem fn19 : fnB Try.prog 19 = true := by kernel_rfl
theorem NetNil_c (i : Int) {W : World} {R : List HP} {w : World} (hS : Sat W (R) w)  : Calls Try.prog 6 [.int .i64 i].toArray w (Ret fun v w' => v = .bool true ∧ Sat W R w') := by
 refine fn_start 58 Try.func6 rfl rfl rfl ?_
 intro a hf
 refine c_seq (c_region ?_)
 refine aN hf hS ?_; clear hf; intro a hf
 refine done_l (t_normal (c_seq (c_region ?_)))
 refine aN hf hS ?_; clear hf; intro a hf
 refine done_l (t_normal (c_seq (c_region ?_)))
 iterate 2 (refine mN hf hS ?_; clear hf; intro a hf)
 refine step_l (st_call hf (Wn.none rfl) rfl rfl rfl fn18 (NNAt_c _ hS) rfl rfl ?_)
 clear hf hS; rintro v a w ⟨rfl, hS⟩ hf
 refine mN hf hS ?_; clear hf; intro a hf
 refine sR hf hS (rd_extract hf rfl rfl rfl) ?_; clear hf; intro a hf
 refine step_l (st_rdb hf (Wn.none rfl) (rd_extract hf rfl rfl rfl) hS rfl rfl ?_ ?_)
 ·
  clear hf; intro hc1 a hf
  first
  | (first | exact Bool.noConfusion hc1 | exact absurd rfl hc1; done)
  | (
   refine sA hf hS zr30 ?_
   clear hf hS; intro b_x a w hf hS
   refine sS hf hS sz30 ?_
   clear hf hS; intro a w hf hS
   refine aN hf hS ?_; clear hf; intro a hf
   refine done_l (t_normal (c_seq (c_region ?_)))
   iterate 2 (refine mN hf hS ?_; clear hf; intro a hf)
   refine step_l (st_call hf (Wn.none rfl) rfl rfl rfl fn19 (NNTake_c _ hS) rfl rfl ?_)
   clear hf hS; rintro v a w ⟨rfl, hS⟩ hf
   refine mN hf hS ?_; clear hf; intro a hf
   refine sR hf hS (rd_extract hf rfl rfl rfl) ?_; clear hf; intro a hf
   refine step_l (st_rdb hf (Wn.none rfl) (rd_extract hf rfl rfl rfl) hS rfl rfl ?_ ?_)
   ·
    clear hf; intro hc3 a hf
    first
    | (first | exact Bool.noConfusion hc3 | exact absurd rfl hc3; done)
    | (
     refine sA hf hS zr30 ?_
     clear hf hS; intro b_y a w hf hS
     refine sS hf hS sz30 ?_
     clear hf hS; intro a w hf hS
     refine aN hf hS ?_; clear hf; intro a hf
     refine done_l (t_normal (c_seq (c_region ?_)))
     refine mN hf hS ?_; clear hf; intro a hf
     refine step_l (st_call hf (Wn.none rfl) rfl rfl rfl fn8 (msg_c _ hS) rfl rfl ?_)
     clear hf hS; rintro v a w ⟨rfl, hS⟩ hf
     refine step_l (st_buildSlice hf (Wn.none rfl) hS rfl rfl Try.underlying25 sz30 zr30 (by decide) bz30_1 rfl (.cons rfl (by first | rfl) (by rfl) (by repeat (first | exact Put.nil | apply Put.cons | apply Put.succ)) .nil) rfl rfl ?_)
     clear hf hS; intro b_5 a w hf hS
     refine step_l (st_call hf (Wn.none rfl) rfl rfl rfl fn9 (NNSend_c _ _ _ hS) rfl rfl ?_)
     clear hf hS; rintro v a w ⟨rfl, hS⟩ hf
     refine sB hf hS (rd_eql hf rfl rfl rfl) ?_ ?_
     ·
      clear hf; intro hc6 a hf
      first
      | (first | exact Bool.noConfusion hc6 | exact absurd rfl hc6; done)
      | (
       iterate 2 ((first | refine mN hf hS ?_ | refine step_l (st_rd hf (Wn.some hf rfl rfl rfl rfl) (rd_move hf rfl rfl) hS rfl rfl ?_)); clear hf; intro a hf)
       refine step_l (st_call hf (Wn.some hf rfl rfl rfl rfl) rfl rfl rfl fn17 (NNLen_c hS) rfl rfl ?_)
       clear hf hS; rintro v a w ⟨rfl, hS⟩ hf
       refine step_l (st_rdB hf (Wn.some hf rfl rfl rfl rfl) (rd_eql hf rfl rfl rfl) hS rfl rfl ?_ ?_)
       ·
        clear hf; intro hc7 a hf
        first
        | (first | exact Bool.noConfusion hc7 | exact absurd rfl hc7; done)
        | (
         iterate 3 ((first | refine mN hf hS ?_ | refine step_l (st_rd hf (Wn.some hf rfl rfl rfl rfl) (rd_move hf rfl rfl) hS rfl rfl ?_) | refine pT hf hS ?_); clear hf; intro a hf)
         refine sG hf hS (rd_not hf rfl rfl) ?_; clear hf; intro a hf
         iterate 26 ((first | refine kS hf ?_ | refine mN hf hS ?_ | refine aN hf hS ?_ | refine pT hf hS ?_ | refine pF hf hS ?_); clear hf; intro a hf)
         refine done_l (t_normal (c_ret ?_))
         refine eT hf ?_
         exact ⟨rfl, hS.subA⟩
         )
       clear hf; intro hc7 a hf
       first
       | (first | exact Bool.noConfusion hc7 | exact absurd rfl hc7; done)
       | (
        iterate 30 ((first | refine kS hf ?_ | refine mN hf hS ?_ | refine aN hf hS ?_ | refine pT hf hS ?_ | refine pF hf hS ?_); clear hf; intro a hf)
        refine done_l (t_normal (c_ret ?_))
        refine eT hf ?_
        exact ⟨rfl, hS.subA⟩
        )
       )
     clear hf; intro hc6 a hf
     first
     | (first | exact Bool.noConfusion hc6 | exact absurd rfl hc6; done)
     | (
      iterate 34 ((first | refine kS hf ?_ | refine mN hf hS ?_ | refine aN hf hS ?_ | refine pF hf hS ?_); clear hf; intro a hf)
      refine done_l (t_normal (c_ret ?_))
      refine eT hf ?_
      exact ⟨rfl, hS.subA⟩
      )
     )
   clear hf; intro hc3 a hf
   first
   | (first | exact Bool.noConfusion hc3 | exact absurd rfl hc3; done)
   | (
    refine sA hf hS zr30 ?_
    clear hf hS; intro b_y a w hf hS
    refine sS hf hS sz30 ?_
    clear hf hS; intro a w hf hS
    refine aN hf hS ?_; clear hf; intro a hf
    refine done_l (t_normal (c_seq (c_region ?_)))
    refine mN hf hS ?_; clear hf; intro a hf
    refine step_l (st_call hf (Wn.none rfl) rfl rfl rfl fn8 (msg_c _ hS) rfl rfl ?_)
    clear hf hS; rintro v a w ⟨rfl, hS⟩ hf
    refine step_l (st_buildSlice hf (Wn.none rfl) hS rfl rfl Try.underlying25 sz30 zr30 (by decide) bz30_1 rfl (.cons rfl (by first | rfl) (by rfl) (by repeat (first | exact Put.nil | apply Put.cons | apply Put.succ)) .nil) rfl rfl ?_)
    clear hf hS; intro b_9 a w hf hS
    refine step_l (st_call hf (Wn.none rfl) rfl rfl rfl fn9 (NNSend_c _ _ _ hS) rfl rfl ?_)
    clear hf hS; rintro v a w ⟨rfl, hS⟩ hf
    refine sB hf hS (rd_eql hf rfl rfl rfl) ?_ ?_
    ·
     clear hf; intro hc10 a hf
     first
     | (first | exact Bool.noConfusion hc10 | exact absurd rfl hc10; done)
     | (
      iterate 2 ((first | refine mN hf hS ?_ | refine step_l (st_rd hf (Wn.some hf rfl rfl rfl rfl) (rd_move hf rfl rfl) hS rfl rfl ?_)); clear hf; intro a hf)
      refine step_l (st_call hf (Wn.some hf rfl rfl rfl rfl) rfl rfl rfl fn17 (NNLen_c hS) rfl rfl ?_)
      clear hf hS; rintro v a w ⟨rfl, hS⟩ hf
      refine step_l (st_rdB hf (Wn.some hf rfl rfl rfl rfl) (rd_eql hf rfl rfl rfl) hS rfl rfl ?_ ?_)
      ·
       clear hf; intro hc11 a hf
       first
       | (first | exact Bool.noConfusion hc11 | exact absurd rfl hc11; done)
       | (
        iterate 3 ((first | refine mN hf hS ?_ | refine step_l (st_rd hf (Wn.some hf rfl rfl rfl rfl) (rd_move hf rfl rfl) hS rfl rfl ?_) | refine pT hf hS ?_); clear hf; intro a hf)
        refine sG hf hS (rd_not hf rfl rfl) ?_; clear hf; intro a hf
        iterate 26 ((first | refine kS hf ?_ | refine mN hf hS ?_ | refine aN hf hS ?_ | refine pT hf hS ?_ | refine pF hf hS ?_); clear hf; intro a hf)
        refine done_l (t_normal (c_ret ?_))
        refine eT hf ?_
        exact ⟨rfl, hS.subA⟩
        )
      clear hf; intro hc11 a hf
      first
      | (first | exact Bool.noConfusion hc11 | exact absurd rfl hc11; done)
      | (
       iterate 30 ((first | refine kS hf ?_ | refine mN hf hS ?_ | refine aN hf hS ?_ | refine pT hf hS ?_ | refine pF hf hS ?_); clear hf; intro a hf)
       refine done_l (t_normal (c_ret ?_))
       refine eT hf ?_
       exact ⟨rfl, hS.subA⟩
       )
      )
    clear hf; intro hc10 a hf
    first
    | (first | exact Bool.noConfusion hc10 | exact absurd rfl hc10; done)
    | (
     iterate 34 ((first | refine kS hf ?_ | refine mN hf hS ?_ | refine aN hf hS ?_ | refine pF hf hS ?_); clear hf; intro a hf)
     refine done_l (t_normal (c_ret ?_))
     refine eT hf ?_
     exact ⟨rfl, hS.subA⟩
     )
    )
   )
 clear hf; intro hc1 a hf
 first
 | (first | exact Bool.noConfusion hc1 | exact absurd rfl hc1; done)
 | (
  refine sA hf hS zr30 ?_
  clear hf hS; intro b_x a w hf hS
  refine sS hf hS sz30 ?_
  clear hf hS; intro a w hf hS
  refine aN hf hS ?_; clear hf; intro a hf
  refine done_l (t_normal (c_seq (c_region ?_)))
  iterate 2 (refine mN hf hS ?_; clear hf; intro a hf)
  refine step_l (st_call hf (Wn.none rfl) rfl rfl rfl fn19 (NNTake_c _ hS) rfl rfl ?_)
  clear hf hS; rintro v a w ⟨rfl, hS⟩ hf
  refine mN hf hS ?_; clear hf; intro a hf
  refine sR hf hS (rd_extract hf rfl rfl rfl) ?_; clear hf; intro a hf
  refine step_l (st_rdb hf (Wn.none rfl) (rd_extract hf rfl rfl rfl) hS rfl rfl ?_ ?_)
  ·
   clear hf; intro hc13 a hf
   first
   | (first | exact Bool.noConfusion hc13 | exact absurd rfl hc13; done)
   | (
    refine sA hf hS zr30 ?_
    clear hf hS; intro b_y a w hf hS
    refine sS hf hS sz30 ?_
    clear hf hS; intro a w hf hS
    refine aN hf hS ?_; clear hf; intro a hf
    refine done_l (t_normal (c_seq (c_region ?_)))
    refine mN hf hS ?_; clear hf; intro a hf
    refine step_l (st_call hf (Wn.none rfl) rfl rfl rfl fn8 (msg_c _ hS) rfl rfl ?_)
    clear hf hS; rintro v a w ⟨rfl, hS⟩ hf
    refine step_l (st_buildSlice hf (Wn.none rfl) hS rfl rfl Try.underlying25 sz30 zr30 (by decide) bz30_1 rfl (.cons rfl (by first | rfl) (by rfl) (by repeat (first | exact Put.nil | apply Put.cons | apply Put.succ)) .nil) rfl rfl ?_)
    clear hf hS; intro b_15 a w hf hS
    refine step_l (st_call hf (Wn.none rfl) rfl rfl rfl fn9 (NNSend_c _ _ _ hS) rfl rfl ?_)
    clear hf hS; rintro v a w ⟨rfl, hS⟩ hf
    refine sB hf hS (rd_eql hf rfl rfl rfl) ?_ ?_
    ·
     clear hf; intro hc16 a hf
     first
     | (first | exact Bool.noConfusion hc16 | exact absurd rfl hc16; done)
     | (
      iterate 2 ((first | refine mN hf hS ?_ | refine step_l (st_rd hf (Wn.some hf rfl rfl rfl rfl) (rd_move hf rfl rfl) hS rfl rfl ?_)); clear hf; intro a hf)
      refine step_l (st_call hf (Wn.some hf rfl rfl rfl rfl) rfl rfl rfl fn17 (NNLen_c hS) rfl rfl ?_)
      clear hf hS; rintro v a w ⟨rfl, hS⟩ hf
      refine step_l (st_rdB hf (Wn.some hf rfl rfl rfl rfl) (rd_eql hf rfl rfl rfl) hS rfl rfl ?_ ?_)
      ·
       clear hf; intro hc17 a hf
       first
       | (first | exact Bool.noConfusion hc17 | exact absurd rfl hc17; done)
       | (
        iterate 3 ((first | refine mN hf hS ?_ | refine step_l (st_rd hf (Wn.some hf rfl rfl rfl rfl) (rd_move hf rfl rfl) hS rfl rfl ?_) | refine pT hf hS ?_); clear hf; intro a hf)
        refine sG hf hS (rd_not hf rfl rfl) ?_; clear hf; intro a hf
        iterate 3 ((first | refine mN hf hS ?_ | refine step_l (st_rd hf (Wn.some hf rfl rfl rfl rfl) (rd_move hf rfl rfl) hS rfl rfl ?_) | refine pT hf hS ?_); clear hf; intro a hf)
        refine sG hf hS (rd_not hf rfl rfl) ?_; clear hf; intro a hf
        iterate 22 ((first | refine kS hf ?_ | refine mN hf hS ?_ | refine aN hf hS ?_ | refine pT hf hS ?_ | refine pF hf hS ?_); clear hf; intro a hf)
        refine done_l (t_normal (c_ret ?_))
        refine eT hf ?_
        exact ⟨rfl, hS.subA⟩
        )
      clear hf; intro hc17 a hf
      first
      | (first | exact Bool.noConfusion hc17 | exact absurd rfl hc17; done)
      | (
       iterate 30 ((first | refine kS hf ?_ | refine mN hf hS ?_ | refine aN hf hS ?_ | refine pT hf hS ?_ | refine pF hf hS ?_); clear hf; intro a hf)
       refine done_l (t_normal (c_ret ?_))
       refine eT hf ?_
       exact ⟨rfl, hS.subA⟩
       )
      )
    clear hf; intro hc16 a hf
    first
    | (first | exact Bool.noConfusion hc16 | exact absurd rfl hc16; done)
    | (
     iterate 34 ((first | refine kS hf ?_ | refine mN hf hS ?_ | refine aN hf hS ?_ | refine pF hf hS ?_); clear hf; intro a hf)
     refine done_l (t_normal (c_ret ?_))
     refine eT hf ?_
     exact ⟨rfl, hS.subA⟩
     )
    )
  clear hf; intro hc13 a hf
  first
  | (first | exact Bool.noConfusion hc13 | exact absurd rfl hc13; done)
  | (
   refine sA hf hS zr30 ?_
   clear hf hS; intro b_y a w hf hS
   refine sS hf hS sz30 ?_
   clear hf hS; intro a w hf hS
   refine aN hf hS ?_; clear hf; intro a hf
   refine done_l (t_normal (c_seq (c_region ?_)))
   refine mN hf hS ?_; clear hf; intro a hf
   refine step_l (st_call hf (Wn.none rfl) rfl rfl rfl fn8 (msg_c _ hS) rfl rfl ?_)
   clear hf hS; rintro v a w ⟨rfl, hS⟩ hf
   refine step_l (st_buildSlice hf (Wn.none rfl) hS rfl rfl Try.underlying25 sz30 zr30 (by decide) bz30_1 rfl (.cons rfl (by first | rfl) (by rfl) (by repeat (first | exact Put.nil | apply Put.cons | apply Put.succ)) .nil) rfl rfl ?_)
   clear hf hS; intro b_19 a w hf hS
   refine step_l (st_call hf (Wn.none rfl) rfl rfl rfl fn9 (NNSend_c _ _ _ hS) rfl rfl ?_)
   clear hf hS; rintro v a w ⟨rfl, hS⟩ hf
   refine sB hf hS (rd_eql hf rfl rfl rfl) ?_ ?_
   ·
    clear hf; intro hc20 a hf
    first
    | (first | exact Bool.noConfusion hc20 | exact absurd rfl hc20; done)
    | (
     iterate 2 ((first | refine mN hf hS ?_ | refine step_l (st_rd hf (Wn.some hf rfl rfl rfl rfl) (rd_move hf rfl rfl) hS rfl rfl ?_)); clear hf; intro a hf)
     refine step_l (st_call hf (Wn.some hf rfl rfl rfl rfl) rfl rfl rfl fn17 (NNLen_c hS) rfl rfl ?_)
     clear hf hS; rintro v a w ⟨rfl, hS⟩ hf
     refine step_l (st_rdB hf (Wn.some hf rfl rfl rfl rfl) (rd_eql hf rfl rfl rfl) hS rfl rfl ?_ ?_)
     ·
      clear hf; intro hc21 a hf
      first
      | (first | exact Bool.noConfusion hc21 | exact absurd rfl hc21; done)
      | (
       iterate 3 ((first | refine mN hf hS ?_ | refine step_l (st_rd hf (Wn.some hf rfl rfl rfl rfl) (rd_move hf rfl rfl) hS rfl rfl ?_) | refine pT hf hS ?_); clear hf; intro a hf)
       refine sG hf hS (rd_not hf rfl rfl) ?_; clear hf; intro a hf
       iterate 3 ((first | refine mN hf hS ?_ | refine step_l (st_rd hf (Wn.some hf rfl rfl rfl rfl) (rd_move hf rfl rfl) hS rfl rfl ?_) | refine pT hf hS ?_); clear hf; intro a hf)
       refine sG hf hS (rd_not hf rfl rfl) ?_; clear hf; intro a hf
       iterate 4 ((first | refine mN hf hS ?_ | refine step_l (st_rd hf (Wn.some hf rfl rfl rfl rfl) (rd_move hf rfl rfl) hS rfl rfl ?_) | refine pT hf hS ?_); clear hf; intro a hf)
       refine step_l (st_call hf (Wn.some hf rfl rfl rfl rfl) rfl rfl rfl fn10 (NNCopy_c _ hS) rfl rfl ?_)
       clear hf hS; rintro v a w ⟨rfl, hS⟩ hf
       first | refine split_dec (d := 41) hf rfl ?_ ?_ | refine split_bool (d := 41) hf rfl ?_ ?_
       ·
        clear hf; intro hc22 hf
        first
        | (first | exact Bool.noConfusion hc22 | exact absurd rfl hc22; done)
        | (
         refine sG hf hS (rd_not hf rfl rfl) ?_; clear hf; intro a hf
         iterate 16 ((first | refine kS hf ?_ | refine mN hf hS ?_ | refine aN hf hS ?_ | refine pT hf hS ?_ | refine pF hf hS ?_); clear hf; intro a hf)
         refine done_l (t_normal (c_ret ?_))
         refine eT hf ?_
         exact ⟨rfl, hS.subA⟩
         )
       clear hf; intro hc22 hf
       first
       | (first | exact Bool.noConfusion hc22 | exact absurd rfl hc22; done)
       | (
        refine sG hf hS (rd_not hf rfl rfl) ?_; clear hf; intro a hf
        iterate 3 ((first | refine mN hf hS ?_ | refine step_l (st_rd hf (Wn.some hf rfl rfl rfl rfl) (rd_move hf rfl rfl) hS rfl rfl ?_) | refine pT hf hS ?_); clear hf; intro a hf)
        refine step_l (st_call hf (Wn.some hf rfl rfl rfl rfl) rfl rfl rfl fn16 (NNAll_c hS) rfl rfl ?_)
        clear hf hS; rintro v a w ⟨rfl, hS⟩ hf
        refine sG hf hS (rd_len hf rfl rfl Try.underlying25) ?_; clear hf; intro a hf
        refine step_l (st_rdB hf (Wn.some hf rfl rfl rfl rfl) (rd_eql hf rfl rfl rfl) hS rfl rfl ?_ ?_)
        ·
         clear hf; intro hc23 a hf
         first
         | (first | exact Bool.noConfusion hc23 | exact absurd rfl hc23; done)
         | (
          iterate 3 ((first | refine mN hf hS ?_ | refine step_l (st_rd hf (Wn.some hf rfl rfl rfl rfl) (rd_move hf rfl rfl) hS rfl rfl ?_) | refine pT hf hS ?_); clear hf; intro a hf)
          refine step_l (st_call hf (Wn.some hf rfl rfl rfl rfl) rfl rfl rfl fn11 (NNLost_c hS) rfl rfl ?_)
          clear hf hS; rintro v a w ⟨rfl, hS⟩ hf
          refine step_l (st_rdB hf (Wn.some hf rfl rfl rfl rfl) (rd_eql hf rfl rfl rfl) hS rfl rfl ?_ ?_)
          ·
           clear hf; intro hc24 a hf
           first
           | (first | exact Bool.noConfusion hc24 | exact absurd rfl hc24; done)
           | (
            iterate 2 ((first | refine mN hf hS ?_ | refine pT hf hS ?_); clear hf; intro a hf)
            refine step_l (st_call hf (Wn.some hf rfl rfl rfl rfl) rfl rfl rfl fn12 (awake_c hS) rfl rfl ?_)
            clear hf hS; rintro v a w ⟨rfl, hS⟩ hf
            iterate 2 ((first | refine aN hf hS ?_ | refine pT hf hS ?_); clear hf; intro a hf)
            refine done_l (t_normal (c_ret ?_))
            refine eT hf ?_
            exact ⟨rfl, hS.subA⟩
            )
          clear hf; intro hc24 a hf
          first
          | (first | exact Bool.noConfusion hc24 | exact absurd rfl hc24; done)
          | (
           iterate 5 ((first | refine kS hf ?_ | refine mN hf hS ?_ | refine aN hf hS ?_ | refine pT hf hS ?_ | refine pF hf hS ?_); clear hf; intro a hf)
           refine done_l (t_normal (c_ret ?_))
           refine eT hf ?_
           exact ⟨rfl, hS.subA⟩
           )
          )
        clear hf; intro hc23 a hf
        first
        | (first | exact Bool.noConfusion hc23 | exact absurd rfl hc23; done)
        | (
         iterate 10 ((first | refine kS hf ?_ | refine mN hf hS ?_ | refine aN hf hS ?_ | refine pT hf hS ?_ | refine pF hf hS ?_); clear hf; intro a hf)
         refine done_l (t_normal (c_ret ?_))
         refine eT hf ?_
         exact ⟨rfl, hS.subA⟩
         )
        )
       )
     clear hf; intro hc21 a hf
     first
     | (first | exact Bool.noConfusion hc21 | exact absurd rfl hc21; done)
     | (
      iterate 30 ((first | refine kS hf ?_ | refine mN hf hS ?_ | refine aN hf hS ?_ | refine pT hf hS ?_ | refine pF hf hS ?_); clear hf; intro a hf)
      refine done_l (t_normal (c_ret ?_))
      refine eT hf ?_
      exact ⟨rfl, hS.subA⟩
      )
     )
   clear hf; intro hc20 a hf
   first
   | (first | exact Bool.noConfusion hc20 | exact absurd rfl hc20; done)
   | (
    iterate 34 ((first | refine kS hf ?_ | refine mN hf hS ?_ | refine aN hf hS ?_ | refine pF hf hS ?_); clear hf; intro a hf)
    refine done_l (t_normal (c_ret ?_))
    refine eT hf ?_
    exact ⟨rfl, hS.subA⟩
    )
   )
  )

end Go.Proofs.Ytcflbdpjoanbgaa
