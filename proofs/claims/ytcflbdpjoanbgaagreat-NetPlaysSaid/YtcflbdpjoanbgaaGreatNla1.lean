/-
  Walked: Nla.
  Conditions: none.
-/
import Derived.Test.YtcflbdpjoanbgaaGreatNet1
namespace Go.Proofs.YtcflbdpjoanbgaaGreat
open Go Go.Sl
set_option linter.unusedVariables false
set_option linter.unusedSimpArgs false

theorem NNLen_c  {W : World} {R : List HP} {w : World} (hS : Sat W (R) w)  : Calls Tryz.prog 15 [.pointer none].toArray w (Ret fun v w' => v = .int .i64 0 ∧ Sat W R w') := by
 refine fn_start 10 Tryz.func15 rfl rfl rfl ?_
 intro a hf
 refine c_seq (c_region ?_)
 refine aN hf hS ?_; clear hf; intro a hf
 refine done_l (t_normal (c_seq (c_seq (c_region ?_))))
 refine mN hf hS ?_; clear hf; intro a hf
 refine step_l (st_rdb hf (Wn.none rfl) (rd_eqlNilP hf rfl rfl rfl Tryz.underlying23) hS rfl rfl ?_ ?_)
 ·
  clear hf; intro hc1 a hf
  refine done_l (t_normal ?_)
  refine c_true hf rfl ?_
  refine c_seq (c_region ?_)
  refine aN hf hS ?_; clear hf; intro a hf
  refine done_l (t_normal (c_ret (t_ret ?_)))
  refine eT hf ?_
  exact ⟨rfl, hS.subA⟩
 clear hf; intro hc1 a hf
 exact Bool.noConfusion hc1

theorem NNLost_c  {W : World} {R : List HP} {w : World} (hS : Sat W (R) w)  : Calls Tryz.prog 16 [.pointer none].toArray w (Ret fun v w' => v = .int .i64 0 ∧ Sat W R w') := by
 refine fn_start 9 Tryz.func16 rfl rfl rfl ?_
 intro a hf
 refine c_seq (c_region ?_)
 refine aN hf hS ?_; clear hf; intro a hf
 refine done_l (t_normal (c_seq (c_seq (c_region ?_))))
 refine mN hf hS ?_; clear hf; intro a hf
 refine step_l (st_rdb hf (Wn.none rfl) (rd_eqlNilP hf rfl rfl rfl Tryz.underlying23) hS rfl rfl ?_ ?_)
 ·
  clear hf; intro hc1 a hf
  refine done_l (t_normal ?_)
  refine c_true hf rfl ?_
  refine c_seq (c_region ?_)
  refine aN hf hS ?_; clear hf; intro a hf
  refine done_l (t_normal (c_ret (t_ret ?_)))
  refine eT hf ?_
  exact ⟨rfl, hS.subA⟩
 clear hf; intro hc1 a hf
 exact Bool.noConfusion hc1

theorem NNAll_c  {W : World} {R : List HP} {w : World} (hS : Sat W (R) w)  : Calls Tryz.prog 14 [.pointer none].toArray w (Ret fun v w' => v = .slice none 0 0 ∧ Sat W R w') := by
 refine fn_start 14 Tryz.func14 rfl rfl rfl ?_
 intro a hf
 refine c_seq (c_region ?_)
 refine aN hf hS ?_; clear hf; intro a hf
 refine done_l (t_normal (c_seq (c_seq (c_region ?_))))
 refine mN hf hS ?_; clear hf; intro a hf
 refine step_l (st_rdb hf (Wn.none rfl) (rd_eqlNilP hf rfl rfl rfl Tryz.underlying23) hS rfl rfl ?_ ?_)
 ·
  clear hf; intro hc1 a hf
  refine done_l (t_normal ?_)
  refine c_true hf rfl ?_
  refine c_seq (c_region ?_)
  refine aN hf hS ?_; clear hf; intro a hf
  refine done_l (t_normal (c_ret (t_ret ?_)))
  refine eT hf ?_
  exact ⟨rfl, hS.subA⟩
 clear hf; intro hc1 a hf
 exact Bool.noConfusion hc1

theorem NNAt_c (i : Int) {W : World} {R : List HP} {w : World} (hS : Sat W (R) w)  : Calls Tryz.prog 9 [.pointer none, .int .i64 i].toArray w (Ret fun v w' => v = .tuple #[.agg #[.int .i64 0, .int .i64 0, .int .i64 0, .int .i64 0, .int .i64 0, .string ⟨#[]⟩, .int .i64 0, .slice none 0 0, .slice none 0 0, .slice none 0 0], .bool false] ∧ Sat W R w') := by
 refine fn_start 23 Tryz.func9 rfl rfl rfl ?_
 intro a hf
 refine c_seq (c_region ?_)
 refine sA hf hS zr32 ?_
 clear hf hS; intro b_r a w hf hS
 refine aN hf hS ?_; clear hf; intro a hf
 refine done_l (t_normal (c_seq (c_seq (c_region ?_))))
 refine mN hf hS ?_; clear hf; intro a hf
 refine sB hf hS (rd_lss hf rfl rfl rfl) ?_ ?_
 ·
  clear hf; intro hc2 a hf
  iterate 6 ((first | refine kS hf ?_ | refine mN hf hS ?_ | refine pT hf hS ?_); clear hf; intro a hf)
  refine done_l (t_normal ?_)
  refine c_true hf rfl ?_
  refine c_seq (c_region ?_)
  refine sR hf hS (rd_build hf rfl rfl zr32 (by rfl) pl32 .nil) ?_; clear hf; intro a hf
  refine sS hf hS sz32 ?_
  clear hf hS; intro a w hf hS
  refine aN hf hS ?_; clear hf; intro a hf
  refine done_l (t_normal (c_ret (t_ret ?_)))
  refine eC hf hS ag32 sz32 ?_
  exact ⟨rfl, hS.subA⟩
 clear hf; intro hc2 a hf
 iterate 3 ((first | refine mN hf hS ?_ | refine step_l (st_rd hf (Wn.some hf rfl rfl rfl rfl) (rd_move hf rfl rfl) hS rfl rfl ?_)); clear hf; intro a hf)
 refine step_l (st_call hf (Wn.some hf rfl rfl rfl rfl) rfl rfl rfl fn15 (NNLen_c hS) rfl rfl ?_)
 clear hf hS; rintro v a w ⟨rfl, hS⟩ hf
 refine step_l (st_rdB hf (Wn.some hf rfl rfl rfl rfl) (rd_geq hf rfl rfl rfl) hS rfl rfl ?_ ?_)
 ·
  clear hf; intro hc3 a hf
  refine pF hf hS ?_; clear hf; intro a hf
  refine done_l (t_normal ?_)
  refine c_true hf rfl ?_
  refine c_seq (c_region ?_)
  refine sR hf hS (rd_build hf rfl rfl zr32 (by rfl) pl32 .nil) ?_; clear hf; intro a hf
  refine sS hf hS sz32 ?_
  clear hf hS; intro a w hf hS
  refine aN hf hS ?_; clear hf; intro a hf
  refine done_l (t_normal (c_ret (t_ret ?_)))
  refine eC hf hS ag32 sz32 ?_
  exact ⟨rfl, hS.subA⟩
 clear hf; intro hc3 a hf
 omega

theorem NNTake_c (i : Int) {W : World} {R : List HP} {w : World} (hS : Sat W (R) w)  : Calls Tryz.prog 10 [.pointer none, .int .i64 i].toArray w (Ret fun v w' => v = .tuple #[.agg #[.int .i64 0, .int .i64 0, .int .i64 0, .int .i64 0, .int .i64 0, .string ⟨#[]⟩, .int .i64 0, .slice none 0 0, .slice none 0 0, .slice none 0 0], .bool false] ∧ Sat W R w') := by
 refine fn_start 35 Tryz.func10 rfl rfl rfl ?_
 intro a hf
 refine c_seq (c_region ?_)
 refine sA hf hS zr32 ?_
 clear hf hS; intro b_r a w hf hS
 refine aN hf hS ?_; clear hf; intro a hf
 refine done_l (t_normal (c_seq (c_region ?_)))
 iterate 2 (refine mN hf hS ?_; clear hf; intro a hf)
 refine step_l (st_call hf (Wn.none rfl) rfl rfl rfl fn9 (NNAt_c _ hS) rfl rfl ?_)
 clear hf hS; rintro v a w ⟨rfl, hS⟩ hf
 refine mN hf hS ?_; clear hf; intro a hf
 refine sR hf hS (rd_extract hf rfl rfl rfl) ?_; clear hf; intro a hf
 refine step_l (st_rdb hf (Wn.none rfl) (rd_extract hf rfl rfl rfl) hS rfl rfl ?_ ?_)
 ·
  clear hf; intro hc2 a hf
  exact Bool.noConfusion hc2
 clear hf; intro hc2 a hf
 refine sA hf hS zr32 ?_
 clear hf hS; intro b_m a w hf hS
 refine sS hf hS sz32 ?_
 clear hf hS; intro a w hf hS
 refine aN hf hS ?_; clear hf; intro a hf
 refine done_l (t_normal (c_seq (c_seq (c_region ?_))))
 refine mN hf hS ?_; clear hf; intro a hf
 refine done_l (t_normal ?_)
 refine c_false hf rfl ?_
 refine c_skip (t_normal (c_seq (c_region ?_)))
 refine sR hf hS (rd_ldN hf ag32 sz32) ?_; clear hf; intro a hf
 refine mN hf hS ?_; clear hf; intro a hf
 refine sS hf hS sz32 ?_
 clear hf hS; intro a w hf hS
 refine aN hf hS ?_; clear hf; intro a hf
 refine done_l (t_normal (c_ret ?_))
 refine eC hf hS ag32 sz32 ?_
 exact ⟨rfl, hS.subA⟩

theorem NNCopy_c (i : Int) {W : World} {R : List HP} {w : World} (hS : Sat W (R) w)  : Calls Tryz.prog 12 [.pointer none, .int .i64 i].toArray w (Ret fun v w' => v = .bool false ∧ Sat W R w') := by
 refine fn_start 33 Tryz.func12 rfl rfl rfl ?_
 intro a hf
 refine c_seq (c_region ?_)
 refine aN hf hS ?_; clear hf; intro a hf
 refine done_l (t_normal (c_seq (c_region ?_)))
 iterate 2 (refine mN hf hS ?_; clear hf; intro a hf)
 refine step_l (st_call hf (Wn.none rfl) rfl rfl rfl fn9 (NNAt_c _ hS) rfl rfl ?_)
 clear hf hS; rintro v a w ⟨rfl, hS⟩ hf
 refine mN hf hS ?_; clear hf; intro a hf
 refine sR hf hS (rd_extract hf rfl rfl rfl) ?_; clear hf; intro a hf
 refine step_l (st_rdb hf (Wn.none rfl) (rd_extract hf rfl rfl rfl) hS rfl rfl ?_ ?_)
 ·
  clear hf; intro hc1 a hf
  exact Bool.noConfusion hc1
 clear hf; intro hc1 a hf
 refine sA hf hS zr32 ?_
 clear hf hS; intro b_m a w hf hS
 refine sS hf hS sz32 ?_
 clear hf hS; intro a w hf hS
 refine aN hf hS ?_; clear hf; intro a hf
 refine done_l (t_normal (c_seq (c_seq (c_region ?_))))
 refine mN hf hS ?_; clear hf; intro a hf
 refine nT hf hS ?_; clear hf; intro a hf
 iterate 8 ((first | refine kS hf ?_ | refine mN hf hS ?_ | refine pT hf hS ?_); clear hf; intro a hf)
 refine done_l (t_normal ?_)
 refine c_true hf rfl ?_
 refine c_seq (c_region ?_)
 refine aN hf hS ?_; clear hf; intro a hf
 refine done_l (t_normal (c_ret (t_ret ?_)))
 refine eT hf ?_
 exact ⟨rfl, hS.subA⟩

theorem NNSend_c (ql : Option Addr) (nl cl : Nat) {W : World} {R : List HP} {w : World} (hS : Sat W (R) w)  : Calls Tryz.prog 8 [.pointer none, .slice ql nl cl].toArray w (Ret fun v w' => v = .int .i64 0 ∧ Sat W R w') := by
 refine fn_start 61 Tryz.func8 rfl rfl rfl ?_
 intro a hf
 refine c_seq (c_region ?_)
 refine aN hf hS ?_; clear hf; intro a hf
 refine done_l (t_normal (c_seq (c_seq (c_region ?_))))
 refine mN hf hS ?_; clear hf; intro a hf
 refine step_l (st_rdb hf (Wn.none rfl) (rd_eqlNilP hf rfl rfl rfl Tryz.underlying23) hS rfl rfl ?_ ?_)
 ·
  clear hf; intro hc1 a hf
  refine done_l (t_normal ?_)
  refine c_true hf rfl ?_
  refine c_seq (c_region ?_)
  refine aN hf hS ?_; clear hf; intro a hf
  refine done_l (t_normal (c_ret (t_ret ?_)))
  refine eT hf ?_
  exact ⟨rfl, hS.subA⟩
 clear hf; intro hc1 a hf
 exact Bool.noConfusion hc1

theorem msg_c (n : Int) {W : World} {R : List HP} {w : World} (hS : Sat W (R) w)  : Calls Tryz.prog 30 [.int .i64 n].toArray w (Ret fun v w' => v = .agg #[.int .i64 4, .int .i64 0, .int .i64 1, .int .i64 n, .int .i64 0, .string (str [107]), .int .i64 0, .slice none 0 0, .slice none 0 0, .slice none 0 0] ∧ Sat W R w') := by
 refine fn_start 5 Tryz.func30 rfl rfl rfl ?_
 intro a hf
 refine c_seq (c_region ?_)
 refine sA hf hS zr32 ?_
 clear hf hS; intro b_r a w hf hS
 refine done_l (t_normal (c_seq (c_region ?_)))
 refine mN hf hS ?_; clear hf; intro a hf
 refine sR hf hS (rd_build hf rfl rfl zr32 (by rfl) pl32 (.cons rfl (by first | rfl) (by rfl) (by repeat (first | exact Put.nil | apply Put.cons | apply Put.succ)) (.cons rfl (by first | rfl) (by rfl) (by repeat (first | exact Put.nil | apply Put.cons | apply Put.succ)) (.cons rfl (by first | rfl) (by rfl) (by repeat (first | exact Put.nil | apply Put.cons | apply Put.succ)) (.cons rfl (by first | rfl) (by rfl) (by repeat (first | exact Put.nil | apply Put.cons | apply Put.succ)) (.cons rfl (by first | rfl) (by rfl) (by repeat (first | exact Put.nil | apply Put.cons | apply Put.succ)) .nil)))))) ?_; clear hf; intro a hf
 refine sS hf hS sz32 ?_
 clear hf hS; intro a w hf hS
 refine done_l (t_normal (c_ret ?_))
 refine e_res1 hf.defers rfl (res_cellN hf rfl ag32 sz32 hS (by repeat (first | exact Sel.head | apply Sel.tail)) (by repeat (first | exact Seg.nil | apply Seg.cons | apply Seg.succ)) .nil) ?_
 exact ⟨rfl, hS.subA⟩

theorem awake_c  {W : World} {R : List HP} {w : World} (hS : Sat W (R) w)  : Calls Tryz.prog 17 [].toArray w (Ret fun v w' => v = .bool true ∧ Sat W R w') := by
 refine fn_start 18 Tryz.func17 rfl rfl rfl ?_
 intro a hf
 refine c_seq (c_region ?_)
 refine aN hf hS ?_; clear hf; intro a hf
 refine done_l (t_normal (c_seq (c_region ?_)))
 refine step_l (st_call hf (Wn.none rfl) rfl rfl rfl fn4 (NNew_c hS) rfl rfl ?_)
 clear hf hS; rintro v a w ⟨p, rfl, hS⟩ hf
 refine aN hf hS ?_; clear hf; intro a hf
 refine done_l (t_normal (c_seq (c_region ?_)))
 refine mN hf hS ?_; clear hf; intro a hf
 refine step_l (st_call hf (Wn.none rfl) rfl rfl rfl fn30 (msg_c _ hS) rfl rfl ?_)
 clear hf hS; rintro v a w ⟨rfl, hS⟩ hf
 refine step_l (st_call hf (Wn.none rfl) rfl rfl rfl fn30 (msg_c _ hS) rfl rfl ?_)
 clear hf hS; rintro v a w ⟨rfl, hS⟩ hf
 refine step_l (st_buildSlice hf (Wn.none rfl) hS rfl rfl Tryz.underlying25 sz32 zr32 (by decide) bz32_2 rfl (.cons rfl (by first | rfl) (by rfl) (by repeat (first | exact Put.nil | apply Put.cons | apply Put.succ)) (.cons rfl (by first | rfl) (by rfl) (by repeat (first | exact Put.nil | apply Put.cons | apply Put.succ)) .nil)) rfl rfl ?_)
 clear hf hS; intro b_1 a w hf hS
 refine step_l (st_call hf (Wn.none rfl) rfl rfl rfl fn8 (NSend_c _ _ _ ([1, 2].map msgX) _ _ (hS.selA) (fun _ h => msgsX (l := [1, 2]) (h.slOfBlk (by repeat (first | exact Sel.head | apply Sel.tail)) (by rfl))) ⟨by omega, by decide⟩) rfl rfl ?_)
 clear hf hS; rintro v a w ⟨rfl, hS⟩ hf; rw [show sendS (([1, 2].map msgX).map pMsg) ([], 0, 0) = ([mX1 1, mX1 2], 0, 2) from aw_send] at hf hS; dsimp only at hf hS
 refine sB hf hS (rd_eql hf rfl rfl rfl) ?_ ?_
 ·
  clear hf; intro hc2 a hf
  first
  | (first | exact Bool.noConfusion hc2 | exact absurd rfl hc2; done)
  | (
   iterate 2 ((first | refine mN hf hS ?_ | refine step_l (st_rd hf (Wn.some hf rfl rfl rfl rfl) (rd_move hf rfl rfl) hS rfl rfl ?_)); clear hf; intro a hf)
   refine step_l (st_call hf (Wn.some hf rfl rfl rfl rfl) rfl rfl rfl fn12 (NCopy_c _ _ _ _ (hS.selA)) rfl rfl ?_)
   clear hf hS; rintro v a w ⟨rfl, hS⟩ hf; rw [aw_copy.1] at hf; rw [aw_copy.2] at hS
   first | refine split_dec (d := 11) hf rfl ?_ ?_ | refine split_bool (d := 11) hf rfl ?_ ?_
   ·
    clear hf; intro hc3 hf
    first
    | (first | exact Bool.noConfusion hc3 | exact absurd rfl hc3; done)
    | (
     iterate 3 ((first | refine mN hf hS ?_ | refine step_l (st_rd hf (Wn.some hf rfl rfl rfl rfl) (rd_move hf rfl rfl) hS rfl rfl ?_) | refine pT hf hS ?_); clear hf; intro a hf)
     refine step_l (st_call hf (Wn.some hf rfl rfl rfl rfl) rfl rfl rfl fn15 (NLen_c _ _ _ (hS.selA)) rfl rfl ?_)
     clear hf hS; rintro v a w ⟨rfl, hS⟩ hf
     refine sG hf hS (rd_eql hf rfl rfl rfl) ?_; clear hf; intro a hf
     iterate 2 ((first | refine aN hf hS ?_ | refine pT hf hS ?_); clear hf; intro a hf)
     refine done_l (t_normal (c_ret ?_))
     refine eT hf ?_
     exact ⟨rfl, hS.subA⟩
     )
   clear hf; intro hc3 hf
   first
   | (first | exact Bool.noConfusion hc3 | exact absurd rfl hc3; done)
   | (
    iterate 7 ((first | refine kS hf ?_ | refine mN hf hS ?_ | refine aN hf hS ?_ | refine pT hf hS ?_ | refine pF hf hS ?_); clear hf; intro a hf)
    refine done_l (t_normal (c_ret ?_))
    refine eT hf ?_
    exact ⟨rfl, hS.subA⟩
    )
   )
 clear hf; intro hc2 a hf
 first
 | (first | exact Bool.noConfusion hc2 | exact absurd rfl hc2; done)
 | (
  iterate 10 ((first | refine kS hf ?_ | refine mN hf hS ?_ | refine aN hf hS ?_ | refine pF hf hS ?_); clear hf; intro a hf)
  refine done_l (t_normal (c_ret ?_))
  refine eT hf ?_
  exact ⟨rfl, hS.subA⟩
  )

end Go.Proofs.YtcflbdpjoanbgaaGreat
