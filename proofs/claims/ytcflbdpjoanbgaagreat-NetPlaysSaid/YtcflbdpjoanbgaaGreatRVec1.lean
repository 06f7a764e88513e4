/-
  Walked: Vec.
  Conditions: none.
-/
import Derived.Test.YtcflbdpjoanbgaaGreatFac1
namespace Go.Proofs.YtcflbdpjoanbgaaGreat
open Go Go.Sl
set_option linter.unusedVariables false
set_option linter.unusedSimpArgs false

theorem Node_c (n : Int) {W : World} {R : List HP} {w : World} (hS : Sat W (R) w)  : Calls Tryz.prog 31 [.int .i64 n].toArray w (Ret fun v w' => v = .bool (decide (0 ≤ n ∧ n ≤ 7)) ∧ Sat W R w') := by
 refine fn_start 9 Tryz.func31 rfl rfl rfl ?_
 intro a hf
 refine c_seq (c_region ?_)
 refine aN hf hS ?_; clear hf; intro a hf
 refine done_l (t_normal (c_seq (c_region ?_)))
 refine mN hf hS ?_; clear hf; intro a hf
 refine sB hf hS (rd_geq hf rfl rfl rfl) ?_ ?_
 ·
  clear hf; intro hc1 a hf
  iterate 2 ((first | refine mN hf hS ?_ | refine step_l (st_rd hf (Wn.some hf rfl rfl rfl rfl) (rd_move hf rfl rfl) hS rfl rfl ?_)); clear hf; intro a hf)
  refine sG hf hS (rd_lss hf rfl rfl rfl) ?_; clear hf; intro a hf
  iterate 2 ((first | refine aN hf hS ?_ | refine pT hf hS ?_); clear hf; intro a hf)
  refine done_l (t_normal (c_ret ?_))
  refine eT hf ?_
  refine ⟨congrArg Value.bool ?_, hS.subA⟩
  clear hf hS
  first | exact (decide_eq_false (by omega)).symm | exact decide_eq_decide.2 (by omega) | exact (decide_eq_true (by omega)).symm
 clear hf; intro hc1 a hf
 iterate 5 ((first | refine kS hf ?_ | refine mN hf hS ?_ | refine aN hf hS ?_ | refine pF hf hS ?_); clear hf; intro a hf)
 refine done_l (t_normal (c_ret ?_))
 refine eT hf ?_
 refine ⟨congrArg Value.bool ?_, hS.subA⟩
 clear hf hS
 first | exact (decide_eq_false (by omega)).symm | exact decide_eq_decide.2 (by omega) | exact (decide_eq_true (by omega)).symm

theorem Has_c (k : Int) {W : World} {R : List HP} {w : World} (hS : Sat W (R) w)  : Calls Tryz.prog 19 [.int .i64 k].toArray w (Ret fun v w' => v = .int .i64 (partsI k) ∧ Sat W R w') := by
 refine fn_start 21 Tryz.func19 rfl rfl rfl ?_
 intro a hf
 refine c_seq (c_region ?_)
 refine aN hf hS ?_; clear hf; intro a hf
 refine done_l (t_normal (c_seq (c_seq (c_region ?_))))
 refine mN hf hS ?_; clear hf; intro a hf
 refine done_l (t_normal (c_block (c_seq (c_region ?_))))
 refine sB hf hS (rd_eql hf rfl rfl rfl) ?_ ?_
 ·
  clear hf; intro hc1 a hf
  refine aN hf hS ?_; clear hf; intro a hf
  refine done_l (t_normal ?_)
  refine c_true hf rfl ?_
  refine c_seq (c_region ?_)
  refine aN hf hS ?_; clear hf; intro a hf
  refine done_l (t_normal (c_ret (b_ret (t_ret ?_))))
  refine eT hf ?_
  refine ⟨int_eq ?_, hS.subA⟩
  clear hf hS
  unfold partsI
  first | (subst_vars; rfl) | (rw [if_neg (by omega), if_neg (by omega), if_neg (by omega), if_neg (by omega), if_neg (by omega), if_neg (by omega), if_neg (by omega), if_pos (by omega)]) | (rw [if_neg (by omega), if_neg (by omega), if_neg (by omega), if_neg (by omega), if_neg (by omega), if_neg (by omega), if_neg (by omega), if_neg (by omega)])
 clear hf; intro hc1 a hf
 refine aN hf hS ?_; clear hf; intro a hf
 refine done_l (t_normal ?_)
 refine c_false hf rfl ?_
 refine c_seq (c_region ?_)
 refine sB hf hS (rd_eql hf rfl rfl rfl) ?_ ?_
 ·
  clear hf; intro hc2 a hf
  refine aN hf hS ?_; clear hf; intro a hf
  refine done_l (t_normal ?_)
  refine c_true hf rfl ?_
  refine c_seq (c_region ?_)
  refine aN hf hS ?_; clear hf; intro a hf
  refine done_l (t_normal (c_ret (b_ret (t_ret ?_))))
  refine eT hf ?_
  refine ⟨int_eq ?_, hS.subA⟩
  clear hf hS
  unfold partsI
  first | (subst_vars; rfl) | (rw [if_neg (by omega), if_neg (by omega), if_neg (by omega), if_neg (by omega), if_neg (by omega), if_neg (by omega), if_neg (by omega), if_pos (by omega)]) | (rw [if_neg (by omega), if_neg (by omega), if_neg (by omega), if_neg (by omega), if_neg (by omega), if_neg (by omega), if_neg (by omega), if_neg (by omega)])
 clear hf; intro hc2 a hf
 refine aN hf hS ?_; clear hf; intro a hf
 refine done_l (t_normal ?_)
 refine c_false hf rfl ?_
 refine c_seq (c_region ?_)
 refine sB hf hS (rd_eql hf rfl rfl rfl) ?_ ?_
 ·
  clear hf; intro hc3 a hf
  refine aN hf hS ?_; clear hf; intro a hf
  refine done_l (t_normal ?_)
  refine c_true hf rfl ?_
  refine c_seq (c_region ?_)
  refine aN hf hS ?_; clear hf; intro a hf
  refine done_l (t_normal (c_ret (b_ret (t_ret ?_))))
  refine eT hf ?_
  refine ⟨int_eq ?_, hS.subA⟩
  clear hf hS
  unfold partsI
  first | (subst_vars; rfl) | (rw [if_neg (by omega), if_neg (by omega), if_neg (by omega), if_neg (by omega), if_neg (by omega), if_neg (by omega), if_neg (by omega), if_pos (by omega)]) | (rw [if_neg (by omega), if_neg (by omega), if_neg (by omega), if_neg (by omega), if_neg (by omega), if_neg (by omega), if_neg (by omega), if_neg (by omega)])
 clear hf; intro hc3 a hf
 refine aN hf hS ?_; clear hf; intro a hf
 refine done_l (t_normal ?_)
 refine c_false hf rfl ?_
 refine c_seq (c_region ?_)
 refine sB hf hS (rd_eql hf rfl rfl rfl) ?_ ?_
 ·
  clear hf; intro hc4 a hf
  refine aN hf hS ?_; clear hf; intro a hf
  refine done_l (t_normal ?_)
  refine c_true hf rfl ?_
  refine c_seq (c_region ?_)
  refine aN hf hS ?_; clear hf; intro a hf
  refine done_l (t_normal (c_ret (b_ret (t_ret ?_))))
  refine eT hf ?_
  refine ⟨int_eq ?_, hS.subA⟩
  clear hf hS
  unfold partsI
  first | (subst_vars; rfl) | (rw [if_neg (by omega), if_neg (by omega), if_neg (by omega), if_neg (by omega), if_neg (by omega), if_neg (by omega), if_neg (by omega), if_pos (by omega)]) | (rw [if_neg (by omega), if_neg (by omega), if_neg (by omega), if_neg (by omega), if_neg (by omega), if_neg (by omega), if_neg (by omega), if_neg (by omega)])
 clear hf; intro hc4 a hf
 refine aN hf hS ?_; clear hf; intro a hf
 refine done_l (t_normal ?_)
 refine c_false hf rfl ?_
 refine c_seq (c_region ?_)
 refine sB hf hS (rd_eql hf rfl rfl rfl) ?_ ?_
 ·
  clear hf; intro hc5 a hf
  refine aN hf hS ?_; clear hf; intro a hf
  refine done_l (t_normal ?_)
  refine c_true hf rfl ?_
  refine c_seq (c_region ?_)
  refine aN hf hS ?_; clear hf; intro a hf
  refine done_l (t_normal (c_ret (b_ret (t_ret ?_))))
  refine eT hf ?_
  refine ⟨int_eq ?_, hS.subA⟩
  clear hf hS
  unfold partsI
  first | (subst_vars; rfl) | (rw [if_neg (by omega), if_neg (by omega), if_neg (by omega), if_neg (by omega), if_neg (by omega), if_neg (by omega), if_neg (by omega), if_pos (by omega)]) | (rw [if_neg (by omega), if_neg (by omega), if_neg (by omega), if_neg (by omega), if_neg (by omega), if_neg (by omega), if_neg (by omega), if_neg (by omega)])
 clear hf; intro hc5 a hf
 refine aN hf hS ?_; clear hf; intro a hf
 refine done_l (t_normal ?_)
 refine c_false hf rfl ?_
 refine c_seq (c_region ?_)
 refine sB hf hS (rd_eql hf rfl rfl rfl) ?_ ?_
 ·
  clear hf; intro hc6 a hf
  refine aN hf hS ?_; clear hf; intro a hf
  refine done_l (t_normal ?_)
  refine c_true hf rfl ?_
  refine c_seq (c_region ?_)
  refine aN hf hS ?_; clear hf; intro a hf
  refine done_l (t_normal (c_ret (b_ret (t_ret ?_))))
  refine eT hf ?_
  refine ⟨int_eq ?_, hS.subA⟩
  clear hf hS
  unfold partsI
  first | (subst_vars; rfl) | (rw [if_neg (by omega), if_neg (by omega), if_neg (by omega), if_neg (by omega), if_neg (by omega), if_neg (by omega), if_neg (by omega), if_pos (by omega)]) | (rw [if_neg (by omega), if_neg (by omega), if_neg (by omega), if_neg (by omega), if_neg (by omega), if_neg (by omega), if_neg (by omega), if_neg (by omega)])
 clear hf; intro hc6 a hf
 refine aN hf hS ?_; clear hf; intro a hf
 refine done_l (t_normal ?_)
 refine c_false hf rfl ?_
 refine c_seq (c_region ?_)
 refine sB hf hS (rd_eql hf rfl rfl rfl) ?_ ?_
 ·
  clear hf; intro hc7 a hf
  refine aN hf hS ?_; clear hf; intro a hf
  refine done_l (t_normal ?_)
  refine c_true hf rfl ?_
  refine c_seq (c_region ?_)
  refine aN hf hS ?_; clear hf; intro a hf
  refine done_l (t_normal (c_ret (b_ret (t_ret ?_))))
  refine eT hf ?_
  refine ⟨int_eq ?_, hS.subA⟩
  clear hf hS
  unfold partsI
  first | (subst_vars; rfl) | (rw [if_neg (by omega), if_neg (by omega), if_neg (by omega), if_neg (by omega), if_neg (by omega), if_neg (by omega), if_neg (by omega), if_pos (by omega)]) | (rw [if_neg (by omega), if_neg (by omega), if_neg (by omega), if_neg (by omega), if_neg (by omega), if_neg (by omega), if_neg (by omega), if_neg (by omega)])
 clear hf; intro hc7 a hf
 refine aN hf hS ?_; clear hf; intro a hf
 refine done_l (t_normal ?_)
 refine c_false hf rfl ?_
 refine c_seq (c_seq (c_region ?_))
 refine sB hf hS (rd_eql hf rfl rfl rfl) ?_ ?_
 ·
  clear hf; intro hc8 a hf
  refine aN hf hS ?_; clear hf; intro a hf
  refine done_l (t_normal ?_)
  refine c_true hf rfl ?_
  refine c_skip (t_normal ?_)
  refine c_true hf rfl ?_
  refine c_seq (c_region ?_)
  refine aN hf hS ?_; clear hf; intro a hf
  refine done_l (t_normal (c_ret (b_ret (t_ret ?_))))
  refine eT hf ?_
  refine ⟨int_eq ?_, hS.subA⟩
  clear hf hS
  unfold partsI
  first | (subst_vars; rfl) | (rw [if_neg (by omega), if_neg (by omega), if_neg (by omega), if_neg (by omega), if_neg (by omega), if_neg (by omega), if_neg (by omega), if_pos (by omega)]) | (rw [if_neg (by omega), if_neg (by omega), if_neg (by omega), if_neg (by omega), if_neg (by omega), if_neg (by omega), if_neg (by omega), if_neg (by omega)])
 clear hf; intro hc8 a hf
 refine aN hf hS ?_; clear hf; intro a hf
 refine done_l (t_normal ?_)
 refine c_false hf rfl ?_
 refine c_region ?_
 refine sB hf hS (rd_eql hf rfl rfl rfl) ?_ ?_
 ·
  clear hf; intro hc9 a hf
  refine aN hf hS ?_; clear hf; intro a hf
  refine done_l (t_normal ?_)
  refine c_true hf rfl ?_
  refine c_seq (c_region ?_)
  refine aN hf hS ?_; clear hf; intro a hf
  refine done_l (t_normal (c_ret (b_ret (t_ret ?_))))
  refine eT hf ?_
  refine ⟨int_eq ?_, hS.subA⟩
  clear hf hS
  unfold partsI
  first | (subst_vars; rfl) | (rw [if_neg (by omega), if_neg (by omega), if_neg (by omega), if_neg (by omega), if_neg (by omega), if_neg (by omega), if_neg (by omega), if_pos (by omega)]) | (rw [if_neg (by omega), if_neg (by omega), if_neg (by omega), if_neg (by omega), if_neg (by omega), if_neg (by omega), if_neg (by omega), if_neg (by omega)])
 clear hf; intro hc9 a hf
 refine aN hf hS ?_; clear hf; intro a hf
 refine done_l (t_normal ?_)
 refine c_false hf rfl ?_
 refine c_skip (b_normal (t_normal (c_seq (c_region ?_))))
 refine aN hf hS ?_; clear hf; intro a hf
 refine done_l (t_normal (c_ret ?_))
 refine eT hf ?_
 refine ⟨int_eq ?_, hS.subA⟩
 clear hf hS
 unfold partsI
 first | (subst_vars; rfl) | (rw [if_neg (by omega), if_neg (by omega), if_neg (by omega), if_neg (by omega), if_neg (by omega), if_neg (by omega), if_neg (by omega), if_pos (by omega)]) | (rw [if_neg (by omega), if_neg (by omega), if_neg (by omega), if_neg (by omega), if_neg (by omega), if_neg (by omega), if_neg (by omega), if_neg (by omega)])

theorem RKMay_c (ky : List UInt8) {W : World} {R : List HP} {w : World} (hS : Sat W (R) w)  : Calls Tryz.prog 52 [.string (str ky)].toArray w (Ret fun v w' => v = .bool (mayKey ky) ∧ Sat W R w') := by
 refine fn_start 11 Tryz.func52 rfl rfl rfl ?_
 intro a hf
 refine c_seq (c_region ?_)
 refine aN hf hS ?_; clear hf; intro a hf
 refine done_l (t_normal (c_seq (c_region ?_)))
 refine mN hf hS ?_; clear hf; intro a hf
 refine sR hf hS (rd_lenS hf rfl rfl Tryz.underlying9) ?_; clear hf; intro a hf
 refine sB hf hS (rd_geq hf rfl rfl rfl) ?_ ?_
 ·
  clear hf; intro hc1 a hf
  iterate 2 ((first | refine mN hf hS ?_ | refine step_l (st_rd hf (Wn.some hf rfl rfl rfl rfl) (rd_move hf rfl rfl) hS rfl rfl ?_)); clear hf; intro a hf)
  refine sG hf hS (rd_lenS hf rfl rfl Tryz.underlying9) ?_; clear hf; intro a hf
  refine sG hf hS (rd_leq hf rfl rfl rfl) ?_; clear hf; intro a hf
  iterate 2 ((first | refine aN hf hS ?_ | refine pT hf hS ?_); clear hf; intro a hf)
  refine done_l (t_normal (c_ret ?_))
  refine eT hf ?_
  refine ⟨congrArg Value.bool ?_, hS.subA⟩
  clear hf hS
  unfold mayKey
  first | exact (decide_eq_false (by omega)).symm | exact decide_eq_decide.2 (by omega)
 clear hf; intro hc1 a hf
 iterate 6 ((first | refine kS hf ?_ | refine mN hf hS ?_ | refine aN hf hS ?_ | refine pF hf hS ?_); clear hf; intro a hf)
 refine done_l (t_normal (c_ret ?_))
 refine eT hf ?_
 refine ⟨congrArg Value.bool ?_, hS.subA⟩
 clear hf hS
 unfold mayKey
 first | exact (decide_eq_false (by omega)).symm | exact decide_eq_decide.2 (by omega)

theorem RMMay_c (dn dc : Int) {W : World} {R : List HP} {w : World} (hS : Sat W (R) w)  : Calls Tryz.prog 34 [.agg #[.int .i64 dn, .int .i64 dc]].toArray w (Ret fun v w' => v = .bool (mayMem (dn, dc)) ∧ Sat W R w') := by
 refine fn_start 21 Tryz.func34 rfl rfl rfl ?_
 intro a hf
 refine c_seq (c_region ?_)
 refine step_l (st_box hf (Wn.none rfl) hS rfl rfl (by rfl) rfl rfl ?_)
 clear hf hS; intro b_1 a w hf hS
 refine aN hf hS ?_; clear hf; intro a hf
 refine done_l (t_normal (c_seq (c_region ?_)))
 refine fA hf hS fb73_0 ?_; clear hf; intro a hf
 refine sR hf hS (rd_ld hf ag3) ?_; clear hf; intro a hf
 refine sB hf hS (rd_geq hf rfl rfl rfl) ?_ ?_
 ·
  clear hf; intro hc2 a hf
  refine mN hf hS ?_; clear hf; intro a hf
  refine fG hf hS fb73_0 ?_; clear hf; intro a hf
  refine sG hf hS (rd_ld hf ag3) ?_; clear hf; intro a hf
  refine step_l (st_rdB hf (Wn.some hf rfl rfl rfl rfl) (rd_leq hf rfl rfl rfl) hS rfl rfl ?_ ?_)
  ·
   clear hf; intro hc3 a hf
   iterate 2 ((first | refine mN hf hS ?_ | refine pT hf hS ?_); clear hf; intro a hf)
   refine fG hf hS fb73_1 ?_; clear hf; intro a hf
   refine sG hf hS (rd_ld hf ag2) ?_; clear hf; intro a hf
   refine step_l (st_rdB hf (Wn.some hf rfl rfl rfl rfl) (rd_geq hf rfl rfl rfl) hS rfl rfl ?_ ?_)
   ·
    clear hf; intro hc4 a hf
    iterate 2 ((first | refine mN hf hS ?_ | refine pT hf hS ?_); clear hf; intro a hf)
    refine fG hf hS fb73_1 ?_; clear hf; intro a hf
    refine sG hf hS (rd_ld hf ag2) ?_; clear hf; intro a hf
    refine sG hf hS (rd_leq hf rfl rfl rfl) ?_; clear hf; intro a hf
    iterate 2 ((first | refine aN hf hS ?_ | refine pT hf hS ?_); clear hf; intro a hf)
    refine done_l (t_normal (c_ret ?_))
    refine eT hf ?_
    refine ⟨congrArg Value.bool ?_, hS.subA⟩
    clear hf hS
    unfold mayMem; dsimp only
    first | exact (decide_eq_false (by omega)).symm | exact decide_eq_decide.2 (by omega)
   clear hf; intro hc4 a hf
   iterate 7 ((first | refine kS hf ?_ | refine mN hf hS ?_ | refine aN hf hS ?_ | refine pT hf hS ?_ | refine pF hf hS ?_); clear hf; intro a hf)
   refine done_l (t_normal (c_ret ?_))
   refine eT hf ?_
   refine ⟨congrArg Value.bool ?_, hS.subA⟩
   clear hf hS
   unfold mayMem; dsimp only
   first | exact (decide_eq_false (by omega)).symm | exact decide_eq_decide.2 (by omega)
  clear hf; intro hc3 a hf
  iterate 12 ((first | refine kS hf ?_ | refine mN hf hS ?_ | refine aN hf hS ?_ | refine pT hf hS ?_ | refine pF hf hS ?_); clear hf; intro a hf)
  refine done_l (t_normal (c_ret ?_))
  refine eT hf ?_
  refine ⟨congrArg Value.bool ?_, hS.subA⟩
  clear hf hS
  unfold mayMem; dsimp only
  first | exact (decide_eq_false (by omega)).symm | exact decide_eq_decide.2 (by omega)
 clear hf; intro hc2 a hf
 iterate 16 ((first | refine kS hf ?_ | refine mN hf hS ?_ | refine aN hf hS ?_ | refine pF hf hS ?_); clear hf; intro a hf)
 refine done_l (t_normal (c_ret ?_))
 refine eT hf ?_
 refine ⟨congrArg Value.bool ?_, hS.subA⟩
 clear hf hS
 unfold mayMem; dsimp only
 first | exact (decide_eq_false (by omega)).symm | exact decide_eq_decide.2 (by omega)

theorem RLess_c (dn dc en ec : Int) {W : World} {R : List HP} {w : World} (hS : Sat W (R) w)  : Calls Tryz.prog 56 [.agg #[.int .i64 dn, .int .i64 dc], .agg #[.int .i64 en, .int .i64 ec]].toArray w (Ret fun v w' => v = .bool (dless (dn, dc) (en, ec)) ∧ Sat W R w') := by
 refine fn_start 24 Tryz.func56 rfl rfl rfl ?_
 intro a hf
 refine c_seq (c_region ?_)
 refine step_l (st_box hf (Wn.none rfl) hS rfl rfl (by rfl) rfl rfl ?_)
 clear hf hS; intro b_1 a w hf hS
 refine step_l (st_box hf (Wn.none rfl) hS rfl rfl (by rfl) rfl rfl ?_)
 clear hf hS; intro b_2 a w hf hS
 refine aN hf hS ?_; clear hf; intro a hf
 refine done_l (t_normal (c_seq (c_region ?_)))
 refine fA hf hS fb87_0 ?_; clear hf; intro a hf
 refine sR hf hS (rd_ld hf ag3) ?_; clear hf; intro a hf
 refine fA hf hS fb87_0 ?_; clear hf; intro a hf
 refine sR hf hS (rd_ld hf ag3) ?_; clear hf; intro a hf
 refine sB hf hS (rd_lss hf rfl rfl rfl) ?_ ?_
 ·
  clear hf; intro hc3 a hf
  iterate 15 ((first | refine kS hf ?_ | refine kU hf ?_ | refine mN hf hS ?_ | refine aN hf hS ?_ | refine pT hf hS ?_); clear hf; intro a hf)
  refine done_l (t_normal (c_ret ?_))
  refine eT hf ?_
  refine ⟨congrArg Value.bool ?_, hS.subA⟩
  clear hf hS
  unfold dless; dsimp only
  first | exact (decide_eq_false (by omega)).symm | exact decide_eq_decide.2 (by omega) | exact (decide_eq_true (by omega)).symm
 clear hf; intro hc3 a hf
 refine mN hf hS ?_; clear hf; intro a hf
 refine fG hf hS fb87_0 ?_; clear hf; intro a hf
 refine sG hf hS (rd_ld hf ag3) ?_; clear hf; intro a hf
 refine fG hf hS fb87_0 ?_; clear hf; intro a hf
 refine sG hf hS (rd_ld hf ag3) ?_; clear hf; intro a hf
 refine step_l (st_rdB hf (Wn.some hf rfl rfl rfl rfl) (rd_eql hf rfl rfl rfl) hS rfl rfl ?_ ?_)
 ·
  clear hf; intro hc4 a hf
  refine sG hf hS (rd_move hf rfl rfl) ?_; clear hf; intro a hf
  refine fG hf hS fb87_1 ?_; clear hf; intro a hf
  refine sG hf hS (rd_ld hf ag2) ?_; clear hf; intro a hf
  refine fG hf hS fb87_1 ?_; clear hf; intro a hf
  refine sG hf hS (rd_ld hf ag2) ?_; clear hf; intro a hf
  refine sG hf hS (rd_lss hf rfl rfl rfl) ?_; clear hf; intro a hf
  iterate 3 ((first | refine aN hf hS ?_ | refine step_l (st_rd hf (Wn.some hf rfl rfl rfl rfl) (rd_pick_t hf rfl rfl rfl) hS rfl rfl ?_) | refine pF hf hS ?_); clear hf; intro a hf)
  refine done_l (t_normal (c_ret ?_))
  refine eT hf ?_
  refine ⟨congrArg Value.bool ?_, hS.subA⟩
  clear hf hS
  unfold dless; dsimp only
  first | exact (decide_eq_false (by omega)).symm | exact decide_eq_decide.2 (by omega) | exact (decide_eq_true (by omega)).symm
 clear hf; intro hc4 a hf
 iterate 9 ((first | refine kS hf ?_ | refine step_l (st_rd hf (Wn.some hf rfl rfl rfl rfl) (rd_move hf rfl rfl) hS rfl rfl ?_) | refine aN hf hS ?_ | refine pF hf hS ?_ | refine step_l (st_rd hf (Wn.some hf rfl rfl rfl rfl) (rd_pick_f hf rfl rfl rfl) hS rfl rfl ?_)); clear hf; intro a hf)
 refine done_l (t_normal (c_ret ?_))
 refine eT hf ?_
 refine ⟨congrArg Value.bool ?_, hS.subA⟩
 clear hf hS
 unfold dless; dsimp only
 first | exact (decide_eq_false (by omega)).symm | exact decide_eq_decide.2 (by omega) | exact (decide_eq_true (by omega)).symm

theorem RVMay_c (s0 s1 s2 s3 s4 s5 s6 s7 : Int) {W : World} {R : List HP} {w : World} (hS : Sat W (R) w)  : Calls Tryz.prog 54 [.agg #[.int .i64 s0, .int .i64 s1, .int .i64 s2, .int .i64 s3, .int .i64 s4, .int .i64 s5, .int .i64 s6, .int .i64 s7]].toArray w (Ret fun v w' => v = .bool (mayVec [s0, s1, s2, s3, s4, s5, s6, s7]) ∧ Sat W R w') := by
 refine fn_start 16 Tryz.func54 rfl rfl rfl ?_
 intro a hf
 refine c_seq (c_region ?_)
 refine step_l (st_box hf (Wn.none rfl) hS rfl rfl (by rfl) rfl rfl ?_)
 clear hf hS; intro b_1 a w hf hS
 refine aN hf hS ?_; clear hf; intro a hf
 refine done_l (t_normal (c_seq (c_seq (c_region ?_))))
 refine sR hf hS (rd_ldN hf ag53 sz53) ?_; clear hf; intro a hf
 refine mN hf hS ?_; clear hf; intro a hf
 refine done_l (t_normal (c_block ?_))
 have hk0 := Keep.ofA hf [(2, 2), (4, 4), (6, 15)]
 refine c_loopK hk0 (α := Nat) (fun k => [(6, .int .i64 (k : Nat))]) (fun k w => Sat W (R) w ∧ k ≤ 8 ∧ mayVec ([s0, s1, s2, s3, s4, s5, s6, s7].take k) = true) (fun k => 8 - k) 0 ((hf.keep hk0).kb hf 6 rfl (by first | rfl | exact int_eq (by omega))) ⟨hS.subA, ⟨by omega, rfl⟩⟩ ?_
 clear hf hS; rintro k a w hf ⟨hS, ⟨hk, hok⟩⟩; (try dsimp only [List.cons_append, List.nil_append] at hf)
 refine c_seq (c_region ?_)
 refine sB hf hS (rd_lss hf rfl rfl rfl) ?_ ?_
 ·
  clear hf; intro hc2 a hf
  obtain ⟨n, hget⟩ := get_of_lt (l := [s0, s1, s2, s3, s4, s5, s6, s7]) (k := k) (by simp; omega) rfl
  refine done_l (t_normal (c_seq ?_))
  refine c_true hf rfl ?_
  refine c_skip (t_normal (c_seq (c_block (c_seq (c_region ?_)))))
  refine sR hf hS (rd_indexA hf rfl rfl rfl Tryz.underlying53 ag2 sz2 (by omega) (i64s_get hget)) ?_; clear hf; intro a hf
  refine aN hf hS ?_; clear hf; intro a hf
  refine done_l (t_normal (c_seq (c_region ?_)))
  refine mN hf hS ?_; clear hf; intro a hf
  refine sB hf hS (rd_lss hf rfl rfl rfl) ?_ ?_
  ·
   clear hf; intro hc3 a hf
   iterate 4 ((first | refine kS hf ?_ | refine mN hf hS ?_ | refine pT hf hS ?_); clear hf; intro a hf)
   refine done_l (t_normal ?_)
   refine c_true hf rfl ?_
   refine c_seq (c_region ?_)
   refine aN hf hS ?_; clear hf; intro a hf
   refine done_l (t_normal (c_ret (b_ret (t_ret (t_ret (b_ret (t_ret ?_)))))))
   refine eT hf ?_
   refine ⟨congrArg Value.bool ?_, hS.subA⟩
   clear hf hS
   first | exact (all_no hget (decide_eq_false (by omega))).symm | exact hok.symm
  clear hf; intro hc3 a hf
  iterate 2 ((first | refine mN hf hS ?_ | refine step_l (st_rd hf (Wn.some hf rfl rfl rfl rfl) (rd_move hf rfl rfl) hS rfl rfl ?_)); clear hf; intro a hf)
  refine step_l (st_rdB hf (Wn.some hf rfl rfl rfl rfl) (rd_gtr hf rfl rfl rfl) hS rfl rfl ?_ ?_)
  ·
   clear hf; intro hc4 a hf
   refine pF hf hS ?_; clear hf; intro a hf
   refine done_l (t_normal ?_)
   refine c_true hf rfl ?_
   refine c_seq (c_region ?_)
   refine aN hf hS ?_; clear hf; intro a hf
   refine done_l (t_normal (c_ret (b_ret (t_ret (t_ret (b_ret (t_ret ?_)))))))
   refine eT hf ?_
   refine ⟨congrArg Value.bool ?_, hS.subA⟩
   clear hf hS
   first | exact (all_no hget (decide_eq_false (by omega))).symm | exact hok.symm
  clear hf; intro hc4 a hf
  refine pF hf hS ?_; clear hf; intro a hf
  refine done_l (t_normal ?_)
  refine c_false hf rfl ?_
  refine c_skip (b_normal (t_normal (c_region ?_)))
  refine sP hf hS ?_; clear hf; intro a hf
  refine mN hf hS ?_; clear hf; intro a hf
  refine done_l ?_
  refine t_normal ⟨k + 1, ((hf.backA hk0).kb hf 6 rfl (by first | rfl | exact int_eq (by omega))), ⟨hS.subA, ⟨by omega, all_step hget hok (decide_eq_true (by omega))⟩⟩, by first | omega | (simp only []; omega)⟩
 clear hf; intro hc2 a hf
 obtain rfl : k = 8 := by omega
 refine done_l (t_normal (c_seq ?_))
 refine c_false hf rfl ?_
 refine c_exit (t_exit (t_exit (b_exit (t_normal (c_seq (c_region ?_))))))
 refine aN hf hS ?_; clear hf; intro a hf
 refine done_l (t_normal (c_ret ?_))
 refine eT hf ?_
 refine ⟨congrArg Value.bool ?_, hS.subA⟩
 clear hf hS
 first | exact (all_no hget (decide_eq_false (by omega))).symm | exact hok.symm

theorem RVCov_c (s0 s1 s2 s3 s4 s5 s6 s7 dn dc : Int) {W : World} {R : List HP} {w : World} (hS : Sat W (R) w)  : Calls Tryz.prog 55 [.agg #[.int .i64 s0, .int .i64 s1, .int .i64 s2, .int .i64 s3, .int .i64 s4, .int .i64 s5, .int .i64 s6, .int .i64 s7], .agg #[.int .i64 dn, .int .i64 dc]].toArray w (Ret fun v w' => v = .bool (covers [s0, s1, s2, s3, s4, s5, s6, s7] (dn, dc)) ∧ Sat W R w') := by
 refine fn_start 27 Tryz.func55 rfl rfl rfl ?_
 intro a hf
 refine c_seq (c_region ?_)
 refine step_l (st_box hf (Wn.none rfl) hS rfl rfl (by rfl) rfl rfl ?_)
 clear hf hS; intro b_1 a w hf hS
 refine step_l (st_box hf (Wn.none rfl) hS rfl rfl (by rfl) rfl rfl ?_)
 clear hf hS; intro b_2 a w hf hS
 refine aN hf hS ?_; clear hf; intro a hf
 refine done_l (t_normal (c_seq ?_))
 refine any_begin mixed hS.drew ?_
 replace hS := hS.drew
 have hT := hS
 refine any_takeA (i := 0) hf rfl (Wn.none rfl) (rd_fieldAddrB hf rfl rfl fb87_0 rfl) hT rfl rfl ?_; clear hf; intro a hf
 refine any_takeA (i := 1) hf rfl (Wn.none rfl) (rd_ld hf ag3) hT rfl rfl ?_; clear hf; intro a hf
 refine any_takeB (i := 2) hf rfl (by kernel_rfl) (by kernel_rfl) (by kernel_rfl) (fun _ _ _ _ h => h) (Wn.none rfl) (rd_geq hf rfl rfl rfl) hT rfl rfl ?_ ?_
 ·
  clear hf; intro hc3 a hf
  refine any_takeA (i := 3) hf rfl (Wn.none rfl) (rd_move hf rfl rfl) hT rfl rfl ?_; clear hf; intro a hf
  refine any_takeA (i := 4) hf rfl (Wn.some hf rfl rfl rfl rfl) (rd_fieldAddrB hf rfl rfl fb87_0 rfl) hT rfl rfl ?_; clear hf; intro a hf
  refine any_takeA (i := 5) hf rfl (Wn.some hf rfl rfl rfl rfl) (rd_ld hf ag3) hT rfl rfl ?_; clear hf; intro a hf
  refine any_takeB (i := 6) hf rfl (by kernel_rfl) (by kernel_rfl) (by kernel_rfl) (fun _ _ _ _ h => h) (Wn.some hf rfl rfl rfl rfl) (rd_lss hf rfl rfl rfl) hT rfl rfl ?_ ?_
  ·
   clear hf; intro hc4 a hf
   obtain ⟨j, rfl⟩ : ∃ j : Nat, dn = (j : Int) := ⟨dn.toNat, by omega⟩; obtain ⟨m, hget⟩ := get_of_lt (l := [s0, s1, s2, s3, s4, s5, s6, s7]) (k := j) (by simp; omega) rfl
   refine any_takeA (i := 7) hf rfl (Wn.none rfl) (rd_pick_t hf rfl rfl rfl) hT rfl rfl ?_; clear hf; intro a hf
   refine any_takeA (i := 8) hf rfl (Wn.none rfl) (rd_move hf rfl rfl) hT rfl rfl ?_; clear hf; intro a hf
   refine any_takeA (i := 9) hf rfl (Wn.some hf rfl rfl rfl rfl) (rd_fieldAddrB hf rfl rfl fb87_1 rfl) hT rfl rfl ?_; clear hf; intro a hf
   refine any_takeA (i := 10) hf rfl (Wn.some hf rfl rfl rfl rfl) (rd_ld hf ag2) hT rfl rfl ?_; clear hf; intro a hf
   refine any_takeB (i := 11) hf rfl (by kernel_rfl) (by kernel_rfl) (by kernel_rfl) (fun _ _ _ _ h => h) (Wn.some hf rfl rfl rfl rfl) (rd_geq hf rfl rfl rfl) hT rfl rfl ?_ ?_
   ·
    clear hf; intro hc5 a hf
    refine any_takeA (i := 12) hf rfl (Wn.none rfl) (rd_pick_t hf rfl rfl rfl) hT rfl rfl ?_; clear hf; intro a hf
    refine any_takeA (i := 13) hf rfl (Wn.none rfl) (rd_move hf rfl rfl) hT rfl rfl ?_; clear hf; intro a hf
    refine any_takeA (i := 14) hf rfl (Wn.some hf rfl rfl rfl rfl) (rd_fieldAddrB hf rfl rfl fb87_1 rfl) hT rfl rfl ?_; clear hf; intro a hf
    refine any_takeA (i := 15) hf rfl (Wn.some hf rfl rfl rfl rfl) (rd_ld hf ag2) hT rfl rfl ?_; clear hf; intro a hf
    refine any_takeA (i := 16) hf rfl (Wn.some hf rfl rfl rfl rfl) (rd_fieldAddrB hf rfl rfl fb87_0 rfl) hT rfl rfl ?_; clear hf; intro a hf
    refine any_takeA (i := 17) hf rfl (Wn.some hf rfl rfl rfl rfl) (rd_ld hf ag3) hT rfl rfl ?_; clear hf; intro a hf
    refine any_takeA (i := 18) hf rfl (Wn.some hf rfl rfl rfl rfl) (rd_indexAddrA hf rfl rfl rfl Tryz.underlying53 sz2 (by omega)) hT rfl rfl ?_; clear hf; intro a hf
    refine any_takeA (i := 19) hf rfl (Wn.some hf rfl rfl rfl rfl) (rd_load1 hf rfl rfl ag2 (by intro _ h; exact h.cell (by repeat (first | exact Sel.head | apply Sel.tail)) (by rw [Nat.zero_add, Nat.mul_one]; exact i64s_get hget))) hT rfl rfl ?_; clear hf; intro a hf
    refine any_takeA (i := 20) hf rfl (Wn.some hf rfl rfl rfl rfl) (rd_leq hf rfl rfl rfl) hT rfl rfl ?_; clear hf; intro a hf
    refine any_takeA (i := 21) hf rfl (Wn.none rfl) (rd_pick_t hf rfl rfl rfl) hT rfl rfl ?_; clear hf; intro a hf
    refine any_takeA (i := 22) hf rfl (Wn.none rfl) (rd_assign hf rfl rfl) hT rfl rfl ?_; clear hf; intro a hf
    refine any_done (by kernel_rfl) ?_
    refine t_normal (c_ret ?_)
    refine eT hf ?_
    refine ⟨congrArg Value.bool ?_, hS.subA⟩
    clear hf hS
    unfold covers; dsimp only
    first | exact (decide_eq_false (by omega)).symm | (apply decide_eq_decide.2; rw [Int.toNat_natCast, List.getD_eq_getElem?_getD, hget]; dsimp only [Option.getD]; omega)
   clear hf; intro hc5 a hf
   refine any_takeA (i := 12) hf rfl (Wn.none rfl) (rd_pick_t hf rfl rfl rfl) hT rfl rfl ?_; clear hf; intro a hf
   refine any_takeA (i := 13) hf rfl (Wn.none rfl) (rd_move hf rfl rfl) hT rfl rfl ?_; clear hf; intro a hf
   refine yS (i := 14) hf hT ?_; clear hf; intro a hf
   refine yS (i := 15) hf hT ?_; clear hf; intro a hf
   refine yS (i := 16) hf hT ?_; clear hf; intro a hf
   refine yS (i := 17) hf hT ?_; clear hf; intro a hf
   refine yS (i := 18) hf hT ?_; clear hf; intro a hf
   refine yS (i := 19) hf hT ?_; clear hf; intro a hf
   refine yS (i := 20) hf hT ?_; clear hf; intro a hf
   refine any_takeA (i := 21) hf rfl (Wn.none rfl) (rd_pick_f hf rfl rfl rfl) hT rfl rfl ?_; clear hf; intro a hf
   refine any_takeA (i := 22) hf rfl (Wn.none rfl) (rd_assign hf rfl rfl) hT rfl rfl ?_; clear hf; intro a hf
   refine any_done (by kernel_rfl) ?_
   refine t_normal (c_ret ?_)
   refine eT hf ?_
   refine ⟨congrArg Value.bool ?_, hS.subA⟩
   clear hf hS
   unfold covers; dsimp only
   first | exact (decide_eq_false (by omega)).symm | (apply decide_eq_decide.2; rw [Int.toNat_natCast, List.getD_eq_getElem?_getD, hget]; dsimp only [Option.getD]; omega)
  clear hf; intro hc4 a hf
  refine any_takeA (i := 7) hf rfl (Wn.none rfl) (rd_pick_t hf rfl rfl rfl) hT rfl rfl ?_; clear hf; intro a hf
  refine any_takeA (i := 8) hf rfl (Wn.none rfl) (rd_move hf rfl rfl) hT rfl rfl ?_; clear hf; intro a hf
  refine yS (i := 9) hf hT ?_; clear hf; intro a hf
  refine yS (i := 10) hf hT ?_; clear hf; intro a hf
  refine yS (i := 11) hf hT ?_; clear hf; intro a hf
  refine any_takeA (i := 12) hf rfl (Wn.none rfl) (rd_pick_f hf rfl rfl rfl) hT rfl rfl ?_; clear hf; intro a hf
  refine any_takeA (i := 13) hf rfl (Wn.none rfl) (rd_move hf rfl rfl) hT rfl rfl ?_; clear hf; intro a hf
  refine yS (i := 14) hf hT ?_; clear hf; intro a hf
  refine yS (i := 15) hf hT ?_; clear hf; intro a hf
  refine yS (i := 16) hf hT ?_; clear hf; intro a hf
  refine yS (i := 17) hf hT ?_; clear hf; intro a hf
  refine yS (i := 18) hf hT ?_; clear hf; intro a hf
  refine yS (i := 19) hf hT ?_; clear hf; intro a hf
  refine yS (i := 20) hf hT ?_; clear hf; intro a hf
  refine any_takeA (i := 21) hf rfl (Wn.none rfl) (rd_pick_f hf rfl rfl rfl) hT rfl rfl ?_; clear hf; intro a hf
  refine any_takeA (i := 22) hf rfl (Wn.none rfl) (rd_assign hf rfl rfl) hT rfl rfl ?_; clear hf; intro a hf
  refine any_done (by kernel_rfl) ?_
  refine t_normal (c_ret ?_)
  refine eT hf ?_
  refine ⟨congrArg Value.bool ?_, hS.subA⟩
  clear hf hS
  unfold covers; dsimp only
  first | exact (decide_eq_false (by omega)).symm | (apply decide_eq_decide.2; rw [Int.toNat_natCast, List.getD_eq_getElem?_getD, hget]; dsimp only [Option.getD]; omega)
 clear hf; intro hc3 a hf
 refine any_takeA (i := 3) hf rfl (Wn.none rfl) (rd_move hf rfl rfl) hT rfl rfl ?_; clear hf; intro a hf
 refine yS (i := 4) hf hT ?_; clear hf; intro a hf
 refine yS (i := 5) hf hT ?_; clear hf; intro a hf
 refine yS (i := 6) hf hT ?_; clear hf; intro a hf
 refine any_takeA (i := 7) hf rfl (Wn.none rfl) (rd_pick_f hf rfl rfl rfl) hT rfl rfl ?_; clear hf; intro a hf
 refine any_takeA (i := 8) hf rfl (Wn.none rfl) (rd_move hf rfl rfl) hT rfl rfl ?_; clear hf; intro a hf
 refine yS (i := 9) hf hT ?_; clear hf; intro a hf
 refine yS (i := 10) hf hT ?_; clear hf; intro a hf
 refine yS (i := 11) hf hT ?_; clear hf; intro a hf
 refine any_takeA (i := 12) hf rfl (Wn.none rfl) (rd_pick_f hf rfl rfl rfl) hT rfl rfl ?_; clear hf; intro a hf
 refine any_takeA (i := 13) hf rfl (Wn.none rfl) (rd_move hf rfl rfl) hT rfl rfl ?_; clear hf; intro a hf
 refine yS (i := 14) hf hT ?_; clear hf; intro a hf
 refine yS (i := 15) hf hT ?_; clear hf; intro a hf
 refine yS (i := 16) hf hT ?_; clear hf; intro a hf
 refine yS (i := 17) hf hT ?_; clear hf; intro a hf
 refine yS (i := 18) hf hT ?_; clear hf; intro a hf
 refine yS (i := 19) hf hT ?_; clear hf; intro a hf
 refine yS (i := 20) hf hT ?_; clear hf; intro a hf
 refine any_takeA (i := 21) hf rfl (Wn.none rfl) (rd_pick_f hf rfl rfl rfl) hT rfl rfl ?_; clear hf; intro a hf
 refine any_takeA (i := 22) hf rfl (Wn.none rfl) (rd_assign hf rfl rfl) hT rfl rfl ?_; clear hf; intro a hf
 refine any_done (by kernel_rfl) ?_
 refine t_normal (c_ret ?_)
 refine eT hf ?_
 refine ⟨congrArg Value.bool ?_, hS.subA⟩
 clear hf hS
 unfold covers; dsimp only
 first | exact (decide_eq_false (by omega)).symm | (apply decide_eq_decide.2; rw [Int.toNat_natCast, List.getD_eq_getElem?_getD, hget]; dsimp only [Option.getD]; omega)

end Go.Proofs.YtcflbdpjoanbgaaGreat
