/-
  Walked: Vec.
  Conditions: none.
-/
import Derived.Test.YtcflbdpjoanbgaaGreatWir1
namespace Go.Proofs.YtcflbdpjoanbgaaGreat
open Go Go.Sl
set_option linter.unusedVariables false
set_option linter.unusedSimpArgs false

theorem Is_c (n : Int) {W : World} {R : List HP} {w : World} (hS : Sat W (R) w)  : Calls Tryz.prog 103 [.int .i64 n].toArray w (Ret fun v w' => v = .bool (decide (0 ≤ n ∧ n ≤ 7)) ∧ Sat W R w') := by
 refine fn_start 9 Tryz.func103 rfl rfl rfl ?_
 intro a hf
 refine c_seq (c_region ?_)
 refine aN hf hS ?_; clear hf; intro a hf
 refine done_l (t_normal (c_seq (c_region ?_)))
 refine mN hf hS ?_; clear hf; intro a hf
 refine sB hf hS (rd_geq hf rfl rfl rfl) ?_ ?_
 ·
  clear hf; intro hc1 a hf
  iterate 2 ((first | refine mN hf hS ?_ | refine step_l (st_rd hf (Wn.some hf rfl rfl rfl rfl) (rd_move hf rfl rfl) hS rfl rfl ?_)); clear hf; intro a hf)
  refine sG hf hS (rd_lss hf rfl rfl rfl) ?_; clear hf; intro a hf
  iterate 2 ((first | refine aN hf hS ?_ | refine pT hf hS ?_); clear hf; intro a hf)
  refine done_l (t_normal (c_ret ?_))
  refine eT hf ?_
  refine ⟨congrArg Value.bool ?_, hS.subA⟩
  clear hf hS
  first | exact (decide_eq_false (by omega)).symm | exact decide_eq_decide.2 (by omega) | exact (decide_eq_true (by omega)).symm
 clear hf; intro hc1 a hf
 iterate 5 ((first | refine kS hf ?_ | refine mN hf hS ?_ | refine aN hf hS ?_ | refine pF hf hS ?_); clear hf; intro a hf)
 refine done_l (t_normal (c_ret ?_))
 refine eT hf ?_
 refine ⟨congrArg Value.bool ?_, hS.subA⟩
 clear hf hS
 first | exact (decide_eq_false (by omega)).symm | exact decide_eq_decide.2 (by omega) | exact (decide_eq_true (by omega)).symm

theorem Within_c (n lo hi : Int) {W : World} {R : List HP} {w : World} (hS : Sat W (R) w)  : Calls Tryz.prog 60 [.int .i64 n, .int .i64 lo, .int .i64 hi].toArray w (Ret fun v w' => v = .bool (decide (lo ≤ n ∧ n ≤ hi)) ∧ Sat W R w') := by
 refine fn_start 15 Tryz.func60 rfl rfl rfl ?_
 intro a hf
 refine c_seq (c_region ?_)
 refine aN hf hS ?_; clear hf; intro a hf
 refine done_l (t_normal (c_seq (c_region ?_)))
 iterate 2 (refine mN hf hS ?_; clear hf; intro a hf)
 refine sB hf hS (rd_geq hf rfl rfl rfl) ?_ ?_
 ·
  clear hf; intro hc1 a hf
  iterate 3 ((first | refine mN hf hS ?_ | refine step_l (st_rd hf (Wn.some hf rfl rfl rfl rfl) (rd_move hf rfl rfl) hS rfl rfl ?_)); clear hf; intro a hf)
  refine sG hf hS (rd_leq hf rfl rfl rfl) ?_; clear hf; intro a hf
  iterate 2 ((first | refine aN hf hS ?_ | refine pT hf hS ?_); clear hf; intro a hf)
  refine done_l (t_normal (c_ret ?_))
  refine eT hf ?_
  refine ⟨congrArg Value.bool ?_, hS.subA⟩
  clear hf hS
  first | exact (decide_eq_false (by omega)).symm | exact decide_eq_decide.2 (by omega) | exact (decide_eq_true (by omega)).symm
 clear hf; intro hc1 a hf
 iterate 6 ((first | refine kS hf ?_ | refine mN hf hS ?_ | refine aN hf hS ?_ | refine pF hf hS ?_); clear hf; intro a hf)
 refine done_l (t_normal (c_ret ?_))
 refine eT hf ?_
 refine ⟨congrArg Value.bool ?_, hS.subA⟩
 clear hf hS
 first | exact (decide_eq_false (by omega)).symm | exact decide_eq_decide.2 (by omega) | exact (decide_eq_true (by omega)).symm

theorem Parts_c (k : Int) {W : World} {R : List HP} {w : World} (hS : Sat W (R) w)  : Calls Tryz.prog 59 [.int .i64 k].toArray w (Ret fun v w' => v = .int .i64 (partsI k) ∧ Sat W R w') := by
 refine fn_start 21 Tryz.func59 rfl rfl rfl ?_
 intro a hf
 refine c_seq (c_region ?_)
 refine aN hf hS ?_; clear hf; intro a hf
 refine done_l (t_normal (c_seq (c_seq (c_region ?_))))
 refine mN hf hS ?_; clear hf; intro a hf
 refine done_l (t_normal (c_block (c_seq (c_region ?_))))
 refine sB hf hS (rd_eql hf rfl rfl rfl) ?_ ?_
 ·
  clear hf; intro hc1 a hf
  refine aN hf hS ?_; clear hf; intro a hf
  refine done_l (t_normal ?_)
  refine c_true hf rfl ?_
  refine c_seq (c_region ?_)
  refine aN hf hS ?_; clear hf; intro a hf
  refine done_l (t_normal (c_ret (b_ret (t_ret ?_))))
  refine eT hf ?_
  refine ⟨int_eq ?_, hS.subA⟩
  clear hf hS
  unfold partsI
  first | (subst_vars; rfl) | (rw [if_neg (by omega), if_neg (by omega), if_neg (by omega), if_neg (by omega), if_neg (by omega), if_neg (by omega), if_neg (by omega), if_pos (by omega)]) | (rw [if_neg (by omega), if_neg (by omega), if_neg (by omega), if_neg (by omega), if_neg (by omega), if_neg (by omega), if_neg (by omega), if_neg (by omega)])
 clear hf; intro hc1 a hf
 refine aN hf hS ?_; clear hf; intro a hf
 refine done_l (t_normal ?_)
 refine c_false hf rfl ?_
 refine c_seq (c_region ?_)
 refine sB hf hS (rd_eql hf rfl rfl rfl) ?_ ?_
 ·
  clear hf; intro hc2 a hf
  refine aN hf hS ?_; clear hf; intro a hf
  refine done_l (t_normal ?_)
  refine c_true hf rfl ?_
  refine c_seq (c_region ?_)
  refine aN hf hS ?_; clear hf; intro a hf
  refine done_l (t_normal (c_ret (b_ret (t_ret ?_))))
  refine eT hf ?_
  refine ⟨int_eq ?_, hS.subA⟩
  clear hf hS
  unfold partsI
  first | (subst_vars; rfl) | (rw [if_neg (by omega), if_neg (by omega), if_neg (by omega), if_neg (by omega), if_neg (by omega), if_neg (by omega), if_neg (by omega), if_pos (by omega)]) | (rw [if_neg (by omega), if_neg (by omega), if_neg (by omega), if_neg (by omega), if_neg (by omega), if_neg (by omega), if_neg (by omega), if_neg (by omega)])
 clear hf; intro hc2 a hf
 refine aN hf hS ?_; clear hf; intro a hf
 refine done_l (t_normal ?_)
 refine c_false hf rfl ?_
 refine c_seq (c_region ?_)
 refine sB hf hS (rd_eql hf rfl rfl rfl) ?_ ?_
 ·
  clear hf; intro hc3 a hf
  refine aN hf hS ?_; clear hf; intro a hf
  refine done_l (t_normal ?_)
  refine c_true hf rfl ?_
  refine c_seq (c_region ?_)
  refine aN hf hS ?_; clear hf; intro a hf
  refine done_l (t_normal (c_ret (b_ret (t_ret ?_))))
  refine eT hf ?_
  refine ⟨int_eq ?_, hS.subA⟩
  clear hf hS
  unfold partsI
  first | (subst_vars; rfl) | (rw [if_neg (by omega), if_neg (by omega), if_neg (by omega), if_neg (by omega), if_neg (by omega), if_neg (by omega), if_neg (by omega), if_pos (by omega)]) | (rw [if_neg (by omega), if_neg (by omega), if_neg (by omega), if_neg (by omega), if_neg (by omega), if_neg (by omega), if_neg (by omega), if_neg (by omega)])
 clear hf; intro hc3 a hf
 refine aN hf hS ?_; clear hf; intro a hf
 refine done_l (t_normal ?_)
 refine c_false hf rfl ?_
 refine c_seq (c_region ?_)
 refine sB hf hS (rd_eql hf rfl rfl rfl) ?_ ?_
 ·
  clear hf; intro hc4 a hf
  refine aN hf hS ?_; clear hf; intro a hf
  refine done_l (t_normal ?_)
  refine c_true hf rfl ?_
  refine c_seq (c_region ?_)
  refine aN hf hS ?_; clear hf; intro a hf
  refine done_l (t_normal (c_ret (b_ret (t_ret ?_))))
  refine eT hf ?_
  refine ⟨int_eq ?_, hS.subA⟩
  clear hf hS
  unfold partsI
  first | (subst_vars; rfl) | (rw [if_neg (by omega), if_neg (by omega), if_neg (by omega), if_neg (by omega), if_neg (by omega), if_neg (by omega), if_neg (by omega), if_pos (by omega)]) | (rw [if_neg (by omega), if_neg (by omega), if_neg (by omega), if_neg (by omega), if_neg (by omega), if_neg (by omega), if_neg (by omega), if_neg (by omega)])
 clear hf; intro hc4 a hf
 refine aN hf hS ?_; clear hf; intro a hf
 refine done_l (t_normal ?_)
 refine c_false hf rfl ?_
 refine c_seq (c_region ?_)
 refine sB hf hS (rd_eql hf rfl rfl rfl) ?_ ?_
 ·
  clear hf; intro hc5 a hf
  refine aN hf hS ?_; clear hf; intro a hf
  refine done_l (t_normal ?_)
  refine c_true hf rfl ?_
  refine c_seq (c_region ?_)
  refine aN hf hS ?_; clear hf; intro a hf
  refine done_l (t_normal (c_ret (b_ret (t_ret ?_))))
  refine eT hf ?_
  refine ⟨int_eq ?_, hS.subA⟩
  clear hf hS
  unfold partsI
  first | (subst_vars; rfl) | (rw [if_neg (by omega), if_neg (by omega), if_neg (by omega), if_neg (by omega), if_neg (by omega), if_neg (by omega), if_neg (by omega), if_pos (by omega)]) | (rw [if_neg (by omega), if_neg (by omega), if_neg (by omega), if_neg (by omega), if_neg (by omega), if_neg (by omega), if_neg (by omega), if_neg (by omega)])
 clear hf; intro hc5 a hf
 refine aN hf hS ?_; clear hf; intro a hf
 refine done_l (t_normal ?_)
 refine c_false hf rfl ?_
 refine c_seq (c_region ?_)
 refine sB hf hS (rd_eql hf rfl rfl rfl) ?_ ?_
 ·
  clear hf; intro hc6 a hf
  refine aN hf hS ?_; clear hf; intro a hf
  refine done_l (t_normal ?_)
  refine c_true hf rfl ?_
  refine c_seq (c_region ?_)
  refine aN hf hS ?_; clear hf; intro a hf
  refine done_l (t_normal (c_ret (b_ret (t_ret ?_))))
  refine eT hf ?_
  refine ⟨int_eq ?_, hS.subA⟩
  clear hf hS
  unfold partsI
  first | (subst_vars; rfl) | (rw [if_neg (by omega), if_neg (by omega), if_neg (by omega), if_neg (by omega), if_neg (by omega), if_neg (by omega), if_neg (by omega), if_pos (by omega)]) | (rw [if_neg (by omega), if_neg (by omega), if_neg (by omega), if_neg (by omega), if_neg (by omega), if_neg (by omega), if_neg (by omega), if_neg (by omega)])
 clear hf; intro hc6 a hf
 refine aN hf hS ?_; clear hf; intro a hf
 refine done_l (t_normal ?_)
 refine c_false hf rfl ?_
 refine c_seq (c_region ?_)
 refine sB hf hS (rd_eql hf rfl rfl rfl) ?_ ?_
 ·
  clear hf; intro hc7 a hf
  refine aN hf hS ?_; clear hf; intro a hf
  refine done_l (t_normal ?_)
  refine c_true hf rfl ?_
  refine c_seq (c_region ?_)
  refine aN hf hS ?_; clear hf; intro a hf
  refine done_l (t_normal (c_ret (b_ret (t_ret ?_))))
  refine eT hf ?_
  refine ⟨int_eq ?_, hS.subA⟩
  clear hf hS
  unfold partsI
  first | (subst_vars; rfl) | (rw [if_neg (by omega), if_neg (by omega), if_neg (by omega), if_neg (by omega), if_neg (by omega), if_neg (by omega), if_neg (by omega), if_pos (by omega)]) | (rw [if_neg (by omega), if_neg (by omega), if_neg (by omega), if_neg (by omega), if_neg (by omega), if_neg (by omega), if_neg (by omega), if_neg (by omega)])
 clear hf; intro hc7 a hf
 refine aN hf hS ?_; clear hf; intro a hf
 refine done_l (t_normal ?_)
 refine c_false hf rfl ?_
 refine c_seq (c_seq (c_region ?_))
 refine sB hf hS (rd_eql hf rfl rfl rfl) ?_ ?_
 ·
  clear hf; intro hc8 a hf
  refine aN hf hS ?_; clear hf; intro a hf
  refine done_l (t_normal ?_)
  refine c_true hf rfl ?_
  refine c_skip (t_normal ?_)
  refine c_true hf rfl ?_
  refine c_seq (c_region ?_)
  refine aN hf hS ?_; clear hf; intro a hf
  refine done_l (t_normal (c_ret (b_ret (t_ret ?_))))
  refine eT hf ?_
  refine ⟨int_eq ?_, hS.subA⟩
  clear hf hS
  unfold partsI
  first | (subst_vars; rfl) | (rw [if_neg (by omega), if_neg (by omega), if_neg (by omega), if_neg (by omega), if_neg (by omega), if_neg (by omega), if_neg (by omega), if_pos (by omega)]) | (rw [if_neg (by omega), if_neg (by omega), if_neg (by omega), if_neg (by omega), if_neg (by omega), if_neg (by omega), if_neg (by omega), if_neg (by omega)])
 clear hf; intro hc8 a hf
 refine aN hf hS ?_; clear hf; intro a hf
 refine done_l (t_normal ?_)
 refine c_false hf rfl ?_
 refine c_region ?_
 refine sB hf hS (rd_eql hf rfl rfl rfl) ?_ ?_
 ·
  clear hf; intro hc9 a hf
  refine aN hf hS ?_; clear hf; intro a hf
  refine done_l (t_normal ?_)
  refine c_true hf rfl ?_
  refine c_seq (c_region ?_)
  refine aN hf hS ?_; clear hf; intro a hf
  refine done_l (t_normal (c_ret (b_ret (t_ret ?_))))
  refine eT hf ?_
  refine ⟨int_eq ?_, hS.subA⟩
  clear hf hS
  unfold partsI
  first | (subst_vars; rfl) | (rw [if_neg (by omega), if_neg (by omega), if_neg (by omega), if_neg (by omega), if_neg (by omega), if_neg (by omega), if_neg (by omega), if_pos (by omega)]) | (rw [if_neg (by omega), if_neg (by omega), if_neg (by omega), if_neg (by omega), if_neg (by omega), if_neg (by omega), if_neg (by omega), if_neg (by omega)])
 clear hf; intro hc9 a hf
 refine aN hf hS ?_; clear hf; intro a hf
 refine done_l (t_normal ?_)
 refine c_false hf rfl ?_
 refine c_skip (b_normal (t_normal (c_seq (c_region ?_))))
 refine aN hf hS ?_; clear hf; intro a hf
 refine done_l (t_normal (c_ret ?_))
 refine eT hf ?_
 refine ⟨int_eq ?_, hS.subA⟩
 clear hf hS
 unfold partsI
 first | (subst_vars; rfl) | (rw [if_neg (by omega), if_neg (by omega), if_neg (by omega), if_neg (by omega), if_neg (by omega), if_neg (by omega), if_neg (by omega), if_pos (by omega)]) | (rw [if_neg (by omega), if_neg (by omega), if_neg (by omega), if_neg (by omega), if_neg (by omega), if_neg (by omega), if_neg (by omega), if_neg (by omega)])

theorem Entries_c (k : Int) {W : World} {R : List HP} {w : World} (hS : Sat W (R) w)  : Calls Tryz.prog 58 [.int .i64 k].toArray w (Ret fun v w' => v = .tuple #[.int .i64 (leastP k), .int .i64 (mostP k)] ∧ Sat W R w') := by
 refine fn_start 10 Tryz.func58 rfl rfl rfl ?_
 intro a hf
 refine c_seq (c_region ?_)
 iterate 2 (refine aN hf hS ?_; clear hf; intro a hf)
 refine done_l (t_normal (c_seq (c_seq (c_region ?_))))
 refine mN hf hS ?_; clear hf; intro a hf
 refine done_l (t_normal (c_block (c_seq (c_region ?_))))
 refine sB hf hS (rd_eql hf rfl rfl rfl) ?_ ?_
 ·
  clear hf; intro hc1 a hf
  refine aN hf hS ?_; clear hf; intro a hf
  refine done_l (t_normal ?_)
  refine c_true hf rfl ?_
  refine c_seq (c_region ?_)
  iterate 2 (refine aN hf hS ?_; clear hf; intro a hf)
  refine done_l (t_normal (c_ret (b_ret (t_ret ?_))))
  refine e_resN hf.defers rfl (res_tmp hf rfl (res_tmp hf rfl .nil)) ?_
  refine ⟨?_, hS.subA⟩
  clear hf hS
  unfold leastP mostP
  first | (rw [if_pos (by omega), if_pos (by omega)]) | (rw [if_neg (by omega), if_pos (by omega)]) | (rw [if_neg (by omega), if_neg (by omega)])
 clear hf; intro hc1 a hf
 refine aN hf hS ?_; clear hf; intro a hf
 refine done_l (t_normal ?_)
 refine c_false hf rfl ?_
 refine c_seq (c_seq (c_region ?_))
 refine sB hf hS (rd_eql hf rfl rfl rfl) ?_ ?_
 ·
  clear hf; intro hc2 a hf
  refine aN hf hS ?_; clear hf; intro a hf
  refine done_l (t_normal ?_)
  refine c_true hf rfl ?_
  refine c_skip (t_normal ?_)
  refine c_true hf rfl ?_
  refine c_seq (c_region ?_)
  iterate 2 (refine aN hf hS ?_; clear hf; intro a hf)
  refine done_l (t_normal (c_ret (b_ret (t_ret ?_))))
  refine e_resN hf.defers rfl (res_tmp hf rfl (res_tmp hf rfl .nil)) ?_
  refine ⟨?_, hS.subA⟩
  clear hf hS
  unfold leastP mostP
  first | (rw [if_pos (by omega), if_pos (by omega)]) | (rw [if_neg (by omega), if_pos (by omega)]) | (rw [if_neg (by omega), if_neg (by omega)])
 clear hf; intro hc2 a hf
 refine aN hf hS ?_; clear hf; intro a hf
 refine done_l (t_normal ?_)
 refine c_false hf rfl ?_
 refine c_region ?_
 refine sB hf hS (rd_eql hf rfl rfl rfl) ?_ ?_
 ·
  clear hf; intro hc3 a hf
  refine aN hf hS ?_; clear hf; intro a hf
  refine done_l (t_normal ?_)
  refine c_true hf rfl ?_
  refine c_seq (c_region ?_)
  iterate 2 (refine aN hf hS ?_; clear hf; intro a hf)
  refine done_l (t_normal (c_ret (b_ret (t_ret ?_))))
  refine e_resN hf.defers rfl (res_tmp hf rfl (res_tmp hf rfl .nil)) ?_
  refine ⟨?_, hS.subA⟩
  clear hf hS
  unfold leastP mostP
  first | (rw [if_pos (by omega), if_pos (by omega)]) | (rw [if_neg (by omega), if_pos (by omega)]) | (rw [if_neg (by omega), if_neg (by omega)])
 clear hf; intro hc3 a hf
 refine aN hf hS ?_; clear hf; intro a hf
 refine done_l (t_normal ?_)
 refine c_false hf rfl ?_
 refine c_skip (b_normal (t_normal (c_seq (c_region ?_))))
 iterate 2 (refine aN hf hS ?_; clear hf; intro a hf)
 refine done_l (t_normal (c_ret ?_))
 refine e_resN hf.defers rfl (res_tmp hf rfl (res_tmp hf rfl .nil)) ?_
 refine ⟨?_, hS.subA⟩
 clear hf hS
 unfold leastP mostP
 first | (rw [if_pos (by omega), if_pos (by omega)]) | (rw [if_neg (by omega), if_pos (by omega)]) | (rw [if_neg (by omega), if_neg (by omega)])

theorem KMay_c (ky : List UInt8) {W : World} {R : List HP} {w : World} (hS : Sat W (R) w)  : Calls Tryz.prog 87 [.string (str ky)].toArray w (Ret fun v w' => v = .bool (mayKey ky) ∧ Sat W R w') := by
 refine fn_start 11 Tryz.func87 rfl rfl rfl ?_
 intro a hf
 refine c_seq (c_region ?_)
 refine aN hf hS ?_; clear hf; intro a hf
 refine done_l (t_normal (c_seq (c_region ?_)))
 refine mN hf hS ?_; clear hf; intro a hf
 refine sR hf hS (rd_lenS hf rfl rfl Tryz.underlying9) ?_; clear hf; intro a hf
 refine sB hf hS (rd_geq hf rfl rfl rfl) ?_ ?_
 ·
  clear hf; intro hc1 a hf
  iterate 2 ((first | refine mN hf hS ?_ | refine step_l (st_rd hf (Wn.some hf rfl rfl rfl rfl) (rd_move hf rfl rfl) hS rfl rfl ?_)); clear hf; intro a hf)
  refine sG hf hS (rd_lenS hf rfl rfl Tryz.underlying9) ?_; clear hf; intro a hf
  refine sG hf hS (rd_leq hf rfl rfl rfl) ?_; clear hf; intro a hf
  iterate 2 ((first | refine aN hf hS ?_ | refine pT hf hS ?_); clear hf; intro a hf)
  refine done_l (t_normal (c_ret ?_))
  refine eT hf ?_
  refine ⟨congrArg Value.bool ?_, hS.subA⟩
  clear hf hS
  unfold mayKey
  first | exact (decide_eq_false (by omega)).symm | exact decide_eq_decide.2 (by omega)
 clear hf; intro hc1 a hf
 iterate 6 ((first | refine kS hf ?_ | refine mN hf hS ?_ | refine aN hf hS ?_ | refine pF hf hS ?_); clear hf; intro a hf)
 refine done_l (t_normal (c_ret ?_))
 refine eT hf ?_
 refine ⟨congrArg Value.bool ?_, hS.subA⟩
 clear hf hS
 unfold mayKey
 first | exact (decide_eq_false (by omega)).symm | exact decide_eq_decide.2 (by omega)

theorem MMay_c (dn dc : Int) {W : World} {R : List HP} {w : World} (hS : Sat W (R) w)  : Calls Tryz.prog 69 [.agg #[.int .i64 dn, .int .i64 dc]].toArray w (Ret fun v w' => v = .bool (mayMem (dn, dc)) ∧ Sat W R w') := by
 refine fn_start 21 Tryz.func69 rfl rfl rfl ?_
 intro a hf
 refine c_seq (c_region ?_)
 refine step_l (st_box hf (Wn.none rfl) hS rfl rfl (by rfl) rfl rfl ?_)
 clear hf hS; intro b_1 a w hf hS
 refine aN hf hS ?_; clear hf; intro a hf
 refine done_l (t_normal (c_seq (c_region ?_)))
 refine fA hf hS fb73_0 ?_; clear hf; intro a hf
 refine sR hf hS (rd_ld hf ag3) ?_; clear hf; intro a hf
 refine sB hf hS (rd_geq hf rfl rfl rfl) ?_ ?_
 ·
  clear hf; intro hc2 a hf
  refine mN hf hS ?_; clear hf; intro a hf
  refine fG hf hS fb73_0 ?_; clear hf; intro a hf
  refine sG hf hS (rd_ld hf ag3) ?_; clear hf; intro a hf
  refine step_l (st_rdB hf (Wn.some hf rfl rfl rfl rfl) (rd_leq hf rfl rfl rfl) hS rfl rfl ?_ ?_)
  ·
   clear hf; intro hc3 a hf
   iterate 2 ((first | refine mN hf hS ?_ | refine pT hf hS ?_); clear hf; intro a hf)
   refine fG hf hS fb73_1 ?_; clear hf; intro a hf
   refine sG hf hS (rd_ld hf ag2) ?_; clear hf; intro a hf
   refine step_l (st_rdB hf (Wn.some hf rfl rfl rfl rfl) (rd_geq hf rfl rfl rfl) hS rfl rfl ?_ ?_)
   ·
    clear hf; intro hc4 a hf
    iterate 2 ((first | refine mN hf hS ?_ | refine pT hf hS ?_); clear hf; intro a hf)
    refine fG hf hS fb73_1 ?_; clear hf; intro a hf
    refine sG hf hS (rd_ld hf ag2) ?_; clear hf; intro a hf
    refine sG hf hS (rd_leq hf rfl rfl rfl) ?_; clear hf; intro a hf
    iterate 2 ((first | refine aN hf hS ?_ | refine pT hf hS ?_); clear hf; intro a hf)
    refine done_l (t_normal (c_ret ?_))
    refine eT hf ?_
    refine ⟨congrArg Value.bool ?_, hS.subA⟩
    clear hf hS
    unfold mayMem; dsimp only
    first | exact (decide_eq_false (by omega)).symm | exact decide_eq_decide.2 (by omega)
   clear hf; intro hc4 a hf
   iterate 7 ((first | refine kS hf ?_ | refine mN hf hS ?_ | refine aN hf hS ?_ | refine pT hf hS ?_ | refine pF hf hS ?_); clear hf; intro a hf)
   refine done_l (t_normal (c_ret ?_))
   refine eT hf ?_
   refine ⟨congrArg Value.bool ?_, hS.subA⟩
   clear hf hS
   unfold mayMem; dsimp only
   first | exact (decide_eq_false (by omega)).symm | exact decide_eq_decide.2 (by omega)
  clear hf; intro hc3 a hf
  iterate 12 ((first | refine kS hf ?_ | refine mN hf hS ?_ | refine aN hf hS ?_ | refine pT hf hS ?_ | refine pF hf hS ?_); clear hf; intro a hf)
  refine done_l (t_normal (c_ret ?_))
  refine eT hf ?_
  refine ⟨congrArg Value.bool ?_, hS.subA⟩
  clear hf hS
  unfold mayMem; dsimp only
  first | exact (decide_eq_false (by omega)).symm | exact decide_eq_decide.2 (by omega)
 clear hf; intro hc2 a hf
 iterate 16 ((first | refine kS hf ?_ | refine mN hf hS ?_ | refine aN hf hS ?_ | refine pF hf hS ?_); clear hf; intro a hf)
 refine done_l (t_normal (c_ret ?_))
 refine eT hf ?_
 refine ⟨congrArg Value.bool ?_, hS.subA⟩
 clear hf hS
 unfold mayMem; dsimp only
 first | exact (decide_eq_false (by omega)).symm | exact decide_eq_decide.2 (by omega)

theorem CIN_c (x : Int) {W : World} {R : List HP} {w : World} (hS : Sat W (R) w)  : Calls Tryz.prog 112 [.int .i64 x].toArray w (Ret fun v w' => v = .bool false ∧ Sat W R w') := by
 refine fn_start 6 Tryz.func112 rfl rfl rfl ?_
 intro a hf
 refine c_seq (c_region ?_)
 refine aN hf hS ?_; clear hf; intro a hf
 refine done_l (t_normal (c_seq (c_region ?_)))
 iterate 2 (refine mN hf hS ?_; clear hf; intro a hf)
 refine sR hf hS (rd_neq hf rfl rfl rfl) ?_; clear hf; intro a hf
 refine aN hf hS ?_; clear hf; intro a hf
 refine done_l (t_normal (c_ret ?_))
 refine eT hf ?_
 refine ⟨congrArg Value.bool ?_, hS.subA⟩
 clear hf hS
 first | exact decide_eq_false (fun h => h rfl)

theorem CI_c (x y : Int) {W : World} {R : List HP} {w : World} (hS : Sat W (R) w)  : Calls Tryz.prog 105 [.int .i64 x, .int .i64 y].toArray w (Ret fun v w' => v = .int .i64 (cmpI x y) ∧ Sat W R w') := by
 refine fn_start 20 Tryz.func105 rfl rfl rfl ?_
 intro a hf
 refine c_seq (c_region ?_)
 refine aN hf hS ?_; clear hf; intro a hf
 refine done_l (t_normal (c_seq (c_region ?_)))
 refine mN hf hS ?_; clear hf; intro a hf
 refine step_l (st_call hf (Wn.none rfl) rfl rfl rfl fn112 (CIN_c _ hS) rfl rfl ?_)
 clear hf hS; rintro v a w ⟨rfl, hS⟩ hf
 first | refine split_dec (d := 8) hf rfl ?_ ?_ | refine split_bool (d := 8) hf rfl ?_ ?_
 ·
  clear hf; intro hc1 hf
  first
  | (first | exact Bool.noConfusion hc1; done)
  | (
   refine aN hf hS ?_; clear hf; intro a hf
   refine done_l (t_normal (c_seq (c_region ?_)))
   refine mN hf hS ?_; clear hf; intro a hf
   refine step_l (st_call hf (Wn.none rfl) rfl rfl rfl fn112 (CIN_c _ hS) rfl rfl ?_)
   clear hf hS; rintro v a w ⟨rfl, hS⟩ hf
   first | refine split_dec (d := 10) hf rfl ?_ ?_ | refine split_bool (d := 10) hf rfl ?_ ?_
   ·
    clear hf; intro hc2 hf
    first
    | (first | exact Bool.noConfusion hc2; done)
    | (
     refine aN hf hS ?_; clear hf; intro a hf
     refine done_l (t_normal (c_seq (c_seq (c_region ?_))))
     refine mN hf hS ?_; clear hf; intro a hf
     refine done_l (t_normal ?_)
     refine c_true hf rfl ?_
     refine c_seq (c_seq (c_region ?_))
     refine mN hf hS ?_; clear hf; intro a hf
     refine done_l (t_normal ?_)
     refine c_true hf rfl ?_
     refine c_seq (c_region ?_)
     refine aN hf hS ?_; clear hf; intro a hf
     refine done_l (t_normal (c_ret (t_ret (t_ret ?_))))
     refine eT hf ?_
     refine ⟨int_eq ?_, hS.subA⟩
     clear hf hS
     unfold cmpI
     first | (rw [if_pos (by omega)]) | (rw [if_neg (by omega), if_pos (by omega)]) | (rw [if_neg (by omega), if_neg (by omega)])
     )
   clear hf; intro hc2 hf
   first
   | (first | exact Bool.noConfusion hc2; done)
   | (
    refine aN hf hS ?_; clear hf; intro a hf
    refine done_l (t_normal (c_seq (c_seq (c_region ?_))))
    refine mN hf hS ?_; clear hf; intro a hf
    refine done_l (t_normal ?_)
    refine c_true hf rfl ?_
    refine c_seq (c_seq (c_region ?_))
    refine mN hf hS ?_; clear hf; intro a hf
    refine done_l (t_normal ?_)
    refine c_false hf rfl ?_
    refine c_skip (t_normal (c_seq (c_region ?_)))
    refine aN hf hS ?_; clear hf; intro a hf
    refine done_l (t_normal (c_ret (t_ret ?_)))
    refine eT hf ?_
    refine ⟨int_eq ?_, hS.subA⟩
    clear hf hS
    unfold cmpI
    first | (rw [if_pos (by omega)]) | (rw [if_neg (by omega), if_pos (by omega)]) | (rw [if_neg (by omega), if_neg (by omega)])
    )
   )
 clear hf; intro hc1 hf
 first
 | (first | exact Bool.noConfusion hc1; done)
 | (
  refine aN hf hS ?_; clear hf; intro a hf
  refine done_l (t_normal (c_seq (c_region ?_)))
  refine mN hf hS ?_; clear hf; intro a hf
  refine step_l (st_call hf (Wn.none rfl) rfl rfl rfl fn112 (CIN_c _ hS) rfl rfl ?_)
  clear hf hS; rintro v a w ⟨rfl, hS⟩ hf
  first | refine split_dec (d := 10) hf rfl ?_ ?_ | refine split_bool (d := 10) hf rfl ?_ ?_
  ·
   clear hf; intro hc3 hf
   first
   | (first | exact Bool.noConfusion hc3; done)
   | (
    refine aN hf hS ?_; clear hf; intro a hf
    refine done_l (t_normal (c_seq (c_seq (c_region ?_))))
    refine mN hf hS ?_; clear hf; intro a hf
    refine done_l (t_normal ?_)
    refine c_false hf rfl ?_
    refine c_skip (t_normal (c_seq (c_seq (c_region ?_))))
    refine mN hf hS ?_; clear hf; intro a hf
    refine done_l (t_normal ?_)
    refine c_true hf rfl ?_
    refine c_seq (c_region ?_)
    refine aN hf hS ?_; clear hf; intro a hf
    refine done_l (t_normal (c_ret (t_ret ?_)))
    refine eT hf ?_
    refine ⟨int_eq ?_, hS.subA⟩
    clear hf hS
    unfold cmpI
    first | (rw [if_pos (by omega)]) | (rw [if_neg (by omega), if_pos (by omega)]) | (rw [if_neg (by omega), if_neg (by omega)])
    )
  clear hf; intro hc3 hf
  first
  | (first | exact Bool.noConfusion hc3; done)
  | (
   refine aN hf hS ?_; clear hf; intro a hf
   refine done_l (t_normal (c_seq (c_seq (c_region ?_))))
   refine mN hf hS ?_; clear hf; intro a hf
   refine done_l (t_normal ?_)
   refine c_false hf rfl ?_
   refine c_skip (t_normal (c_seq (c_seq (c_region ?_))))
   refine mN hf hS ?_; clear hf; intro a hf
   refine done_l (t_normal ?_)
   refine c_false hf rfl ?_
   refine c_skip (t_normal (c_seq (c_seq (c_region ?_))))
   iterate 2 (refine mN hf hS ?_; clear hf; intro a hf)
   refine sB hf hS (rd_lss hf rfl rfl rfl) ?_ ?_
   ·
    clear hf; intro hc4 a hf
    first
    | (first | exact Bool.noConfusion hc4; done)
    | (
     refine done_l (t_normal ?_)
     refine c_true hf rfl ?_
     refine c_seq (c_region ?_)
     refine aN hf hS ?_; clear hf; intro a hf
     refine done_l (t_normal (c_ret (t_ret ?_)))
     refine eT hf ?_
     refine ⟨int_eq ?_, hS.subA⟩
     clear hf hS
     unfold cmpI
     first | (rw [if_pos (by omega)]) | (rw [if_neg (by omega), if_pos (by omega)]) | (rw [if_neg (by omega), if_neg (by omega)])
     )
   clear hf; intro hc4 a hf
   first
   | (first | exact Bool.noConfusion hc4; done)
   | (
    refine done_l (t_normal ?_)
    refine c_false hf rfl ?_
    refine c_skip (t_normal (c_seq (c_seq (c_region ?_))))
    iterate 2 (refine mN hf hS ?_; clear hf; intro a hf)
    refine sB hf hS (rd_gtr hf rfl rfl rfl) ?_ ?_
    ·
     clear hf; intro hc5 a hf
     first
     | (first | exact Bool.noConfusion hc5; done)
     | (
      refine done_l (t_normal ?_)
      refine c_true hf rfl ?_
      refine c_seq (c_region ?_)
      refine aN hf hS ?_; clear hf; intro a hf
      refine done_l (t_normal (c_ret (t_ret ?_)))
      refine eT hf ?_
      refine ⟨int_eq ?_, hS.subA⟩
      clear hf hS
      unfold cmpI
      first | (rw [if_pos (by omega)]) | (rw [if_neg (by omega), if_pos (by omega)]) | (rw [if_neg (by omega), if_neg (by omega)])
      )
    clear hf; intro hc5 a hf
    first
    | (first | exact Bool.noConfusion hc5; done)
    | (
     refine done_l (t_normal ?_)
     refine c_false hf rfl ?_
     refine c_skip (t_normal (c_seq (c_region ?_)))
     refine aN hf hS ?_; clear hf; intro a hf
     refine done_l (t_normal (c_ret ?_))
     refine eT hf ?_
     refine ⟨int_eq ?_, hS.subA⟩
     clear hf hS
     unfold cmpI
     first | (rw [if_pos (by omega)]) | (rw [if_neg (by omega), if_pos (by omega)]) | (rw [if_neg (by omega), if_neg (by omega)])
     )
    )
   )
  )

theorem CLN_c (x : Int) {W : World} {R : List HP} {w : World} (hS : Sat W (R) w)  : Calls Tryz.prog 113 [.int .i64 x].toArray w (Ret fun v w' => v = .bool false ∧ Sat W R w') := by
 refine fn_start 6 Tryz.func113 rfl rfl rfl ?_
 intro a hf
 refine c_seq (c_region ?_)
 refine aN hf hS ?_; clear hf; intro a hf
 refine done_l (t_normal (c_seq (c_region ?_)))
 iterate 2 (refine mN hf hS ?_; clear hf; intro a hf)
 refine sR hf hS (rd_neq hf rfl rfl rfl) ?_; clear hf; intro a hf
 refine aN hf hS ?_; clear hf; intro a hf
 refine done_l (t_normal (c_ret ?_))
 refine eT hf ?_
 refine ⟨congrArg Value.bool ?_, hS.subA⟩
 clear hf hS
 first | exact decide_eq_false (fun h => h rfl)

theorem CL_c (x y : Int) {W : World} {R : List HP} {w : World} (hS : Sat W (R) w)  : Calls Tryz.prog 106 [.int .i64 x, .int .i64 y].toArray w (Ret fun v w' => v = .int .i64 (cmpI x y) ∧ Sat W R w') := by
 refine fn_start 20 Tryz.func106 rfl rfl rfl ?_
 intro a hf
 refine c_seq (c_region ?_)
 refine aN hf hS ?_; clear hf; intro a hf
 refine done_l (t_normal (c_seq (c_region ?_)))
 refine mN hf hS ?_; clear hf; intro a hf
 refine step_l (st_call hf (Wn.none rfl) rfl rfl rfl fn113 (CLN_c _ hS) rfl rfl ?_)
 clear hf hS; rintro v a w ⟨rfl, hS⟩ hf
 first | refine split_dec (d := 8) hf rfl ?_ ?_ | refine split_bool (d := 8) hf rfl ?_ ?_
 ·
  clear hf; intro hc1 hf
  first
  | (first | exact Bool.noConfusion hc1; done)
  | (
   refine aN hf hS ?_; clear hf; intro a hf
   refine done_l (t_normal (c_seq (c_region ?_)))
   refine mN hf hS ?_; clear hf; intro a hf
   refine step_l (st_call hf (Wn.none rfl) rfl rfl rfl fn113 (CLN_c _ hS) rfl rfl ?_)
   clear hf hS; rintro v a w ⟨rfl, hS⟩ hf
   first | refine split_dec (d := 10) hf rfl ?_ ?_ | refine split_bool (d := 10) hf rfl ?_ ?_
   ·
    clear hf; intro hc2 hf
    first
    | (first | exact Bool.noConfusion hc2; done)
    | (
     refine aN hf hS ?_; clear hf; intro a hf
     refine done_l (t_normal (c_seq (c_seq (c_region ?_))))
     refine mN hf hS ?_; clear hf; intro a hf
     refine done_l (t_normal ?_)
     refine c_true hf rfl ?_
     refine c_seq (c_seq (c_region ?_))
     refine mN hf hS ?_; clear hf; intro a hf
     refine done_l (t_normal ?_)
     refine c_true hf rfl ?_
     refine c_seq (c_region ?_)
     refine aN hf hS ?_; clear hf; intro a hf
     refine done_l (t_normal (c_ret (t_ret (t_ret ?_))))
     refine eT hf ?_
     refine ⟨int_eq ?_, hS.subA⟩
     clear hf hS
     unfold cmpI
     first | (rw [if_pos (by omega)]) | (rw [if_neg (by omega), if_pos (by omega)]) | (rw [if_neg (by omega), if_neg (by omega)])
     )
   clear hf; intro hc2 hf
   first
   | (first | exact Bool.noConfusion hc2; done)
   | (
    refine aN hf hS ?_; clear hf; intro a hf
    refine done_l (t_normal (c_seq (c_seq (c_region ?_))))
    refine mN hf hS ?_; clear hf; intro a hf
    refine done_l (t_normal ?_)
    refine c_true hf rfl ?_
    refine c_seq (c_seq (c_region ?_))
    refine mN hf hS ?_; clear hf; intro a hf
    refine done_l (t_normal ?_)
    refine c_false hf rfl ?_
    refine c_skip (t_normal (c_seq (c_region ?_)))
    refine aN hf hS ?_; clear hf; intro a hf
    refine done_l (t_normal (c_ret (t_ret ?_)))
    refine eT hf ?_
    refine ⟨int_eq ?_, hS.subA⟩
    clear hf hS
    unfold cmpI
    first | (rw [if_pos (by omega)]) | (rw [if_neg (by omega), if_pos (by omega)]) | (rw [if_neg (by omega), if_neg (by omega)])
    )
   )
 clear hf; intro hc1 hf
 first
 | (first | exact Bool.noConfusion hc1; done)
 | (
  refine aN hf hS ?_; clear hf; intro a hf
  refine done_l (t_normal (c_seq (c_region ?_)))
  refine mN hf hS ?_; clear hf; intro a hf
  refine step_l (st_call hf (Wn.none rfl) rfl rfl rfl fn113 (CLN_c _ hS) rfl rfl ?_)
  clear hf hS; rintro v a w ⟨rfl, hS⟩ hf
  first | refine split_dec (d := 10) hf rfl ?_ ?_ | refine split_bool (d := 10) hf rfl ?_ ?_
  ·
   clear hf; intro hc3 hf
   first
   | (first | exact Bool.noConfusion hc3; done)
   | (
    refine aN hf hS ?_; clear hf; intro a hf
    refine done_l (t_normal (c_seq (c_seq (c_region ?_))))
    refine mN hf hS ?_; clear hf; intro a hf
    refine done_l (t_normal ?_)
    refine c_false hf rfl ?_
    refine c_skip (t_normal (c_seq (c_seq (c_region ?_))))
    refine mN hf hS ?_; clear hf; intro a hf
    refine done_l (t_normal ?_)
    refine c_true hf rfl ?_
    refine c_seq (c_region ?_)
    refine aN hf hS ?_; clear hf; intro a hf
    refine done_l (t_normal (c_ret (t_ret ?_)))
    refine eT hf ?_
    refine ⟨int_eq ?_, hS.subA⟩
    clear hf hS
    unfold cmpI
    first | (rw [if_pos (by omega)]) | (rw [if_neg (by omega), if_pos (by omega)]) | (rw [if_neg (by omega), if_neg (by omega)])
    )
  clear hf; intro hc3 hf
  first
  | (first | exact Bool.noConfusion hc3; done)
  | (
   refine aN hf hS ?_; clear hf; intro a hf
   refine done_l (t_normal (c_seq (c_seq (c_region ?_))))
   refine mN hf hS ?_; clear hf; intro a hf
   refine done_l (t_normal ?_)
   refine c_false hf rfl ?_
   refine c_skip (t_normal (c_seq (c_seq (c_region ?_))))
   refine mN hf hS ?_; clear hf; intro a hf
   refine done_l (t_normal ?_)
   refine c_false hf rfl ?_
   refine c_skip (t_normal (c_seq (c_seq (c_region ?_))))
   iterate 2 (refine mN hf hS ?_; clear hf; intro a hf)
   refine sB hf hS (rd_lss hf rfl rfl rfl) ?_ ?_
   ·
    clear hf; intro hc4 a hf
    first
    | (first | exact Bool.noConfusion hc4; done)
    | (
     refine done_l (t_normal ?_)
     refine c_true hf rfl ?_
     refine c_seq (c_region ?_)
     refine aN hf hS ?_; clear hf; intro a hf
     refine done_l (t_normal (c_ret (t_ret ?_)))
     refine eT hf ?_
     refine ⟨int_eq ?_, hS.subA⟩
     clear hf hS
     unfold cmpI
     first | (rw [if_pos (by omega)]) | (rw [if_neg (by omega), if_pos (by omega)]) | (rw [if_neg (by omega), if_neg (by omega)])
     )
   clear hf; intro hc4 a hf
   first
   | (first | exact Bool.noConfusion hc4; done)
   | (
    refine done_l (t_normal ?_)
    refine c_false hf rfl ?_
    refine c_skip (t_normal (c_seq (c_seq (c_region ?_))))
    iterate 2 (refine mN hf hS ?_; clear hf; intro a hf)
    refine sB hf hS (rd_gtr hf rfl rfl rfl) ?_ ?_
    ·
     clear hf; intro hc5 a hf
     first
     | (first | exact Bool.noConfusion hc5; done)
     | (
      refine done_l (t_normal ?_)
      refine c_true hf rfl ?_
      refine c_seq (c_region ?_)
      refine aN hf hS ?_; clear hf; intro a hf
      refine done_l (t_normal (c_ret (t_ret ?_)))
      refine eT hf ?_
      refine ⟨int_eq ?_, hS.subA⟩
      clear hf hS
      unfold cmpI
      first | (rw [if_pos (by omega)]) | (rw [if_neg (by omega), if_pos (by omega)]) | (rw [if_neg (by omega), if_neg (by omega)])
      )
    clear hf; intro hc5 a hf
    first
    | (first | exact Bool.noConfusion hc5; done)
    | (
     refine done_l (t_normal ?_)
     refine c_false hf rfl ?_
     refine c_skip (t_normal (c_seq (c_region ?_)))
     refine aN hf hS ?_; clear hf; intro a hf
     refine done_l (t_normal (c_ret ?_))
     refine eT hf ?_
     refine ⟨int_eq ?_, hS.subA⟩
     clear hf hS
     unfold cmpI
     first | (rw [if_pos (by omega)]) | (rw [if_neg (by omega), if_pos (by omega)]) | (rw [if_neg (by omega), if_neg (by omega)])
     )
    )
   )
  )

theorem COr_c (x y : Int) (q : Option Addr) (c : Nat) {W : World} {R : List HP} {w : World} (hS : Sat W (R) w) (hv : ∀ w, Sat W R w → SlAt w q 2 1 [.int .i64 x, .int .i64 y]) : Calls Tryz.prog 104 [.slice q 2 c].toArray w (Ret fun v w' => v = .int .i64 (if x = 0 then y else x) ∧ Sat W R w') := by
 refine fn_start 18 Tryz.func104 rfl rfl rfl ?_
 intro a hf
 refine c_seq (c_region ?_)
 refine aN hf hS ?_; clear hf; intro a hf
 refine done_l (t_normal (c_seq (c_region ?_)))
 refine aN hf hS ?_; clear hf; intro a hf
 refine done_l (t_normal (c_seq (c_seq (c_region ?_))))
 refine mN hf hS ?_; clear hf; intro a hf
 refine sR hf hS (rd_len hf rfl rfl Tryz.underlying149) ?_; clear hf; intro a hf
 refine mN hf hS ?_; clear hf; intro a hf
 refine done_l (t_normal (c_block ?_))
 have hk0 := Keep.ofA hf [(2, 2), (5, 5), (8, 16)]
 refine c_loopK hk0 (α := Nat) (fun k => [(8, .int .i64 (k : Nat))]) (fun k w => Sat W (R) w ∧ k ≤ 2 ∧ (1 ≤ k → x = 0) ∧ (2 ≤ k → y = 0)) (fun k => 2 - k) 0 ((hf.keep hk0).kb hf 8 rfl (by first | rfl | exact int_eq (by omega))) ⟨hS.subA, ⟨by omega, by omega, by omega⟩⟩ ?_
 clear hf hS; rintro k a w hf ⟨hS, ⟨hk, hx0, hy0⟩⟩; (try dsimp only [List.cons_append, List.nil_append] at hf)
 refine c_seq (c_region ?_)
 refine sB hf hS (rd_lss hf rfl rfl rfl) ?_ ?_
 ·
  clear hf; intro hc1 a hf
  obtain ⟨n, hget⟩ := get_of_lt (l := [x, y]) (k := k) (by simp; omega) rfl; have hxy := two_get hget; obtain ⟨ad, rfl⟩ := (hv _ (hS.subA)).some (by omega)
  refine done_l (t_normal (c_seq ?_))
  refine c_true hf rfl ?_
  refine c_skip (t_normal (c_seq (c_block (c_seq (c_region ?_)))))
  refine sR hf hS ((by first | exact rd_indexAddrN1 hf rfl rfl rfl Tryz.underlying149 sz3 (by omega) | exact rd_indexAddr hf rfl rfl rfl Tryz.underlying149 sz3 (by first | decide | omega) (by omega))) ?_; clear hf; intro a hf
  refine sR hf hS (rd_load1 hf rfl rfl ag3 (by intro _ h; exact (hv _ (h.subA)).get (i64s_get hget))) ?_; clear hf; intro a hf
  refine aN hf hS ?_; clear hf; intro a hf
  refine done_l (t_normal (c_seq (c_region ?_)))
  iterate 2 (refine mN hf hS ?_; clear hf; intro a hf)
  refine sB hf hS (rd_neq hf rfl rfl rfl) ?_ ?_
  ·
   clear hf; intro hc2 a hf
   refine done_l (t_normal ?_)
   refine c_true hf rfl ?_
   refine c_seq (c_region ?_)
   iterate 2 ((first | refine mN hf hS ?_ | refine aN hf hS ?_); clear hf; intro a hf)
   refine done_l (t_normal (c_ret (b_ret (t_ret (t_ret (b_ret (t_ret ?_)))))))
   refine eT hf ?_
   refine ⟨int_eq ?_, hS.subA⟩
   clear hf hS
   rcases hxy with ⟨_, rfl⟩ | ⟨_, rfl⟩
   ·
    exact (if_neg (by assumption)).symm
   ·
    exact (if_pos (hx0 (by omega))).symm
  clear hf; intro hc2 a hf
  have hn0 : n = 0 := Classical.not_not.1 hc2
  refine done_l (t_normal ?_)
  refine c_false hf rfl ?_
  refine c_skip (b_normal (t_normal (c_region ?_)))
  refine sP hf hS ?_; clear hf; intro a hf
  refine mN hf hS ?_; clear hf; intro a hf
  refine done_l ?_
  refine t_normal ⟨k + 1, ((hf.backA hk0).kb hf 8 rfl (by first | rfl | exact int_eq (by omega))), ⟨hS.subA, ⟨by omega, by omega, by omega⟩⟩, by first | omega | (simp only []; omega)⟩
 clear hf; intro hc1 a hf
 refine done_l (t_normal (c_seq ?_))
 refine c_false hf rfl ?_
 refine c_exit (t_exit (t_exit (b_exit (t_normal (c_seq (c_region ?_))))))
 iterate 2 ((first | refine mN hf hS ?_ | refine aN hf hS ?_); clear hf; intro a hf)
 refine done_l (t_normal (c_ret ?_))
 refine eT hf ?_
 refine ⟨int_eq ?_, hS.subA⟩
 clear hf hS
 rw [if_pos (hx0 (by omega)), hy0 (by omega)]

theorem VLess_c (dn dc en ec : Int) {W : World} {R : List HP} {w : World} (hS : Sat W (R) w)  : Calls Tryz.prog 90 [.agg #[.int .i64 dn, .int .i64 dc], .agg #[.int .i64 en, .int .i64 ec]].toArray w (Ret fun v w' => v = .bool (dless (dn, dc) (en, ec)) ∧ Sat W R w') := by
 refine fn_start 18 Tryz.func90 rfl rfl rfl ?_
 intro a hf
 refine c_seq (c_region ?_)
 refine step_l (st_box hf (Wn.none rfl) hS rfl rfl (by rfl) rfl rfl ?_)
 clear hf hS; intro b_1 a w hf hS
 refine step_l (st_box hf (Wn.none rfl) hS rfl rfl (by rfl) rfl rfl ?_)
 clear hf hS; intro b_2 a w hf hS
 refine aN hf hS ?_; clear hf; intro a hf
 refine done_l (t_normal (c_seq ?_))
 refine any_begin mixed hS.drew ?_
 replace hS := hS.drew
 have hT := hS
 refine any_takeA (i := 0) hf rfl (Wn.none rfl) (rd_fieldAddrB hf rfl rfl fb87_0 rfl) hT rfl rfl ?_; clear hf; intro a hf
 refine any_takeA (i := 1) hf rfl (Wn.none rfl) (rd_ld hf ag3) hT rfl rfl ?_; clear hf; intro a hf
 refine any_takeA (i := 2) hf rfl (Wn.none rfl) (rd_fieldAddrB hf rfl rfl fb87_0 rfl) hT rfl rfl ?_; clear hf; intro a hf
 refine any_takeA (i := 3) hf rfl (Wn.none rfl) (rd_ld hf ag3) hT rfl rfl ?_; clear hf; intro a hf
 refine any_takeA (i := 5) hf rfl (Wn.none rfl) (rd_fieldAddrB hf rfl rfl fb87_1 rfl) hT rfl rfl ?_; clear hf; intro a hf
 refine any_takeA (i := 6) hf rfl (Wn.none rfl) (rd_ld hf ag2) hT rfl rfl ?_; clear hf; intro a hf
 refine any_takeA (i := 7) hf rfl (Wn.none rfl) (rd_fieldAddrB hf rfl rfl fb87_1 rfl) hT rfl rfl ?_; clear hf; intro a hf
 refine any_takeA (i := 8) hf rfl (Wn.none rfl) (rd_ld hf ag2) hT rfl rfl ?_; clear hf; intro a hf
 refine any_one (i := 4) rfl (by kernel_rfl) (st_call hf (Wn.none rfl) rfl rfl rfl fn105 (CI_c _ _ hS) rfl rfl ?_)
 clear hf hS; rintro v a w ⟨rfl, hS⟩ hf
 replace hT := hS.subA' hT
 refine ⟨hT, ?_⟩
 refine any_one (i := 9) rfl (by kernel_rfl) (st_call hf (Wn.none rfl) rfl rfl rfl fn106 (CL_c _ _ hS) rfl rfl ?_)
 clear hf hS; rintro v a w ⟨rfl, hS⟩ hf
 replace hT := hS.subA' hT
 refine ⟨hT, ?_⟩
 refine any_one (i := 10) rfl (by kernel_rfl) (st_buildSlice hf (Wn.none rfl) hS rfl rfl Tryz.underlying149 sz3 zr3 (by decide) bz3_2 rfl (.cons rfl (by first | rfl) (by rfl) (by repeat (first | exact Put.nil | apply Put.cons | apply Put.succ)) (.cons rfl (by first | rfl) (by rfl) (by repeat (first | exact Put.nil | apply Put.cons | apply Put.succ)) .nil)) rfl rfl ?_)
 clear hf hS; intro b_3 a w hf hS
 replace hT := hS.subA' hT
 refine ⟨hT, ?_⟩
 refine any_one (i := 11) rfl (by kernel_rfl) (st_call hf (Wn.none rfl) rfl rfl rfl fn104 (COr_c _ _ _ _ hS (fun _ h => h.slOfBlk (by repeat (first | exact Sel.head | apply Sel.tail)) (by rfl))) rfl rfl ?_)
 clear hf hS; rintro v a w ⟨rfl, hS⟩ hf
 replace hT := hS.subA' hT
 refine ⟨hT, ?_⟩
 refine any_takeA (i := 12) hf rfl (Wn.none rfl) (rd_lss hf rfl rfl rfl) hT rfl rfl ?_; clear hf; intro a hf
 refine any_takeA (i := 13) hf rfl (Wn.none rfl) (rd_assign hf rfl rfl) hT rfl rfl ?_; clear hf; intro a hf
 refine any_done (by kernel_rfl) ?_
 refine t_normal (c_ret ?_)
 refine eT hf ?_
 exact ⟨congrArg Value.bool (cmp_less _ _ _ _), hS.subA⟩

theorem VMay_c (s0 s1 s2 s3 s4 s5 s6 s7 : Int) {W : World} {R : List HP} {w : World} (hS : Sat W (R) w)  : Calls Tryz.prog 88 [.agg #[.int .i64 s0, .int .i64 s1, .int .i64 s2, .int .i64 s3, .int .i64 s4, .int .i64 s5, .int .i64 s6, .int .i64 s7]].toArray w (Ret fun v w' => v = .bool (mayVec [s0, s1, s2, s3, s4, s5, s6, s7]) ∧ Sat W R w') := by
 refine fn_start 16 Tryz.func88 rfl rfl rfl ?_
 intro a hf
 refine c_seq (c_region ?_)
 refine step_l (st_box hf (Wn.none rfl) hS rfl rfl (by rfl) rfl rfl ?_)
 clear hf hS; intro b_1 a w hf hS
 refine aN hf hS ?_; clear hf; intro a hf
 refine done_l (t_normal (c_seq (c_seq (c_region ?_))))
 refine sR hf hS (rd_ldN hf ag53 sz53) ?_; clear hf; intro a hf
 refine mN hf hS ?_; clear hf; intro a hf
 refine done_l (t_normal (c_block ?_))
 have hk0 := Keep.ofA hf [(2, 2), (4, 4), (6, 15)]
 refine c_loopK hk0 (α := Nat) (fun k => [(6, .int .i64 (k : Nat))]) (fun k w => Sat W (R) w ∧ k ≤ 8 ∧ mayVec ([s0, s1, s2, s3, s4, s5, s6, s7].take k) = true) (fun k => 8 - k) 0 ((hf.keep hk0).kb hf 6 rfl (by first | rfl | exact int_eq (by omega))) ⟨hS.subA, ⟨by omega, rfl⟩⟩ ?_
 clear hf hS; rintro k a w hf ⟨hS, ⟨hk, hok⟩⟩; (try dsimp only [List.cons_append, List.nil_append] at hf)
 refine c_seq (c_region ?_)
 refine sB hf hS (rd_lss hf rfl rfl rfl) ?_ ?_
 ·
  clear hf; intro hc2 a hf
  obtain ⟨n, hget⟩ := get_of_lt (l := [s0, s1, s2, s3, s4, s5, s6, s7]) (k := k) (by simp; omega) rfl
  refine done_l (t_normal (c_seq ?_))
  refine c_true hf rfl ?_
  refine c_skip (t_normal (c_seq (c_block (c_seq (c_region ?_)))))
  refine sR hf hS (rd_indexA hf rfl rfl rfl Tryz.underlying53 ag2 sz2 (by omega) (i64s_get hget)) ?_; clear hf; intro a hf
  refine aN hf hS ?_; clear hf; intro a hf
  refine done_l (t_normal (c_seq (c_region ?_)))
  refine mN hf hS ?_; clear hf; intro a hf
  refine sB hf hS (rd_lss hf rfl rfl rfl) ?_ ?_
  ·
   clear hf; intro hc3 a hf
   iterate 4 ((first | refine kS hf ?_ | refine mN hf hS ?_ | refine pT hf hS ?_); clear hf; intro a hf)
   refine done_l (t_normal ?_)
   refine c_true hf rfl ?_
   refine c_seq (c_region ?_)
   refine aN hf hS ?_; clear hf; intro a hf
   refine done_l (t_normal (c_ret (b_ret (t_ret (t_ret (b_ret (t_ret ?_)))))))
   refine eT hf ?_
   refine ⟨congrArg Value.bool ?_, hS.subA⟩
   clear hf hS
   first | exact (all_no hget (decide_eq_false (by omega))).symm | exact hok.symm
  clear hf; intro hc3 a hf
  iterate 2 ((first | refine mN hf hS ?_ | refine step_l (st_rd hf (Wn.some hf rfl rfl rfl rfl) (rd_move hf rfl rfl) hS rfl rfl ?_)); clear hf; intro a hf)
  refine step_l (st_rdB hf (Wn.some hf rfl rfl rfl rfl) (rd_gtr hf rfl rfl rfl) hS rfl rfl ?_ ?_)
  ·
   clear hf; intro hc4 a hf
   refine pF hf hS ?_; clear hf; intro a hf
   refine done_l (t_normal ?_)
   refine c_true hf rfl ?_
   refine c_seq (c_region ?_)
   refine aN hf hS ?_; clear hf; intro a hf
   refine done_l (t_normal (c_ret (b_ret (t_ret (t_ret (b_ret (t_ret ?_)))))))
   refine eT hf ?_
   refine ⟨congrArg Value.bool ?_, hS.subA⟩
   clear hf hS
   first | exact (all_no hget (decide_eq_false (by omega))).symm | exact hok.symm
  clear hf; intro hc4 a hf
  refine pF hf hS ?_; clear hf; intro a hf
  refine done_l (t_normal ?_)
  refine c_false hf rfl ?_
  refine c_skip (b_normal (t_normal (c_region ?_)))
  refine sP hf hS ?_; clear hf; intro a hf
  refine mN hf hS ?_; clear hf; intro a hf
  refine done_l ?_
  refine t_normal ⟨k + 1, ((hf.backA hk0).kb hf 6 rfl (by first | rfl | exact int_eq (by omega))), ⟨hS.subA, ⟨by omega, all_step hget hok (decide_eq_true (by omega))⟩⟩, by first | omega | (simp only []; omega)⟩
 clear hf; intro hc2 a hf
 obtain rfl : k = 8 := by omega
 refine done_l (t_normal (c_seq ?_))
 refine c_false hf rfl ?_
 refine c_exit (t_exit (t_exit (b_exit (t_normal (c_seq (c_region ?_))))))
 refine aN hf hS ?_; clear hf; intro a hf
 refine done_l (t_normal (c_ret ?_))
 refine eT hf ?_
 refine ⟨congrArg Value.bool ?_, hS.subA⟩
 clear hf hS
 first | exact (all_no hget (decide_eq_false (by omega))).symm | exact hok.symm

theorem VCov_c (s0 s1 s2 s3 s4 s5 s6 s7 dn dc : Int) {W : World} {R : List HP} {w : World} (hS : Sat W (R) w)  : Calls Tryz.prog 89 [.agg #[.int .i64 s0, .int .i64 s1, .int .i64 s2, .int .i64 s3, .int .i64 s4, .int .i64 s5, .int .i64 s6, .int .i64 s7], .agg #[.int .i64 dn, .int .i64 dc]].toArray w (Ret fun v w' => v = .bool (covers [s0, s1, s2, s3, s4, s5, s6, s7] (dn, dc)) ∧ Sat W R w') := by
 refine fn_start 22 Tryz.func89 rfl rfl rfl ?_
 intro a hf
 refine c_seq (c_region ?_)
 refine step_l (st_box hf (Wn.none rfl) hS rfl rfl (by rfl) rfl rfl ?_)
 clear hf hS; intro b_1 a w hf hS
 refine step_l (st_box hf (Wn.none rfl) hS rfl rfl (by rfl) rfl rfl ?_)
 clear hf hS; intro b_2 a w hf hS
 refine aN hf hS ?_; clear hf; intro a hf
 refine done_l (t_normal (c_seq ?_))
 refine any_begin mixed hS.drew ?_
 replace hS := hS.drew
 have hT := hS
 refine any_takeA (i := 0) hf rfl (Wn.none rfl) (rd_fieldAddrB hf rfl rfl fb87_0 rfl) hT rfl rfl ?_; clear hf; intro a hf
 refine any_takeA (i := 1) hf rfl (Wn.none rfl) (rd_ld hf ag3) hT rfl rfl ?_; clear hf; intro a hf
 refine any_one (i := 2) rfl (by kernel_rfl) (st_call hf (Wn.none rfl) rfl rfl rfl fn103 (Is_c _ hS) rfl rfl ?_)
 clear hf hS; rintro v a w ⟨rfl, hS⟩ hf
 replace hT := hS.subA' hT
 refine ⟨hT, ?_⟩
 first | refine split_dec (d := 7) hf rfl ?_ ?_ | refine split_bool (d := 7) hf rfl ?_ ?_
 ·
  clear hf; intro hc3 hf
  obtain ⟨hc1, hc2⟩ := hc3; obtain ⟨j, rfl⟩ : ∃ j : Nat, dn = (j : Int) := ⟨dn.toNat, by omega⟩; obtain ⟨m, hget⟩ := get_of_lt (l := [s0, s1, s2, s3, s4, s5, s6, s7]) (k := j) (by simp; omega) rfl
  refine any_takeA (i := 3) hf rfl (Wn.none rfl) (rd_move hf rfl rfl) hT rfl rfl ?_; clear hf; intro a hf
  refine any_takeA (i := 4) hf rfl (Wn.some hf rfl rfl rfl rfl) (rd_fieldAddrB hf rfl rfl fb87_1 rfl) hT rfl rfl ?_; clear hf; intro a hf
  refine any_takeA (i := 5) hf rfl (Wn.some hf rfl rfl rfl rfl) (rd_ld hf ag2) hT rfl rfl ?_; clear hf; intro a hf
  refine any_takeB (i := 6) hf rfl (by kernel_rfl) (by kernel_rfl) (by kernel_rfl) (fun _ _ _ _ h => h) (Wn.some hf rfl rfl rfl rfl) (rd_geq hf rfl rfl rfl) hT rfl rfl ?_ ?_
  ·
   clear hf; intro hc4 a hf
   refine any_takeA (i := 7) hf rfl (Wn.none rfl) (rd_pick_t hf rfl rfl rfl) hT rfl rfl ?_; clear hf; intro a hf
   refine any_takeA (i := 8) hf rfl (Wn.none rfl) (rd_move hf rfl rfl) hT rfl rfl ?_; clear hf; intro a hf
   refine any_takeA (i := 9) hf rfl (Wn.some hf rfl rfl rfl rfl) (rd_fieldAddrB hf rfl rfl fb87_1 rfl) hT rfl rfl ?_; clear hf; intro a hf
   refine any_takeA (i := 10) hf rfl (Wn.some hf rfl rfl rfl rfl) (rd_ld hf ag2) hT rfl rfl ?_; clear hf; intro a hf
   refine any_takeA (i := 11) hf rfl (Wn.some hf rfl rfl rfl rfl) (rd_fieldAddrB hf rfl rfl fb87_0 rfl) hT rfl rfl ?_; clear hf; intro a hf
   refine any_takeA (i := 12) hf rfl (Wn.some hf rfl rfl rfl rfl) (rd_ld hf ag3) hT rfl rfl ?_; clear hf; intro a hf
   refine any_takeA (i := 13) hf rfl (Wn.some hf rfl rfl rfl rfl) (rd_indexAddrA hf rfl rfl rfl Tryz.underlying53 sz2 (by omega)) hT rfl rfl ?_; clear hf; intro a hf
   refine any_takeA (i := 14) hf rfl (Wn.some hf rfl rfl rfl rfl) (rd_load1 hf rfl rfl ag2 (by intro _ h; exact h.cell (by repeat (first | exact Sel.head | apply Sel.tail)) (by rw [Nat.zero_add, Nat.mul_one]; exact i64s_get hget))) hT rfl rfl ?_; clear hf; intro a hf
   refine any_takeA (i := 15) hf rfl (Wn.some hf rfl rfl rfl rfl) (rd_leq hf rfl rfl rfl) hT rfl rfl ?_; clear hf; intro a hf
   refine any_takeA (i := 16) hf rfl (Wn.none rfl) (rd_pick_t hf rfl rfl rfl) hT rfl rfl ?_; clear hf; intro a hf
   refine any_takeA (i := 17) hf rfl (Wn.none rfl) (rd_assign hf rfl rfl) hT rfl rfl ?_; clear hf; intro a hf
   refine any_done (by kernel_rfl) ?_
   refine t_normal (c_ret ?_)
   refine eT hf ?_
   refine ⟨congrArg Value.bool ?_, hS.subA⟩
   clear hf hS
   unfold covers; dsimp only
   first | exact (decide_eq_false (by omega)).symm | (apply decide_eq_decide.2; rw [Int.toNat_natCast, List.getD_eq_getElem?_getD, hget]; dsimp only [Option.getD]; omega)
  clear hf; intro hc4 a hf
  refine any_takeA (i := 7) hf rfl (Wn.none rfl) (rd_pick_t hf rfl rfl rfl) hT rfl rfl ?_; clear hf; intro a hf
  refine any_takeA (i := 8) hf rfl (Wn.none rfl) (rd_move hf rfl rfl) hT rfl rfl ?_; clear hf; intro a hf
  refine yS (i := 9) hf hT ?_; clear hf; intro a hf
  refine yS (i := 10) hf hT ?_; clear hf; intro a hf
  refine yS (i := 11) hf hT ?_; clear hf; intro a hf
  refine yS (i := 12) hf hT ?_; clear hf; intro a hf
  refine yS (i := 13) hf hT ?_; clear hf; intro a hf
  refine yS (i := 14) hf hT ?_; clear hf; intro a hf
  refine yS (i := 15) hf hT ?_; clear hf; intro a hf
  refine any_takeA (i := 16) hf rfl (Wn.none rfl) (rd_pick_f hf rfl rfl rfl) hT rfl rfl ?_; clear hf; intro a hf
  refine any_takeA (i := 17) hf rfl (Wn.none rfl) (rd_assign hf rfl rfl) hT rfl rfl ?_; clear hf; intro a hf
  refine any_done (by kernel_rfl) ?_
  refine t_normal (c_ret ?_)
  refine eT hf ?_
  refine ⟨congrArg Value.bool ?_, hS.subA⟩
  clear hf hS
  unfold covers; dsimp only
  first | exact (decide_eq_false (by omega)).symm | (apply decide_eq_decide.2; rw [Int.toNat_natCast, List.getD_eq_getElem?_getD, hget]; dsimp only [Option.getD]; omega)
 clear hf; intro hc3 hf
 refine any_takeA (i := 3) hf rfl (Wn.none rfl) (rd_move hf rfl rfl) hT rfl rfl ?_; clear hf; intro a hf
 refine yS (i := 4) hf hT ?_; clear hf; intro a hf
 refine yS (i := 5) hf hT ?_; clear hf; intro a hf
 refine yS (i := 6) hf hT ?_; clear hf; intro a hf
 refine any_takeA (i := 7) hf rfl (Wn.none rfl) (rd_pick_f hf rfl rfl rfl) hT rfl rfl ?_; clear hf; intro a hf
 refine any_takeA (i := 8) hf rfl (Wn.none rfl) (rd_move hf rfl rfl) hT rfl rfl ?_; clear hf; intro a hf
 refine yS (i := 9) hf hT ?_; clear hf; intro a hf
 refine yS (i := 10) hf hT ?_; clear hf; intro a hf
 refine yS (i := 11) hf hT ?_; clear hf; intro a hf
 refine yS (i := 12) hf hT ?_; clear hf; intro a hf
 refine yS (i := 13) hf hT ?_; clear hf; intro a hf
 refine yS (i := 14) hf hT ?_; clear hf; intro a hf
 refine yS (i := 15) hf hT ?_; clear hf; intro a hf
 refine any_takeA (i := 16) hf rfl (Wn.none rfl) (rd_pick_f hf rfl rfl rfl) hT rfl rfl ?_; clear hf; intro a hf
 refine any_takeA (i := 17) hf rfl (Wn.none rfl) (rd_assign hf rfl rfl) hT rfl rfl ?_; clear hf; intro a hf
 refine any_done (by kernel_rfl) ?_
 refine t_normal (c_ret ?_)
 refine eT hf ?_
 refine ⟨congrArg Value.bool ?_, hS.subA⟩
 clear hf hS
 unfold covers; dsimp only
 first | exact (decide_eq_false (by omega)).symm | (apply decide_eq_decide.2; rw [Int.toNat_natCast, List.getD_eq_getElem?_getD, hget]; dsimp only [Option.getD]; omega)

theorem MVal_c (dn dc : Int) (bs : List UInt8) (q : Option Addr) (c : Nat) (dead : Bool) {W : World} {R : List HP} {w : World} (hS : Sat W (R) w)  : Calls Tryz.prog 102 [.agg #[.int .i64 dn, .int .i64 dc, .slice q bs.length c, .bool dead]].toArray w (Ret fun v w' => v = .bool (okV ((dn, dc), bs, dead)) ∧ Sat W R w') := by
 refine fn_start 18 Tryz.func102 rfl rfl rfl ?_
 intro a hf
 refine c_seq (c_region ?_)
 refine step_l (st_box hf (Wn.none rfl) hS rfl rfl (by rfl) rfl rfl ?_)
 clear hf hS; intro b_1 a w hf hS
 refine aN hf hS ?_; clear hf; intro a hf
 refine done_l (t_normal (c_seq (c_region ?_)))
 refine fA hf hS fb107_1 ?_; clear hf; intro a hf
 refine sR hf hS (rd_ld hf ag34) ?_; clear hf; intro a hf
 refine sR hf hS (rd_len hf rfl rfl Tryz.underlying34) ?_; clear hf; intro a hf
 refine sB hf hS (rd_leq hf rfl rfl rfl) ?_ ?_
 ·
  clear hf; intro hc2 a hf
  refine mN hf hS ?_; clear hf; intro a hf
  refine fG hf hS fb107_2 ?_; clear hf; intro a hf
  refine step_l (st_rdb hf (Wn.some hf rfl rfl rfl rfl) (rd_ld hf ag4) hS rfl rfl ?_ ?_)
  ·
   clear hf; intro hc3 a hf
   refine sG hf hS (rd_not hf rfl rfl) ?_; clear hf; intro a hf
   refine sG hf hS (rd_move hf rfl rfl) ?_; clear hf; intro a hf
   refine fG hf hS fb107_1 ?_; clear hf; intro a hf
   refine sG hf hS (rd_ld hf ag34) ?_; clear hf; intro a hf
   refine sG hf hS (rd_len hf rfl rfl Tryz.underlying34) ?_; clear hf; intro a hf
   refine sG hf hS (rd_eql hf rfl rfl rfl) ?_; clear hf; intro a hf
   iterate 3 ((first | refine aN hf hS ?_ | refine pT hf hS ?_ | refine step_l (st_rd hf (Wn.some hf rfl rfl rfl rfl) (rd_pick_f hf rfl rfl rfl) hS rfl rfl ?_)); clear hf; intro a hf)
   refine done_l (t_normal (c_ret ?_))
   refine eT hf ?_
   refine ⟨congrArg Value.bool ?_, hS.subA⟩
   clear hf hS
   unfold okV; dsimp only
   first | (by_cases h1 : bs.length ≤ 200 <;> by_cases h2 : bs.length = 0 <;> simp_all <;> omega)
  clear hf; intro hc3 a hf
  refine sG hf hS (rd_not hf rfl rfl) ?_; clear hf; intro a hf
  iterate 8 ((first | refine kS hf ?_ | refine step_l (st_rd hf (Wn.some hf rfl rfl rfl rfl) (rd_move hf rfl rfl) hS rfl rfl ?_) | refine aN hf hS ?_ | refine pT hf hS ?_ | refine step_l (st_rd hf (Wn.some hf rfl rfl rfl rfl) (rd_pick_t hf rfl rfl rfl) hS rfl rfl ?_)); clear hf; intro a hf)
  refine done_l (t_normal (c_ret ?_))
  refine eT hf ?_
  refine ⟨congrArg Value.bool ?_, hS.subA⟩
  clear hf hS
  unfold okV; dsimp only
  first | (by_cases h1 : bs.length ≤ 200 <;> by_cases h2 : bs.length = 0 <;> simp_all <;> omega)
 clear hf; intro hc2 a hf
 iterate 12 ((first | refine kS hf ?_ | refine kU hf ?_ | refine mN hf hS ?_ | refine aN hf hS ?_ | refine pF hf hS ?_); clear hf; intro a hf)
 refine done_l (t_normal (c_ret ?_))
 refine eT hf ?_
 refine ⟨congrArg Value.bool ?_, hS.subA⟩
 clear hf hS
 unfold okV; dsimp only
 first | (by_cases h1 : bs.length ≤ 200 <;> by_cases h2 : bs.length = 0 <;> simp_all <;> omega)

end Go.Proofs.YtcflbdpjoanbgaaGreat
