/-
  Walked: Red.
  Conditions: none.
-/
import Derived.Test.YtcflbdpjoanbgaaGreatRea1
import Derived.Test.YtcflbdpjoanbgaaGreatMs6
namespace Go.Proofs.YtcflbdpjoanbgaaGreat
open Go Go.Sl
set_option linter.unusedVariables false
set_option linter.unusedSimpArgs false

theorem RNumber_c (p : Nat) (s : RS) {W : World} {R : List HP} {w : World} (hS : Sat W (RdP 122 p (s) :: R) w)  : Calls Tryz.prog 77 [.pointer (some ⟨p, 0, none⟩)].toArray w (Ret fun v w' => v = .int .i64 (min ((rNum s).1 : Int) 60000) ∧ Sat W (RdP 122 p ((rNum s).2) :: R) w') := by
 refine fn_start 7 Tryz.func77 rfl rfl rfl ?_
 intro a hf
 have hlt := rNum_lt s
 refine c_seq (c_region ?_)
 refine aN hf hS ?_; clear hf; intro a hf
 refine done_l (t_normal (c_seq (c_region ?_)))
 refine mN hf hS ?_; clear hf; intro a hf
 refine step_l (st_call hf (Wn.none rfl) rfl rfl rfl fn96 (RWNum_c _ _ (hS.selA)) rfl rfl ?_)
 clear hf hS; rintro v a w ⟨rfl, hS⟩ hf
 refine sR hf hS (rd_min hf rfl rfl rfl) ?_; clear hf; intro a hf
 refine sR hf hS (rd_convInt hf rfl rfl Tryz.underlying67 Tryz.underlying3 (Go.IntWalk.i64_in _ (by omega))) ?_; clear hf; intro a hf
 refine aN hf hS ?_; clear hf; intro a hf
 refine done_l (t_normal (c_ret ?_))
 refine eT hf ?_
 exact ⟨rfl, hS.subA⟩

theorem VGood_c (p : Nat) (s : RS) {W : World} {R : List HP} {w : World} (hS : Sat W (RdP 122 p (s) :: R) w) (hI : InvR s) : Calls Tryz.prog 111 [.pointer (some ⟨p, 0, none⟩)].toArray w (Ret fun v w' => v = .bool (decide (s.2 = 0)) ∧ Sat W (RdP 122 p (s) :: R) w') := by
 refine fn_start 11 Tryz.func111 rfl rfl rfl ?_
 intro a hf
 refine c_seq (c_region ?_)
 refine aN hf hS ?_; clear hf; intro a hf
 refine done_l (t_normal (c_seq (c_region ?_)))
 refine mN hf hS ?_; clear hf; intro a hf
 refine step_l (st_call hf (Wn.none rfl) rfl rfl rfl fn45 (RWEnd_c _ _ (hS.selA)) rfl rfl ?_)
 clear hf hS; rintro v a w ⟨rfl, hS⟩ hf
 refine sB hf hS (rd_eql hf rfl rfl rfl) ?_ ?_
 ·
  clear hf; intro hc1 a hf
  have hg := hc1
  iterate 6 ((first | refine kS hf ?_ | refine mN hf hS ?_ | refine aN hf hS ?_ | refine pT hf hS ?_); clear hf; intro a hf)
  refine done_l (t_normal (c_ret ?_))
  refine eT hf ?_
  refine ⟨congrArg Value.bool ?_, hS.subA⟩
  clear hf hS
  first | exact (decide_eq_true ((good_iff hI).1 (.inl hg))).symm | exact decide_eq_decide.2 ⟨fun h => (good_iff hI).1 (.inr (by omega)), fun h => by have := ((good_iff hI).2 h).resolve_left hg; omega⟩
 clear hf; intro hc1 a hf
 have hg := hc1
 iterate 2 ((first | refine mN hf hS ?_ | refine step_l (st_rd hf (Wn.some hf rfl rfl rfl rfl) (rd_move hf rfl rfl) hS rfl rfl ?_)); clear hf; intro a hf)
 refine step_l (st_call hf (Wn.some hf rfl rfl rfl rfl) rfl rfl rfl fn101 (RWLeft_c _ _ (hS.selA)) rfl rfl ?_)
 clear hf hS; rintro v a w ⟨rfl, hS⟩ hf
 refine sG hf hS (rd_gtr hf rfl rfl rfl) ?_; clear hf; intro a hf
 iterate 2 ((first | refine aN hf hS ?_ | refine pF hf hS ?_); clear hf; intro a hf)
 refine done_l (t_normal (c_ret ?_))
 refine eT hf ?_
 refine ⟨congrArg Value.bool ?_, hS.subA⟩
 clear hf hS
 first | exact (decide_eq_true ((good_iff hI).1 (.inl hg))).symm | exact decide_eq_decide.2 ⟨fun h => (good_iff hI).1 (.inr (by omega)), fun h => by have := ((good_iff hI).2 h).resolve_left hg; omega⟩

theorem SGood_c (p : Nat) (s : RS) {W : World} {R : List HP} {w : World} (hS : Sat W (RdP 122 p (s) :: R) w) (hI : InvR s) : Calls Tryz.prog 110 [.pointer (some ⟨p, 0, none⟩)].toArray w (Ret fun v w' => v = .bool (decide (s.2 = 0)) ∧ Sat W (RdP 122 p (s) :: R) w') := by
 refine fn_start 11 Tryz.func110 rfl rfl rfl ?_
 intro a hf
 refine c_seq (c_region ?_)
 refine aN hf hS ?_; clear hf; intro a hf
 refine done_l (t_normal (c_seq (c_region ?_)))
 refine mN hf hS ?_; clear hf; intro a hf
 refine step_l (st_call hf (Wn.none rfl) rfl rfl rfl fn45 (RWEnd_c _ _ (hS.selA)) rfl rfl ?_)
 clear hf hS; rintro v a w ⟨rfl, hS⟩ hf
 refine sB hf hS (rd_eql hf rfl rfl rfl) ?_ ?_
 ·
  clear hf; intro hc1 a hf
  have hg := hc1
  iterate 6 ((first | refine kS hf ?_ | refine mN hf hS ?_ | refine aN hf hS ?_ | refine pT hf hS ?_); clear hf; intro a hf)
  refine done_l (t_normal (c_ret ?_))
  refine eT hf ?_
  refine ⟨congrArg Value.bool ?_, hS.subA⟩
  clear hf hS
  first | exact (decide_eq_true ((good_iff hI).1 (.inl hg))).symm | exact decide_eq_decide.2 ⟨fun h => (good_iff hI).1 (.inr (by omega)), fun h => by have := ((good_iff hI).2 h).resolve_left hg; omega⟩
 clear hf; intro hc1 a hf
 have hg := hc1
 iterate 2 ((first | refine mN hf hS ?_ | refine step_l (st_rd hf (Wn.some hf rfl rfl rfl rfl) (rd_move hf rfl rfl) hS rfl rfl ?_)); clear hf; intro a hf)
 refine step_l (st_call hf (Wn.some hf rfl rfl rfl rfl) rfl rfl rfl fn101 (RWLeft_c _ _ (hS.selA)) rfl rfl ?_)
 clear hf hS; rintro v a w ⟨rfl, hS⟩ hf
 refine sG hf hS (rd_gtr hf rfl rfl rfl) ?_; clear hf; intro a hf
 iterate 2 ((first | refine aN hf hS ?_ | refine pF hf hS ?_); clear hf; intro a hf)
 refine done_l (t_normal (c_ret ?_))
 refine eT hf ?_
 refine ⟨congrArg Value.bool ?_, hS.subA⟩
 clear hf hS
 first | exact (decide_eq_true ((good_iff hI).1 (.inl hg))).symm | exact decide_eq_decide.2 ⟨fun h => (good_iff hI).1 (.inr (by omega)), fun h => by have := ((good_iff hI).2 h).resolve_left hg; omega⟩

theorem VecR_c (p : Nat) (s : RS) {W : World} {R : List HP} {w : World} (hS : Sat W (RdP 122 p (s) :: R) w) (hI : InvR s) (hb : s.1.length ≤ 140737488355328) : Calls Tryz.prog 100 [.pointer (some ⟨p, 0, none⟩)].toArray w (Ret fun v w' => ∃ s0 s1 s2 s3 s4 s5 s6 s7 : Int, v = .tuple #[.agg #[.int .i64 s0, .int .i64 s1, .int .i64 s2, .int .i64 s3, .int .i64 s4, .int .i64 s5, .int .i64 s6, .int .i64 s7], .bool (vecOk s)] ∧ [s0, s1, s2, s3, s4, s5, s6, s7] = vecV s ∧ Sat W (RdP 122 p ((rVec s).2) :: R) w') := by
 refine fn_start 24 Tryz.func100 rfl rfl rfl ?_
 intro a hf
 refine c_seq (c_region ?_)
 refine sA hf hS zr53 ?_
 clear hf hS; intro b_r a w hf hS
 refine aN hf hS ?_; clear hf; intro a hf
 refine done_l (t_normal (c_seq (c_region ?_)))
 refine sA hf hS zr53 ?_
 clear hf hS; intro b_v a w hf hS
 refine done_l (t_normal (c_seq (c_seq (c_region ?_))))
 refine mN hf hS ?_; clear hf; intro a hf
 refine done_l (t_normal (c_block ?_))
 have hk0 := Keep.ofA hf [(5, 13)]
 refine c_loopK hk0 (α := Nat) (fun k => [(6, .int .i64 (k : Nat))]) (fun k w => Sat W (RdP 122 p ((rMany rInt k s).2) :: Blk b_v (i64s ((rMany rInt k s).1 ++ List.replicate (8 - k) 0)) 53 :: Blk b_r [.int .i64 0, .int .i64 0, .int .i64 0, .int .i64 0, .int .i64 0, .int .i64 0, .int .i64 0, .int .i64 0] 53 :: R) w ∧ k ≤ 8) (fun k => 8 - k) 0 ((hf.keep hk0).kb hf 6 rfl (by first | rfl | exact int_eq (by omega))) ⟨hS.subA, by omega⟩ ?_
 clear hf hS; rintro k a w hf ⟨hS, hk⟩; (try dsimp only [List.cons_append, List.nil_append] at hf)
 refine c_seq (c_region ?_)
 refine sB hf hS (rd_lss hf rfl rfl rfl) ?_ ?_
 ·
  clear hf; intro hc3 a hf
  rw [show 8 - k = 8 - (k + 1) + 1 by omega] at hS
  refine done_l (t_normal (c_seq ?_))
  refine c_true hf rfl ?_
  refine c_skip (t_normal (c_seq (c_block (c_seq (c_region ?_)))))
  iterate 2 ((first | refine mN hf hS ?_ | refine aN hf hS ?_); clear hf; intro a hf)
  refine done_l (t_normal (c_region ?_))
  iterate 2 (refine mN hf hS ?_; clear hf; intro a hf)
  refine step_l (st_call hf (Wn.none rfl) rfl rfl rfl fn78 (RWInt_c _ _ (hS.selA)) rfl rfl ?_)
  clear hf hS; rintro v a w ⟨rfl, hS⟩ hf
  refine sR hf hS (rd_indexAddrA hf rfl rfl rfl Tryz.underlying53 sz2 (by omega)) ?_; clear hf; intro a hf
  refine step_l (st_store hf (Wn.none rfl) hS rfl rfl rfl (by rfl) sz2 (by rfl) (by rfl) (by repeat (first | exact Sel.head | apply Sel.tail)) (by rw [Nat.zero_add, Nat.mul_one]; exact put_vec _ (rMany_len _ _ _)) rfl ?_)
  clear hf hS; intro a w hf hS
  refine done_l (b_normal (t_normal (c_region ?_)))
  refine sP hf hS ?_; clear hf; intro a hf
  refine mN hf hS ?_; clear hf; intro a hf
  refine done_l ?_
  refine t_normal ⟨k + 1, ((hf.backA hk0).kb hf 6 rfl (by first | rfl | exact int_eq (by omega))), ⟨hS.subA, by omega⟩, by first | omega | (simp only []; omega)⟩
 clear hf; intro hc3 a hf
 obtain rfl : k = 8 := by omega
 have hl8 : (rVec s).1.length = 8 := rMany_len rInt 8 s
 obtain ⟨s0, s1, s2, s3, s4, s5, s6, s7, hV⟩ := len8 hl8
 rw [show (rMany rInt 8 s).1 ++ List.replicate (8 - 8) 0 = (rVec s).1 from List.append_nil _, hV] at hS
 simp only [i64s, List.map_cons, List.map_nil] at hS
 refine done_l (t_normal (c_seq ?_))
 refine c_false hf rfl ?_
 refine c_exit (t_exit (t_exit (b_exit (t_normal (c_seq (c_seq (c_region ?_)))))))
 refine mN hf hS ?_; clear hf; intro a hf
 refine step_l (st_call hf (Wn.none rfl) rfl rfl rfl fn111 (VGood_c _ _ (hS.selA) (inv_vec hI)) rfl rfl ?_)
 clear hf hS; rintro v a w ⟨rfl, hS⟩ hf
 first | refine split_dec (d := 15) hf rfl ?_ ?_ | refine split_bool (d := 15) hf rfl ?_ ?_
 ·
  clear hf; intro hc4 hf
  have hG := hc4
  refine nT hf hS ?_; clear hf; intro a hf
  refine mN hf hS ?_; clear hf; intro a hf
  refine sG hf hS (rd_ldN hf ag53 sz53) ?_; clear hf; intro a hf
  refine step_l (st_call hf (Wn.some hf rfl rfl rfl rfl) rfl rfl rfl fn88 (VMay_c _ _ _ _ _ _ _ _ hS) rfl rfl ?_)
  clear hf hS; rintro v a w ⟨rfl, hS⟩ hf
  first | refine split_dec (d := 19) hf rfl ?_ ?_ | refine split_bool (d := 19) hf rfl ?_ ?_
  ·
   clear hf; intro hc5 hf
   have hM : mayVec [s0, s1, s2, s3, s4, s5, s6, s7] = true := by first | exact hc5 | exact decide_eq_true hc5
   refine sG hf hS (rd_not hf rfl rfl) ?_; clear hf; intro a hf
   refine pF hf hS ?_; clear hf; intro a hf
   refine done_l (t_normal ?_)
   refine c_false hf rfl ?_
   refine c_skip (t_normal (c_seq (c_region ?_)))
   refine sR hf hS (rd_ldN hf ag53 sz53) ?_; clear hf; intro a hf
   refine sS hf hS sz53 ?_
   clear hf hS; intro a w hf hS
   refine aN hf hS ?_; clear hf; intro a hf
   refine done_l (t_normal (c_ret ?_))
   refine eC hf hS ag53 sz53 ?_
   have e := vec_yes hV (by first | exact hG | exact Classical.not_not.1 hG) hM
   rw [e, vecV_yes e, hV]; exact ⟨_, _, _, _, _, _, _, _, rfl, rfl, hS.subA⟩
  clear hf; intro hc5 hf
  have hM : mayVec [s0, s1, s2, s3, s4, s5, s6, s7] = false := by first | exact hc5 | exact decide_eq_false hc5
  refine sG hf hS (rd_not hf rfl rfl) ?_; clear hf; intro a hf
  refine pF hf hS ?_; clear hf; intro a hf
  refine done_l (t_normal ?_)
  refine c_true hf rfl ?_
  refine c_seq (c_region ?_)
  refine sR hf hS (rd_build hf rfl rfl zr53 (by rfl) pl53 .nil) ?_; clear hf; intro a hf
  refine sS hf hS sz53 ?_
  clear hf hS; intro a w hf hS
  refine aN hf hS ?_; clear hf; intro a hf
  refine done_l (t_normal (c_ret (t_ret ?_)))
  refine eC hf hS ag53 sz53 ?_
  have e : vecOk s = false := by first | exact vec_no1 hG | exact vec_no2 hV hM
  rw [e, vecV_no e]; exact ⟨0, 0, 0, 0, 0, 0, 0, 0, rfl, rfl, hS.subA⟩
 clear hf; intro hc4 hf
 have hG := hc4
 refine nT hf hS ?_; clear hf; intro a hf
 iterate 5 ((first | refine kS hf ?_ | refine mN hf hS ?_ | refine pT hf hS ?_); clear hf; intro a hf)
 refine done_l (t_normal ?_)
 refine c_true hf rfl ?_
 refine c_seq (c_region ?_)
 refine sR hf hS (rd_build hf rfl rfl zr53 (by rfl) pl53 .nil) ?_; clear hf; intro a hf
 refine sS hf hS sz53 ?_
 clear hf hS; intro a w hf hS
 refine aN hf hS ?_; clear hf; intro a hf
 refine done_l (t_normal (c_ret (t_ret ?_)))
 refine eC hf hS ag53 sz53 ?_
 have e : vecOk s = false := by first | exact vec_no1 hG | exact vec_no2 hV hM
 rw [e, vecV_no e]; exact ⟨0, 0, 0, 0, 0, 0, 0, 0, rfl, rfl, hS.subA⟩

end Go.Proofs.YtcflbdpjoanbgaaGreat
