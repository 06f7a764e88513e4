/-
  Walked: Red.
  Conditions: none.
-/
import Derived.Test.YtglmimbfelakbaaGreatRRea1
import Derived.Test.YtglmimbfelakbaaGreatMs6
namespace Go.Proofs.YtglmimbfelakbaaGreat
open Go Go.Sl
set_option linter.unusedVariables false
set_option linter.unusedSimpArgs false

theorem Small_c (n : Nat) {W : World} {R : List HP} {w : World} (hS : Sat W (R) w) (hn : n < 18446744073709551616) : Calls Tryz.prog 22 [.int .u64 (n : Nat)].toArray w (Ret fun v w' => v = .int .i64 (min (n : Int) 1073741824) ∧ Sat W R w') := by
 refine fn_start 6 Tryz.func22 rfl rfl rfl ?_
 intro a hf
 refine c_seq (c_region ?_)
 refine aN hf hS ?_; clear hf; intro a hf
 refine done_l (t_normal (c_seq (c_region ?_)))
 refine mN hf hS ?_; clear hf; intro a hf
 refine sR hf hS (rd_min hf rfl rfl rfl) ?_; clear hf; intro a hf
 refine sR hf hS (rd_convInt hf rfl rfl Tryz.underlying34 Tryz.underlying3 (Go.IntWalk.i64_in _ (by omega))) ?_; clear hf; intro a hf
 refine aN hf hS ?_; clear hf; intro a hf
 refine done_l (t_normal (c_ret ?_))
 refine eT hf ?_
 refine ⟨?_, hS.subA⟩
 clear hf hS
 rfl

theorem RDotR_c {X : HP} (p : Nat) (s : RS) {W : World} {R : List HP} {w : World} (hS : Sat W (RdX X 68 p (s) :: R) w)  : Calls Tryz.prog 68 [.pointer (some ⟨p, 0, none⟩)].toArray w (Ret fun v w' => v = .agg #[.int .i64 (min ((rNum s).1 : Int) 1073741824), .int .i64 (rInt (rNum s).2).1] ∧ Sat W (RdX X 68 p ((rDot s).2) :: R) w') := by
 refine fn_start 14 Tryz.func68 rfl rfl rfl ?_
 intro a hf
 have hlt := rNum_lt s
 refine c_seq (c_region ?_)
 refine sA hf hS zr93 ?_
 clear hf hS; intro b_1 a w hf hS
 refine done_l (t_normal (c_seq (c_region ?_)))
 refine mN hf hS ?_; clear hf; intro a hf
 refine step_l (st_call hf (Wn.none rfl) rfl rfl rfl fn23 (RVNum_c _ _ (hS.selA)) rfl rfl ?_)
 clear hf hS; rintro v a w ⟨rfl, hS⟩ hf
 refine aN hf hS ?_; clear hf; intro a hf
 refine done_l (t_normal (c_seq (c_region ?_)))
 refine mN hf hS ?_; clear hf; intro a hf
 refine sR hf hS (rd_min hf rfl rfl rfl) ?_; clear hf; intro a hf
 refine sR hf hS (rd_convInt hf rfl rfl Tryz.underlying34 Tryz.underlying3 (Go.IntWalk.i64_in _ (by omega))) ?_; clear hf; intro a hf
 refine mN hf hS ?_; clear hf; intro a hf
 refine step_l (st_call hf (Wn.none rfl) rfl rfl rfl fn24 (RVInt_c _ _ (hS.selA)) rfl rfl ?_)
 clear hf hS; rintro v a w ⟨rfl, hS⟩ hf
 refine sR hf hS (rd_build hf rfl rfl zr93 (by rfl) pl93 (.cons rfl (by first | rfl) (by rfl) (by repeat (first | exact Put.nil | apply Put.cons | apply Put.succ)) (.cons rfl (by first | rfl) (by rfl) (by repeat (first | exact Put.nil | apply Put.cons | apply Put.succ)) .nil))) ?_; clear hf; intro a hf
 refine sA hf hS zr93 ?_
 clear hf hS; intro b_2 a w hf hS
 refine sS hf hS sz93 ?_
 clear hf hS; intro a w hf hS
 refine done_l (t_normal (c_seq (c_region ?_)))
 refine sR hf hS (rd_ldN hf ag93 sz93) ?_; clear hf; intro a hf
 refine sS hf hS sz93 ?_
 clear hf hS; intro a w hf hS
 refine done_l (t_normal (c_ret ?_))
 refine e_res1 hf.defers rfl (res_cellN hf rfl ag93 sz93 hS (by repeat (first | exact Sel.head | apply Sel.tail)) (by repeat (first | exact Seg.nil | apply Seg.cons | apply Seg.succ)) .nil) ?_
 exact ⟨rfl, hS.subA⟩

theorem RVecR_c {X : HP} (p : Nat) (s : RS) {W : World} {R : List HP} {w : World} (hS : Sat W (RdX X 68 p (s) :: R) w) (hI : InvR s) (hb : s.1.length ≤ 140737488355328) : Calls Tryz.prog 67 [.pointer (some ⟨p, 0, none⟩)].toArray w (Ret fun v w' => ∃ s0 s1 s2 s3 s4 s5 s6 s7 : Int, v = .tuple #[.agg #[.int .i64 s0, .int .i64 s1, .int .i64 s2, .int .i64 s3, .int .i64 s4, .int .i64 s5, .int .i64 s6, .int .i64 s7], .bool (vecOk s)] ∧ [s0, s1, s2, s3, s4, s5, s6, s7] = vecV s ∧ Sat W (RdX X 68 p ((rVec s).2) :: R) w') := by
 refine fn_start 27 Tryz.func67 rfl rfl rfl ?_
 intro a hf
 refine c_seq (c_region ?_)
 refine sA hf hS zr41 ?_
 clear hf hS; intro b_r a w hf hS
 refine aN hf hS ?_; clear hf; intro a hf
 refine done_l (t_normal (c_seq (c_region ?_)))
 refine sR hf hS (rd_build hf rfl rfl zr41 (by rfl) pl41 .nil) ?_; clear hf; intro a hf
 refine sA hf hS zr41 ?_
 clear hf hS; intro b_v a w hf hS
 refine sS hf hS sz41 ?_
 clear hf hS; intro a w hf hS
 refine done_l (t_normal (c_seq (c_seq (c_region ?_))))
 refine mN hf hS ?_; clear hf; intro a hf
 refine done_l (t_normal (c_block ?_))
 have hk0 := Keep.ofA hf [(5, 5), (7, 14)]
 refine c_loopK hk0 (α := Nat) (fun k => [(7, .int .i64 (k : Nat))]) (fun k w => Sat W (RdX X 68 p ((rMany rInt k s).2) :: Blk b_v (i64s ((rMany rInt k s).1 ++ List.replicate (8 - k) 0)) 41 :: Blk b_r [.int .i64 0, .int .i64 0, .int .i64 0, .int .i64 0, .int .i64 0, .int .i64 0, .int .i64 0, .int .i64 0] 41 :: R) w ∧ k ≤ 8) (fun k => 8 - k) 0 ((hf.keep hk0).kb hf 7 rfl (by first | rfl | exact int_eq (by omega))) ⟨hS.subA, by omega⟩ ?_
 clear hf hS; rintro k a w hf ⟨hS, hk⟩; (try dsimp only [List.cons_append, List.nil_append] at hf)
 refine c_seq (c_region ?_)
 refine sB hf hS (rd_lss hf rfl rfl rfl) ?_ ?_
 ·
  clear hf; intro hc3 a hf
  rw [show 8 - k = 8 - (k + 1) + 1 by omega] at hS
  refine done_l (t_normal (c_seq ?_))
  refine c_true hf rfl ?_
  refine c_skip (t_normal (c_seq (c_block (c_seq (c_region ?_)))))
  iterate 2 ((first | refine mN hf hS ?_ | refine aN hf hS ?_); clear hf; intro a hf)
  refine done_l (t_normal (c_region ?_))
  iterate 2 (refine mN hf hS ?_; clear hf; intro a hf)
  refine step_l (st_call hf (Wn.none rfl) rfl rfl rfl fn24 (RVInt_c _ _ (hS.selA)) rfl rfl ?_)
  clear hf hS; rintro v a w ⟨rfl, hS⟩ hf
  refine sR hf hS (rd_indexAddrA hf rfl rfl rfl Tryz.underlying41 sz2 (by omega)) ?_; clear hf; intro a hf
  refine step_l (st_store hf (Wn.none rfl) hS rfl rfl rfl (by rfl) sz2 (by rfl) (by rfl) (by repeat (first | exact Sel.head | apply Sel.tail)) (by rw [Nat.zero_add, Nat.mul_one]; exact put_vec _ (rMany_len _ _ _)) rfl ?_)
  clear hf hS; intro a w hf hS
  refine done_l (b_normal (t_normal (c_region ?_)))
  refine sP hf hS ?_; clear hf; intro a hf
  refine mN hf hS ?_; clear hf; intro a hf
  refine done_l ?_
  refine t_normal ⟨k + 1, ((hf.backA hk0).kb hf 7 rfl (by first | rfl | exact int_eq (by omega))), ⟨hS.subA, by omega⟩, by first | omega | (simp only []; omega)⟩
 clear hf; intro hc3 a hf
 obtain rfl : k = 8 := by omega
 have hl8 : (rVec s).1.length = 8 := rMany_len rInt 8 s
 obtain ⟨s0, s1, s2, s3, s4, s5, s6, s7, hV⟩ := len8 hl8
 rw [show (rMany rInt 8 s).1 ++ List.replicate (8 - 8) 0 = (rVec s).1 from List.append_nil _, hV] at hS
 simp only [i64s, List.map_cons, List.map_nil] at hS
 change Sat W (RdX X 68 p (rVec s).2 :: _) w at hS
 obtain ⟨qz, capz, hcapz, hS⟩ := rdx_open hS
 refine done_l (t_normal (c_seq ?_))
 refine c_false hf rfl ?_
 refine c_exit (t_exit (t_exit (b_exit (t_normal (c_seq (c_seq (c_region ?_)))))))
 refine mN hf hS ?_; clear hf; intro a hf
 refine nC hf hS ?_; clear hf; intro a hf
 refine fA hf hS fb68_1 ?_; clear hf; intro a hf
 refine sR hf hS (rd_ld hf ag31) ?_; clear hf; intro a hf
 refine sB hf hS (rd_neq hf rfl rfl rfl) ?_ ?_
 ·
  clear hf; intro hc4 a hf
  have hG := hc4
  iterate 5 ((first | refine kS hf ?_ | refine mN hf hS ?_ | refine pT hf hS ?_); clear hf; intro a hf)
  refine done_l (t_normal ?_)
  refine c_true hf rfl ?_
  refine c_seq (c_region ?_)
  refine sR hf hS (rd_build hf rfl rfl zr41 (by rfl) pl41 .nil) ?_; clear hf; intro a hf
  refine sS hf hS sz41 ?_
  clear hf hS; intro a w hf hS
  refine aN hf hS ?_; clear hf; intro a hf
  refine done_l (t_normal (c_ret (t_ret ?_)))
  refine eC hf hS ag41 sz41 ?_
  have e : vecOk s = false := by first | exact vec_no1 hG | exact vec_no2 hV hM
  rw [e, vecV_no e]; exact ⟨0, 0, 0, 0, 0, 0, 0, 0, rfl, rfl, rdx_shut (s := (rVec s).2) (q := qz) (cap := capz) (hS.subA) rfl rfl rfl hcapz⟩
 clear hf; intro hc4 a hf
 have hG := hc4
 refine mN hf hS ?_; clear hf; intro a hf
 refine sG hf hS (rd_ldN hf ag41 sz41) ?_; clear hf; intro a hf
 refine step_l (st_call hf (Wn.some hf rfl rfl rfl rfl) rfl rfl rfl fn79 (RVMay_c _ _ _ _ _ _ _ _ hS) rfl rfl ?_)
 clear hf hS; rintro v a w ⟨rfl, hS⟩ hf
 first | refine split_dec (d := 22) hf rfl ?_ ?_ | refine split_bool (d := 22) hf rfl ?_ ?_
 ·
  clear hf; intro hc5 hf
  have hM : mayVec [s0, s1, s2, s3, s4, s5, s6, s7] = true := by first | exact hc5 | exact decide_eq_true hc5
  refine sG hf hS (rd_not hf rfl rfl) ?_; clear hf; intro a hf
  refine pF hf hS ?_; clear hf; intro a hf
  refine done_l (t_normal ?_)
  refine c_false hf rfl ?_
  refine c_skip (t_normal (c_seq (c_region ?_)))
  refine sR hf hS (rd_ldN hf ag41 sz41) ?_; clear hf; intro a hf
  refine sS hf hS sz41 ?_
  clear hf hS; intro a w hf hS
  refine aN hf hS ?_; clear hf; intro a hf
  refine done_l (t_normal (c_ret ?_))
  refine eC hf hS ag41 sz41 ?_
  have e := vec_yes hV (by first | exact hG | exact Classical.not_not.1 hG) hM
  rw [e, vecV_yes e, hV]; exact ⟨_, _, _, _, _, _, _, _, rfl, rfl, rdx_shut (s := (rVec s).2) (q := qz) (cap := capz) (hS.subA) rfl rfl rfl hcapz⟩
 clear hf; intro hc5 hf
 have hM : mayVec [s0, s1, s2, s3, s4, s5, s6, s7] = false := by first | exact hc5 | exact decide_eq_false hc5
 refine sG hf hS (rd_not hf rfl rfl) ?_; clear hf; intro a hf
 refine pF hf hS ?_; clear hf; intro a hf
 refine done_l (t_normal ?_)
 refine c_true hf rfl ?_
 refine c_seq (c_region ?_)
 refine sR hf hS (rd_build hf rfl rfl zr41 (by rfl) pl41 .nil) ?_; clear hf; intro a hf
 refine sS hf hS sz41 ?_
 clear hf hS; intro a w hf hS
 refine aN hf hS ?_; clear hf; intro a hf
 refine done_l (t_normal (c_ret (t_ret ?_)))
 refine eC hf hS ag41 sz41 ?_
 have e : vecOk s = false := by first | exact vec_no1 hG | exact vec_no2 hV hM
 rw [e, vecV_no e]; exact ⟨0, 0, 0, 0, 0, 0, 0, 0, rfl, rfl, rdx_shut (s := (rVec s).2) (q := qz) (cap := capz) (hS.subA) rfl rfl rfl hcapz⟩

end Go.Proofs.YtglmimbfelakbaaGreat
