/-
  Walked: Re2.
  Conditions: none.
-/
import Derived.Test.YtcflbdpjoanbgaaGreatRed1
namespace Go.Proofs.YtcflbdpjoanbgaaGreat
open Go Go.Sl
set_option linter.unusedVariables false
set_option linter.unusedSimpArgs false

set_option maxRecDepth 100000 in
set_option maxHeartbeats 4000000 in
theorem SibR_c (p : Nat) (s : RS) {W : World} {R : List HP} {w : World} (hS : Sat W (RdP 122 p (s) :: R) w) (hI : InvR s) (hb : s.1.length ≤ 140737488355328) : Calls Tryz.prog 99 [.pointer (some ⟨p, 0, none⟩)].toArray w (Ret fun v w' => ∃ (s0 s1 s2 s3 s4 s5 s6 s7 : Int) (q : Option Addr) (c : Nat) (L : List ValT), v = .tuple #[.agg #[.int .i64 s0, .int .i64 s1, .int .i64 s2, .int .i64 s3, .int .i64 s4, .int .i64 s5, .int .i64 s6, .int .i64 s7, .slice q L.length c], .bool (sibOk s)] ∧ (([s0, s1, s2, s3, s4, s5, s6, s7], L.map pVal) : PSib) = sibV s ∧ okVs L ∧ Sat W (ValR 107 5 (q, c, L) :: RdP 122 p ((sibL s).2) :: R) w') := by
 refine fn_start 55 Tryz.func99 rfl rfl rfl ?_
 intro a hf
 refine c_seq (c_region ?_)
 refine sA hf hS zr56 ?_
 clear hf hS; intro b_r a w hf hS
 refine aN hf hS ?_; clear hf; intro a hf
 refine done_l (t_normal (c_seq (c_region ?_)))
 refine mN hf hS ?_; clear hf; intro a hf
 refine step_l (st_call hf (Wn.none rfl) rfl rfl rfl fn100 (VecR_c _ _ (hS.selA) hI hb) rfl rfl ?_)
 clear hf hS; rintro v a w ⟨s0, s1, s2, s3, s4, s5, s6, s7, rfl, hV, hS⟩ hf
 refine mN hf hS ?_; clear hf; intro a hf
 refine sR hf hS (rd_extract hf rfl rfl rfl) ?_; clear hf; intro a hf
 refine sR hf hS (rd_extract hf rfl rfl rfl) ?_; clear hf; intro a hf
 refine sA hf hS zr53 ?_
 clear hf hS; intro b_x a w hf hS
 refine sS hf hS sz53 ?_
 clear hf hS; intro a w hf hS
 refine aN hf hS ?_; clear hf; intro a hf
 refine done_l (t_normal (c_seq (c_region ?_)))
 refine sR hf hS (rd_ldN hf ag53 sz53) ?_; clear hf; intro a hf
 refine sR hf hS (rd_build hf rfl rfl zr56 (by rfl) pl56 (.cons rfl (by first | rfl) (by rfl) (by repeat (first | exact Put.nil | apply Put.cons | apply Put.succ)) .nil)) ?_; clear hf; intro a hf
 refine sA hf hS zr56 ?_
 clear hf hS; intro b_s a w hf hS
 refine sS hf hS sz56 ?_
 clear hf hS; intro a w hf hS
 refine done_l (t_normal (c_seq (c_seq (c_region ?_))))
 refine mN hf hS ?_; clear hf; intro a hf
 refine step_l (st_call hf (Wn.none rfl) rfl rfl rfl fn80 (RWCount_c _ _ _ (hS.selA) ⟨by decide, by decide⟩) rfl rfl ?_)
 clear hf hS; rintro v a w ⟨rfl, hS⟩ hf; have hn16 := rCount_most 16 (rVec s).2; rw [show rCount 16 (rVec s).2 = sibN s from rfl] at hf hS hn16
 refine mN hf hS ?_; clear hf; intro a hf
 refine done_l (t_normal (c_block ?_))
 have hk0 := Keep.ofA hf [(7, 8), (18, 40)]
 refine c_loopK hk0 (α := Nat × Option Addr × Nat × List ValT) (fun ⟨k, q, cap, L⟩ => [(18, .int .i64 (k : Nat))]) (fun ⟨k, q, cap, L⟩ w => Sat W (RdP 122 p ((rMany rVal k (sibN s).2).2) :: Blk b_s [.int .i64 s0, .int .i64 s1, .int .i64 s2, .int .i64 s3, .int .i64 s4, .int .i64 s5, .int .i64 s6, .int .i64 s7, .slice q L.length cap] 56 :: Rw 107 4 q L.length cap (L.flatMap valC) :: Rws 5 (L.map (fun v : ValT => v.2.1)) :: Blk b_x [.int .i64 s0, .int .i64 s1, .int .i64 s2, .int .i64 s3, .int .i64 s4, .int .i64 s5, .int .i64 s6, .int .i64 s7] 53 :: Blk b_r [.int .i64 0, .int .i64 0, .int .i64 0, .int .i64 0, .int .i64 0, .int .i64 0, .int .i64 0, .int .i64 0, .slice none 0 0] 56 :: R) w ∧ k ≤ (sibN s).1 ∧ L.length = k ∧ L.map pVal = (rMany rVal k (sibN s).2).1.map (capV 8) ∧ ∀ v ∈ L, v.2.1.2.2.length ≤ 200) (fun ⟨k, q, cap, L⟩ => (sibN s).1 - k) (0, none, 0, []) ((hf.keep hk0).kb hf 18 rfl (by first | rfl | exact int_eq (by omega))) ⟨((hS.rwsNil 5).rwNil 107 4).subA, ⟨by omega, rfl, rfl, fun v hv => by cases hv⟩⟩ ?_
 clear hf hS; rintro ⟨k, q, cap, L⟩ a w hf ⟨hS, ⟨hk, hlk, hok, hok2⟩⟩; (try dsimp only [List.cons_append, List.nil_append] at hf)
 refine c_seq (c_region ?_)
 refine sB hf hS (rd_lss hf rfl rfl rfl) ?_ ?_
 ·
  clear hf; intro hc4 a hf
  have hr2 : (rFlag (rDot (rMany rVal k (sibN s).2).2).2).2.1.length ≤ s.1.length := Nat.le_trans (rFlag_rest _) (Nat.le_trans (rDot_rest _) (Nat.le_trans (rest_many rVal_rest k (sibN s).2) (sibN_rest s))); have hlt := rNum_lt (rMany rVal k (sibN s).2).2; have htx := rText_most 200 (rFlag (rDot (rMany rVal k (sibN s).2).2).2).2
  refine done_l (t_normal (c_seq ?_))
  refine c_true hf rfl ?_
  refine c_skip (t_normal (c_seq (c_block (c_seq (c_region ?_)))))
  refine mN hf hS ?_; clear hf; intro a hf
  refine step_l (st_call hf (Wn.none rfl) rfl rfl rfl fn96 (RWNum_c _ _ (hS.selA)) rfl rfl ?_)
  clear hf hS; rintro v a w ⟨rfl, hS⟩ hf
  refine aN hf hS ?_; clear hf; intro a hf
  refine done_l (t_normal (c_seq (c_region ?_)))
  refine mN hf hS ?_; clear hf; intro a hf
  refine sR hf hS (rd_min hf rfl rfl rfl) ?_; clear hf; intro a hf
  refine sR hf hS (rd_convInt hf rfl rfl Tryz.underlying67 Tryz.underlying3 (Go.IntWalk.i64_in _ (by omega))) ?_; clear hf; intro a hf
  refine mN hf hS ?_; clear hf; intro a hf
  refine step_l (st_call hf (Wn.none rfl) rfl rfl rfl fn78 (RWInt_c _ _ (hS.selA)) rfl rfl ?_)
  clear hf hS; rintro v a w ⟨rfl, hS⟩ hf
  refine sR hf hS (rd_build hf rfl rfl zr87 (by rfl) pl87 (.cons rfl (by first | rfl) (by rfl) (by repeat (first | exact Put.nil | apply Put.cons | apply Put.succ)) (.cons rfl (by first | rfl) (by rfl) (by repeat (first | exact Put.nil | apply Put.cons | apply Put.succ)) .nil))) ?_; clear hf; intro a hf
  refine mN hf hS ?_; clear hf; intro a hf
  refine step_l (st_call hf (Wn.none rfl) rfl rfl rfl fn109 (RWFlag_c _ _ (hS.selA)) rfl rfl ?_)
  clear hf hS; rintro v a w ⟨rfl, hS⟩ hf
  refine sR hf hS (rd_build hf rfl rfl zr107 (by rfl) pl107 (.cons rfl (by first | rfl) (by rfl) (by repeat (first | exact Put.nil | apply Put.cons | apply Put.succ)) (.cons rfl (by first | rfl) (by rfl) (by repeat (first | exact Put.nil | apply Put.cons | apply Put.succ)) .nil))) ?_; clear hf; intro a hf
  refine sA hf hS zr107 ?_
  clear hf hS; intro b_v a w hf hS
  refine sS hf hS sz107 ?_
  clear hf hS; intro a w hf hS
  refine done_l (t_normal (c_seq (c_region ?_)))
  refine mN hf hS ?_; clear hf; intro a hf
  refine step_l (st_call hf (Wn.none rfl) rfl rfl rfl fn79 (RWText_c _ _ _ (hS.selA) ⟨by decide, by decide⟩ (Nat.le_trans hr2 hb)) rfl rfl ?_)
  clear hf hS; rintro v a w ⟨qt, capt, rfl, hS⟩ hf
  refine fA hf hS fb107_1 ?_; clear hf; intro a hf
  refine sS hf hS sz34 ?_
  clear hf hS; intro a w hf hS
  refine done_l (t_normal (c_region ?_))
  refine fA hf hS fb56_1 ?_; clear hf; intro a hf
  refine sR hf hS (rd_ld hf ag54) ?_; clear hf; intro a hf
  refine sR hf hS (rd_ldN hf ag107 sz107) ?_; clear hf; intro a hf
  refine step_l (st_buildSlice hf (Wn.none rfl) hS rfl rfl Tryz.underlying54 sz107 zr107 (by decide) bz107_1 rfl (.cons rfl (by first | rfl) (by rfl) (by repeat (first | exact Put.nil | apply Put.cons | apply Put.succ)) .nil) rfl rfl ?_)
  clear hf hS; intro b_6 a w hf hS
  refine step_l (st_append hf (Wn.none rfl) rfl rfl rfl Tryz.underlying54 tyb107 (by rfl) (by decide) hS (by repeat (first | exact Sel.head | apply Sel.tail)) (by first | exact hS.slOfBlk (by repeat (first | exact Sel.head | apply Sel.tail)) (by rfl) | exact hS.slOfBlkPre (by repeat (first | exact Sel.head | apply Sel.tail)) (bvs_len1 _) | exact hS.slOfRw (by repeat (first | exact Sel.head | apply Sel.tail)) | exact SlAt.nil _ _ _) (by first | rfl | exact bvs_one _ | (simp [Value.oneCell']; done)) (by omega) rfl rfl ?_)
  clear hf hS; intro pA capA a w hf hS hnilA
  refine fA hf hS fb56_1 ?_; clear hf; intro a hf
  refine sS hf hS sz54 ?_
  clear hf hS; intro a w hf hS
  refine done_l (b_normal (t_normal (c_region ?_)))
  refine sP hf hS ?_; clear hf; intro a hf
  refine mN hf hS ?_; clear hf; intro a hf
  refine done_l ?_
  have h1 : Sat W (Rws 5 (L.map (fun v : ValT => v.2.1)) :: Rw 5 1 qt (rText 200 (rFlag (rDot (rMany rVal k (sibN s).2).2).2).2).1.length capt (bvs (rText 200 (rFlag (rDot (rMany rVal k (sibN s).2).2).2).2).1) :: Rw 107 4 pA (L.length + 1) capA (L.flatMap valC ++ [.int .i64 (min ((rNum (rMany rVal k (sibN s).2).2).1 : Int) 8), .int .i64 (rInt (rNum (rMany rVal k (sibN s).2).2).2).1, .slice qt (rText 200 (rFlag (rDot (rMany rVal k (sibN s).2).2).2).2).1.length capt, .bool (rFlag (rDot (rMany rVal k (sibN s).2).2).2).1]) :: RdP 122 p ((rVal (rMany rVal k (sibN s).2).2).2) :: Blk b_s [.int .i64 s0, .int .i64 s1, .int .i64 s2, .int .i64 s3, .int .i64 s4, .int .i64 s5, .int .i64 s6, .int .i64 s7, .slice pA (L.length + 1) capA] 56 :: Blk b_x [.int .i64 s0, .int .i64 s1, .int .i64 s2, .int .i64 s3, .int .i64 s4, .int .i64 s5, .int .i64 s6, .int .i64 s7] 53 :: Blk b_r [.int .i64 0, .int .i64 0, .int .i64 0, .int .i64 0, .int .i64 0, .int .i64 0, .int .i64 0, .int .i64 0, .slice none 0 0] 56 :: R) w := hS.subA; replace h1 := h1.rwsSnoc rfl; have h2 : Sat W (Rw 107 4 pA (L.length + 1) capA (L.flatMap valC ++ [.int .i64 (min ((rNum (rMany rVal k (sibN s).2).2).1 : Int) 8), .int .i64 (rInt (rNum (rMany rVal k (sibN s).2).2).2).1, .slice qt (rText 200 (rFlag (rDot (rMany rVal k (sibN s).2).2).2).2).1.length capt, .bool (rFlag (rDot (rMany rVal k (sibN s).2).2).2).1]) :: Rws 5 (L.map (fun v : ValT => v.2.1) ++ [(qt, capt, (rText 200 (rFlag (rDot (rMany rVal k (sibN s).2).2).2).2).1)]) :: RdP 122 p ((rVal (rMany rVal k (sibN s).2).2).2) :: Blk b_s [.int .i64 s0, .int .i64 s1, .int .i64 s2, .int .i64 s3, .int .i64 s4, .int .i64 s5, .int .i64 s6, .int .i64 s7, .slice pA (L.length + 1) capA] 56 :: Blk b_x [.int .i64 s0, .int .i64 s1, .int .i64 s2, .int .i64 s3, .int .i64 s4, .int .i64 s5, .int .i64 s6, .int .i64 s7] 53 :: Blk b_r [.int .i64 0, .int .i64 0, .int .i64 0, .int .i64 0, .int .i64 0, .int .i64 0, .int .i64 0, .int .i64 0, .slice none 0 0] 56 :: R) w := h1.subA; replace h2 := h2.rwCast (xs' := (L ++ [((min ((rNum (rMany rVal k (sibN s).2).2).1 : Int) 8, (rInt (rNum (rMany rVal k (sibN s).2).2).2).1, ()), (qt, capt, (rText 200 (rFlag (rDot (rMany rVal k (sibN s).2).2).2).2).1), (rFlag (rDot (rMany rVal k (sibN s).2).2).2).1, ())]).flatMap valC) (by simp [valC, dotC, slv]) rfl
  refine t_normal ⟨(k + 1, pA, capA, L ++ [((min ((rNum (rMany rVal k (sibN s).2).2).1 : Int) 8, (rInt (rNum (rMany rVal k (sibN s).2).2).2).1, ()), (qt, capt, (rText 200 (rFlag (rDot (rMany rVal k (sibN s).2).2).2).2).1), (rFlag (rDot (rMany rVal k (sibN s).2).2).2).1, ())]), ((hf.backA hk0).kb hf 18 rfl (by first | rfl | exact int_eq (by omega))), ⟨(by rw [List.map_append, List.length_append]; exact h2.subA), ⟨by omega, by simp [hlk], many_snoc hok rfl, all_snoc hok2 (by show (rText 200 (rFlag (rDot (rMany rVal k (sibN s).2).2).2).2).1.length ≤ 200; omega)⟩⟩, by first | omega | (simp only []; omega)⟩
 clear hf; intro hc4 a hf
 obtain rfl : k = (sibN s).1 := by omega
 refine done_l (t_normal (c_seq ?_))
 refine c_false hf rfl ?_
 refine c_exit (t_exit (t_exit (b_exit (t_normal (c_seq (c_seq (c_region ?_)))))))
 refine step_l (st_rdb hf (Wn.none rfl) (rd_move hf rfl rfl) hS rfl rfl ?_ ?_)
 ·
  clear hf; intro hc8 a hf
  have hO := hc8
  refine nT hf hS ?_; clear hf; intro a hf
  iterate 2 ((first | refine mN hf hS ?_ | refine step_l (st_rd hf (Wn.some hf rfl rfl rfl rfl) (rd_move hf rfl rfl) hS rfl rfl ?_)); clear hf; intro a hf)
  refine step_l (st_call hf (Wn.some hf rfl rfl rfl rfl) rfl rfl rfl fn110 (SGood_c _ _ (hS.selA) (inv_sib hI)) rfl rfl ?_)
  clear hf hS; rintro v a w ⟨rfl, hS⟩ hf
  first | refine split_dec (d := 45) hf rfl ?_ ?_ | refine split_bool (d := 45) hf rfl ?_ ?_
  ·
   clear hf; intro hc9 hf
   have hG := hc9
   refine sG hf hS (rd_not hf rfl rfl) ?_; clear hf; intro a hf
   iterate 2 ((first | refine mN hf hS ?_ | refine pF hf hS ?_); clear hf; intro a hf)
   refine sG hf hS (rd_ldN hf ag56 sz56) ?_; clear hf; intro a hf
   refine step_l (st_call hf (Wn.some hf rfl rfl rfl rfl) rfl rfl rfl fn85 (SMay_c _ _ _ _ _ _ _ _ _ _ _ hS (fun _ h => valR_own h (by repeat (first | exact Sel.head | apply Sel.tail)) (by repeat (first | exact Sel.head | apply Sel.tail)) (by omega) hok2)) rfl rfl ?_)
   clear hf hS; rintro v a w ⟨rfl, hS⟩ hf
   first | refine split_dec (d := 50) hf rfl ?_ ?_ | refine split_bool (d := 50) hf rfl ?_ ?_
   ·
    clear hf; intro hc10 hf
    have hM := hc10
    refine sG hf hS (rd_not hf rfl rfl) ?_; clear hf; intro a hf
    refine pF hf hS ?_; clear hf; intro a hf
    refine done_l (t_normal ?_)
    refine c_false hf rfl ?_
    refine c_skip (t_normal (c_seq (c_region ?_)))
    refine sR hf hS (rd_ldN hf ag56 sz56) ?_; clear hf; intro a hf
    refine sS hf hS sz56 ?_
    clear hf hS; intro a w hf hS
    refine aN hf hS ?_; clear hf; intro a hf
    refine done_l (t_normal (c_ret ?_))
    refine eC hf hS ag56 sz56 ?_
    obtain ⟨e1, e2⟩ := sib_done (c := 8) (by decide) hok hO (by first | exact hG | exact Classical.not_not.1 hG) (by rw [← hV]; exact hM)
    rw [e1]; exact ⟨_, _, _, _, _, _, _, _, q, cap, L, rfl, by rw [← e2, ← hV], ⟨by omega, hok2⟩, Sat.all (ps := [Rw 107 4 q L.length cap (L.flatMap valC), Rws 5 (L.map (fun v : ValT => v.2.1))]) (l := RdP 122 p ((sibL s).2) :: R) (hS.subA)⟩
   clear hf; intro hc10 hf
   have hM := hc10
   refine sG hf hS (rd_not hf rfl rfl) ?_; clear hf; intro a hf
   refine pF hf hS ?_; clear hf; intro a hf
   refine done_l (t_normal ?_)
   refine c_true hf rfl ?_
   refine c_seq (c_region ?_)
   refine sR hf hS (rd_build hf rfl rfl zr56 (by rfl) pl56 .nil) ?_; clear hf; intro a hf
   refine sS hf hS sz56 ?_
   clear hf hS; intro a w hf hS
   refine aN hf hS ?_; clear hf; intro a hf
   refine done_l (t_normal (c_ret (t_ret ?_)))
   refine eC hf hS ag56 sz56 ?_
   have e : sibOk s = false := by first | exact sibOk_vec hO | exact sib_fail1 hG | exact sib_fail2 (c := 8) (by decide) hok hO (by rw [← hV]; exact hM)
   rw [e]; exact ⟨0, 0, 0, 0, 0, 0, 0, 0, none, 0, [], rfl, (sibV_no e).symm, ⟨by decide, fun v hv => by cases hv⟩, Sat.all (ps := [Rw 107 4 none 0 0 [], Rws 5 []]) (l := RdP 122 p ((sibL s).2) :: R) (((hS.subA : Sat W (RdP 122 p ((sibL s).2) :: R) w).rwsNil 5).rwNil 107 4)⟩
  clear hf; intro hc9 hf
  have hG := hc9
  refine sG hf hS (rd_not hf rfl rfl) ?_; clear hf; intro a hf
  iterate 6 ((first | refine kS hf ?_ | refine mN hf hS ?_ | refine pT hf hS ?_ | refine pF hf hS ?_); clear hf; intro a hf)
  refine done_l (t_normal ?_)
  refine c_true hf rfl ?_
  refine c_seq (c_region ?_)
  refine sR hf hS (rd_build hf rfl rfl zr56 (by rfl) pl56 .nil) ?_; clear hf; intro a hf
  refine sS hf hS sz56 ?_
  clear hf hS; intro a w hf hS
  refine aN hf hS ?_; clear hf; intro a hf
  refine done_l (t_normal (c_ret (t_ret ?_)))
  refine eC hf hS ag56 sz56 ?_
  have e : sibOk s = false := by first | exact sibOk_vec hO | exact sib_fail1 hG | exact sib_fail2 (c := 8) (by decide) hok hO (by rw [← hV]; exact hM)
  rw [e]; exact ⟨0, 0, 0, 0, 0, 0, 0, 0, none, 0, [], rfl, (sibV_no e).symm, ⟨by decide, fun v hv => by cases hv⟩, Sat.all (ps := [Rw 107 4 none 0 0 [], Rws 5 []]) (l := RdP 122 p ((sibL s).2) :: R) (((hS.subA : Sat W (RdP 122 p ((sibL s).2) :: R) w).rwsNil 5).rwNil 107 4)⟩
 clear hf; intro hc8 a hf
 have hO := hc8
 refine nT hf hS ?_; clear hf; intro a hf
 iterate 10 ((first | refine kS hf ?_ | refine mN hf hS ?_ | refine pT hf hS ?_); clear hf; intro a hf)
 refine done_l (t_normal ?_)
 refine c_true hf rfl ?_
 refine c_seq (c_region ?_)
 refine sR hf hS (rd_build hf rfl rfl zr56 (by rfl) pl56 .nil) ?_; clear hf; intro a hf
 refine sS hf hS sz56 ?_
 clear hf hS; intro a w hf hS
 refine aN hf hS ?_; clear hf; intro a hf
 refine done_l (t_normal (c_ret (t_ret ?_)))
 refine eC hf hS ag56 sz56 ?_
 have e : sibOk s = false := by first | exact sibOk_vec hO | exact sib_fail1 hG | exact sib_fail2 (c := 8) (by decide) hok hO (by rw [← hV]; exact hM)
 rw [e]; exact ⟨0, 0, 0, 0, 0, 0, 0, 0, none, 0, [], rfl, (sibV_no e).symm, ⟨by decide, fun v hv => by cases hv⟩, Sat.all (ps := [Rw 107 4 none 0 0 [], Rws 5 []]) (l := RdP 122 p ((sibL s).2) :: R) (((hS.subA : Sat W (RdP 122 p ((sibL s).2) :: R) w).rwsNil 5).rwNil 107 4)⟩

set_option maxRecDepth 100000 in
set_option maxHeartbeats 4000000 in
theorem EntRd_c (p : Nat) (s : RS) {W : World} {R : List HP} {w : World} (hS : Sat W (RdP 122 p (s) :: R) w) (hI : InvR s) (hb : s.1.length ≤ 140737488355328) : Calls Tryz.prog 81 [.pointer (some ⟨p, 0, none⟩)].toArray w (Ret fun v w' => ∃ (ky : List UInt8) (s0 s1 s2 s3 s4 s5 s6 s7 : Int) (q : Option Addr) (c : Nat) (L : List ValT), v = .tuple #[.agg #[.string (str ky), .int .i64 s0, .int .i64 s1, .int .i64 s2, .int .i64 s3, .int .i64 s4, .int .i64 s5, .int .i64 s6, .int .i64 s7, .slice q L.length c], .bool (entOk s)] ∧ ((ky, [s0, s1, s2, s3, s4, s5, s6, s7], L.map pVal) : PEnt) = entV s ∧ okVs L ∧ Sat W (ValR 107 5 (q, c, L) :: RdP 122 p ((rEnt s).2) :: R) w') := by
 refine fn_start 27 Tryz.func81 rfl rfl rfl ?_
 intro a hf
 refine c_seq (c_region ?_)
 refine sA hf hS zr58 ?_
 clear hf hS; intro b_r a w hf hS
 refine aN hf hS ?_; clear hf; intro a hf
 refine done_l (t_normal (c_seq (c_region ?_)))
 refine mN hf hS ?_; clear hf; intro a hf
 refine step_l (st_call hf (Wn.none rfl) rfl rfl rfl fn79 (RWText_c _ _ _ (hS.selA) ⟨by decide, by decide⟩ hb) rfl rfl ?_)
 clear hf hS; rintro v a w ⟨qt, capt, rfl, hS⟩ hf
 refine sR hf hS (rd_str hf rfl rfl Tryz.underlying34 Tryz.underlying9 Tryz.underlying5 (by intro _ h; first | exact h.slOfRw (by repeat (first | exact Sel.head | apply Sel.tail)) | exact h.slOfBlkPre (by repeat (first | exact Sel.head | apply Sel.tail)) (bvs_len1 _))) ?_; clear hf; intro a hf
 refine sR hf hS (rd_build hf rfl rfl zr58 (by rfl) pl58 (.cons rfl (by first | rfl) (by rfl) (by repeat (first | exact Put.nil | apply Put.cons | apply Put.succ)) .nil)) ?_; clear hf; intro a hf
 refine sA hf hS zr58 ?_
 clear hf hS; intro b_e a w hf hS
 refine sS hf hS sz58 ?_
 clear hf hS; intro a w hf hS
 refine done_l (t_normal (c_seq (c_region ?_)))
 refine mN hf hS ?_; clear hf; intro a hf
 refine step_l (st_call hf (Wn.none rfl) rfl rfl rfl fn99 (SibR_c _ _ (hS.selA) (inv_text hI) (Nat.le_trans (text_rest s) hb)) rfl rfl ?_)
 clear hf hS; rintro v a w ⟨s0, s1, s2, s3, s4, s5, s6, s7, qs, cs, Ls, rfl, hSV, hLs, hS⟩ hf
 refine mN hf hS ?_; clear hf; intro a hf
 refine sR hf hS (rd_extract hf rfl rfl rfl) ?_; clear hf; intro a hf
 refine sR hf hS (rd_extract hf rfl rfl rfl) ?_; clear hf; intro a hf
 refine sA hf hS zr56 ?_
 clear hf hS; intro b_s a w hf hS
 refine sS hf hS sz56 ?_
 clear hf hS; intro a w hf hS
 refine aN hf hS ?_; clear hf; intro a hf
 refine done_l (t_normal (c_seq (c_region ?_)))
 refine sR hf hS (rd_ldN hf ag56 sz56) ?_; clear hf; intro a hf
 refine fA hf hS fb58_1 ?_; clear hf; intro a hf
 refine sS hf hS sz56 ?_
 clear hf hS; intro a w hf hS
 refine done_l (t_normal (c_seq (c_seq (c_region ?_))))
 refine step_l (st_rdb hf (Wn.none rfl) (rd_move hf rfl rfl) hS rfl rfl ?_ ?_)
 ·
  clear hf; intro hc4 a hf
  have hO := hc4
  refine nT hf hS ?_; clear hf; intro a hf
  refine mN hf hS ?_; clear hf; intro a hf
  refine sG hf hS (rd_ldN hf ag58 sz58) ?_; clear hf; intro a hf
  refine step_l (st_call hf (Wn.some hf rfl rfl rfl rfl) rfl rfl rfl fn63 (EMay_c _ _ _ _ _ _ _ _ _ _ _ _ hS (fun _ h => h.valOwn (by repeat (first | exact Sel.head | apply Sel.tail)) hLs)) rfl rfl ?_)
  clear hf hS; rintro v a w ⟨rfl, hS⟩ hf
  first | refine split_dec (d := 22) hf rfl ?_ ?_ | refine split_bool (d := 22) hf rfl ?_ ?_
  ·
   clear hf; intro hc5 hf
   have hM := hc5
   refine sG hf hS (rd_not hf rfl rfl) ?_; clear hf; intro a hf
   refine pF hf hS ?_; clear hf; intro a hf
   refine done_l (t_normal ?_)
   refine c_false hf rfl ?_
   refine c_skip (t_normal (c_seq (c_region ?_)))
   refine sR hf hS (rd_ldN hf ag58 sz58) ?_; clear hf; intro a hf
   refine sS hf hS sz58 ?_
   clear hf hS; intro a w hf hS
   refine aN hf hS ?_; clear hf; intro a hf
   refine done_l (t_normal (c_ret ?_))
   refine eC hf hS ag58 sz58 ?_
   have e := ent_yes (by rw [← hSV]) hO hM
   rw [e, entV_yes e, ← hSV]; exact ⟨(rText 32 s).1, _, _, _, _, _, _, _, _, qs, cs, Ls, rfl, rfl, hLs, hS.subA⟩
  clear hf; intro hc5 hf
  have hM := hc5
  refine sG hf hS (rd_not hf rfl rfl) ?_; clear hf; intro a hf
  refine pF hf hS ?_; clear hf; intro a hf
  refine done_l (t_normal ?_)
  refine c_true hf rfl ?_
  refine c_seq (c_region ?_)
  refine sR hf hS (rd_build hf rfl rfl zr58 (by rfl) pl58 .nil) ?_; clear hf; intro a hf
  refine sS hf hS sz58 ?_
  clear hf hS; intro a w hf hS
  refine aN hf hS ?_; clear hf; intro a hf
  refine done_l (t_normal (c_ret (t_ret ?_)))
  refine eC hf hS ag58 sz58 ?_
  have e : entOk s = false := by first | exact ent_no1 hO | exact ent_no3 hG | exact ent_no2 (by rw [← hSV]) hM
  rw [e, entV_no e]; exact ⟨[], 0, 0, 0, 0, 0, 0, 0, 0, none, 0, [], rfl, rfl, ⟨by decide, fun v hv => by cases hv⟩, Sat.all (ps := [Rw 107 4 none 0 0 [], Rws 5 []]) (l := RdP 122 p ((rEnt s).2) :: R) (((hS.subA : Sat W (RdP 122 p ((rEnt s).2) :: R) w).rwsNil 5).rwNil 107 4)⟩
 clear hf; intro hc4 a hf
 have hO := hc4
 refine nT hf hS ?_; clear hf; intro a hf
 iterate 5 ((first | refine kS hf ?_ | refine mN hf hS ?_ | refine pT hf hS ?_); clear hf; intro a hf)
 refine done_l (t_normal ?_)
 refine c_true hf rfl ?_
 refine c_seq (c_region ?_)
 refine sR hf hS (rd_build hf rfl rfl zr58 (by rfl) pl58 .nil) ?_; clear hf; intro a hf
 refine sS hf hS sz58 ?_
 clear hf hS; intro a w hf hS
 refine aN hf hS ?_; clear hf; intro a hf
 refine done_l (t_normal (c_ret (t_ret ?_)))
 refine eC hf hS ag58 sz58 ?_
 have e : entOk s = false := by first | exact ent_no1 hO | exact ent_no3 hG | exact ent_no2 (by rw [← hSV]) hM
 rw [e, entV_no e]; exact ⟨[], 0, 0, 0, 0, 0, 0, 0, 0, none, 0, [], rfl, rfl, ⟨by decide, fun v hv => by cases hv⟩, Sat.all (ps := [Rw 107 4 none 0 0 [], Rws 5 []]) (l := RdP 122 p ((rEnt s).2) :: R) (((hS.subA : Sat W (RdP 122 p ((rEnt s).2) :: R) w).rwsNil 5).rwNil 107 4)⟩

end Go.Proofs.YtcflbdpjoanbgaaGreat
