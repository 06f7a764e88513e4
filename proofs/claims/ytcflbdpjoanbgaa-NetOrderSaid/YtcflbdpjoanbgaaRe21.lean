/-
  Walked: Re2.
  Conditions: none.
-/
import Derived.Test.YtcflbdpjoanbgaaRed1
namespace Go.Proofs.Ytcflbdpjoanbgaa
open Go Go.Sl
set_option linter.unusedVariables false
set_option linter.unusedSimpArgs false

set_option maxRecDepth 100000 in
set_option maxHeartbeats 4000000 in
theorem SibR_c (p : Nat) (s : RS) {W : World} {R : List HP} {w : World} (hS : Sat W (RdP 107 p (s) :: R) w) (hI : InvR s) (hb : s.1.length ≤ 140737488355328) : Calls Try.prog 91 [.pointer (some ⟨p, 0, none⟩)].toArray w (Ret fun v w' => ∃ (s0 s1 s2 s3 s4 s5 s6 s7 : Int) (q : Option Addr) (c : Nat) (L : List ValT), v = .tuple #[.agg #[.int .i64 s0, .int .i64 s1, .int .i64 s2, .int .i64 s3, .int .i64 s4, .int .i64 s5, .int .i64 s6, .int .i64 s7, .slice q L.length c], .bool (sibOk s)] ∧ (([s0, s1, s2, s3, s4, s5, s6, s7], L.map pVal) : PSib) = sibV s ∧ okVs L ∧ Sat W (ValR 117 5 (q, c, L) :: RdP 107 p ((sibL s).2) :: R) w') := by
 refine fn_start 55 Try.func91 rfl rfl rfl ?_
 intro a hf
 refine c_seq (c_region ?_)
 refine sA hf hS zr57 ?_
 clear hf hS; intro b_r a w hf hS
 refine aN hf hS ?_; clear hf; intro a hf
 refine done_l (t_normal (c_seq (c_region ?_)))
 refine mN hf hS ?_; clear hf; intro a hf
 refine step_l (st_call hf (Wn.none rfl) rfl rfl rfl fn92 (VecR_c _ _ (hS.selA) hI hb) rfl rfl ?_)
 clear hf hS; rintro v a w ⟨s0, s1, s2, s3, s4, s5, s6, s7, rfl, hV, hS⟩ hf
 refine mN hf hS ?_; clear hf; intro a hf
 refine sR hf hS (rd_extract hf rfl rfl rfl) ?_; clear hf; intro a hf
 refine sR hf hS (rd_extract hf rfl rfl rfl) ?_; clear hf; intro a hf
 refine sA hf hS zr54 ?_
 clear hf hS; intro b_x a w hf hS
 refine sS hf hS sz54 ?_
 clear hf hS; intro a w hf hS
 refine aN hf hS ?_; clear hf; intro a hf
 refine done_l (t_normal (c_seq (c_region ?_)))
 refine sR hf hS (rd_ldN hf ag54 sz54) ?_; clear hf; intro a hf
 refine sR hf hS (rd_build hf rfl rfl zr57 (by rfl) pl57 (.cons rfl (by first | rfl) (by rfl) (by repeat (first | exact Put.nil | apply Put.cons | apply Put.succ)) .nil)) ?_; clear hf; intro a hf
 refine sA hf hS zr57 ?_
 clear hf hS; intro b_s a w hf hS
 refine sS hf hS sz57 ?_
 clear hf hS; intro a w hf hS
 refine done_l (t_normal (c_seq (c_seq (c_region ?_))))
 refine mN hf hS ?_; clear hf; intro a hf
 refine step_l (st_call hf (Wn.none rfl) rfl rfl rfl fn70 (RWCount_c _ _ _ (hS.selA) ⟨by decide, by decide⟩) rfl rfl ?_)
 clear hf hS; rintro v a w ⟨rfl, hS⟩ hf; have hn16 := rCount_most 16 (rVec s).2; rw [show rCount 16 (rVec s).2 = sibN s from rfl] at hf hS hn16
 refine mN hf hS ?_; clear hf; intro a hf
 refine done_l (t_normal (c_block ?_))
 have hk0 := Keep.ofA hf [(7, 8), (18, 40)]
 refine c_loopK hk0 (α := Nat × Option Addr × Nat × List ValT) (fun ⟨k, q, cap, L⟩ => [(18, .int .i64 (k : Nat))]) (fun ⟨k, q, cap, L⟩ w => Sat W (RdP 107 p ((rMany rVal k (sibN s).2).2) :: Blk b_s [.int .i64 s0, .int .i64 s1, .int .i64 s2, .int .i64 s3, .int .i64 s4, .int .i64 s5, .int .i64 s6, .int .i64 s7, .slice q L.length cap] 57 :: Rw 117 4 q L.length cap (L.flatMap valC) :: Rws 5 (L.map (fun v : ValT => v.2.1)) :: Blk b_x [.int .i64 s0, .int .i64 s1, .int .i64 s2, .int .i64 s3, .int .i64 s4, .int .i64 s5, .int .i64 s6, .int .i64 s7] 54 :: Blk b_r [.int .i64 0, .int .i64 0, .int .i64 0, .int .i64 0, .int .i64 0, .int .i64 0, .int .i64 0, .int .i64 0, .slice none 0 0] 57 :: R) w ∧ k ≤ (sibN s).1 ∧ L.length = k ∧ L.map pVal = (rMany rVal k (sibN s).2).1.map (capV 8) ∧ ∀ v ∈ L, v.2.1.2.2.length ≤ 200) (fun ⟨k, q, cap, L⟩ => (sibN s).1 - k) (0, none, 0, []) ((hf.keep hk0).kb hf 18 rfl (by first | rfl | exact int_eq (by omega))) ⟨((hS.rwsNil 5).rwNil 117 4).subA, ⟨by omega, rfl, rfl, fun v hv => by cases hv⟩⟩ ?_
 clear hf hS; rintro ⟨k, q, cap, L⟩ a w hf ⟨hS, ⟨hk, hlk, hok, hok2⟩⟩; (try dsimp only [List.cons_append, List.nil_append] at hf)
 refine c_seq (c_region ?_)
 refine sB hf hS (rd_lss hf rfl rfl rfl) ?_ ?_
 ·
  clear hf; intro hc4 a hf
  have hr2 : (rFlag (rDot (rMany rVal k (sibN s).2).2).2).2.1.length ≤ s.1.length := Nat.le_trans (rFlag_rest _) (Nat.le_trans (rDot_rest _) (Nat.le_trans (rest_many rVal_rest k (sibN s).2) (sibN_rest s))); have hlt := rNum_lt (rMany rVal k (sibN s).2).2; have htx := rText_most 200 (rFlag (rDot (rMany rVal k (sibN s).2).2).2).2
  refine done_l (t_normal (c_seq ?_))
  refine c_true hf rfl ?_
  refine c_skip (t_normal (c_seq (c_block (c_seq (c_region ?_)))))
  refine mN hf hS ?_; clear hf; intro a hf
  refine step_l (st_call hf (Wn.none rfl) rfl rfl rfl fn88 (RWNum_c _ _ (hS.selA)) rfl rfl ?_)
  clear hf hS; rintro v a w ⟨rfl, hS⟩ hf
  refine aN hf hS ?_; clear hf; intro a hf
  refine done_l (t_normal (c_seq (c_region ?_)))
  refine mN hf hS ?_; clear hf; intro a hf
  refine sR hf hS (rd_min hf rfl rfl rfl) ?_; clear hf; intro a hf
  refine sR hf hS (rd_convInt hf rfl rfl Try.underlying24 Try.underlying3 (Go.IntWalk.i64_in _ (by omega))) ?_; clear hf; intro a hf
  refine mN hf hS ?_; clear hf; intro a hf
  refine step_l (st_call hf (Wn.none rfl) rfl rfl rfl fn68 (RWInt_c _ _ (hS.selA)) rfl rfl ?_)
  clear hf hS; rintro v a w ⟨rfl, hS⟩ hf
  refine sR hf hS (rd_build hf rfl rfl zr83 (by rfl) pl83 (.cons rfl (by first | rfl) (by rfl) (by repeat (first | exact Put.nil | apply Put.cons | apply Put.succ)) (.cons rfl (by first | rfl) (by rfl) (by repeat (first | exact Put.nil | apply Put.cons | apply Put.succ)) .nil))) ?_; clear hf; intro a hf
  refine mN hf hS ?_; clear hf; intro a hf
  refine step_l (st_call hf (Wn.none rfl) rfl rfl rfl fn101 (RWFlag_c _ _ (hS.selA)) rfl rfl ?_)
  clear hf hS; rintro v a w ⟨rfl, hS⟩ hf
  refine sR hf hS (rd_build hf rfl rfl zr117 (by rfl) pl117 (.cons rfl (by first | rfl) (by rfl) (by repeat (first | exact Put.nil | apply Put.cons | apply Put.succ)) (.cons rfl (by first | rfl) (by rfl) (by repeat (first | exact Put.nil | apply Put.cons | apply Put.succ)) .nil))) ?_; clear hf; intro a hf
  refine sA hf hS zr117 ?_
  clear hf hS; intro b_v a w hf hS
  refine sS hf hS sz117 ?_
  clear hf hS; intro a w hf hS
  refine done_l (t_normal (c_seq (c_region ?_)))
  refine mN hf hS ?_; clear hf; intro a hf
  refine step_l (st_call hf (Wn.none rfl) rfl rfl rfl fn69 (RWText_c _ _ _ (hS.selA) ⟨by decide, by decide⟩ (Nat.le_trans hr2 hb)) rfl rfl ?_)
  clear hf hS; rintro v a w ⟨qt, capt, rfl, hS⟩ hf
  refine fA hf hS fb117_1 ?_; clear hf; intro a hf
  refine sS hf hS sz47 ?_
  clear hf hS; intro a w hf hS
  refine done_l (t_normal (c_region ?_))
  refine fA hf hS fb57_1 ?_; clear hf; intro a hf
  refine sR hf hS (rd_ld hf ag55) ?_; clear hf; intro a hf
  refine sR hf hS (rd_ldN hf ag117 sz117) ?_; clear hf; intro a hf
  refine step_l (st_buildSlice hf (Wn.none rfl) hS rfl rfl Try.underlying55 sz117 zr117 (by decide) bz117_1 rfl (.cons rfl (by first | rfl) (by rfl) (by repeat (first | exact Put.nil | apply Put.cons | apply Put.succ)) .nil) rfl rfl ?_)
  clear hf hS; intro b_6 a w hf hS
  refine step_l (st_append hf (Wn.none rfl) rfl rfl rfl Try.underlying55 tyb117 (by rfl) (by decide) hS (by repeat (first | exact Sel.head | apply Sel.tail)) (by first | exact hS.slOfBlk (by repeat (first | exact Sel.head | apply Sel.tail)) (by rfl) | exact hS.slOfBlkPre (by repeat (first | exact Sel.head | apply Sel.tail)) (bvs_len1 _) | exact hS.slOfRw (by repeat (first | exact Sel.head | apply Sel.tail)) | exact SlAt.nil _ _ _) (by first | rfl | exact bvs_one _ | (simp [Value.oneCell']; done)) (by omega) rfl rfl ?_)
  clear hf hS; intro pA capA a w hf hS hnilA
  refine fA hf hS fb57_1 ?_; clear hf; intro a hf
  refine sS hf hS sz55 ?_
  clear hf hS; intro a w hf hS
  refine done_l (b_normal (t_normal (c_region ?_)))
  refine sP hf hS ?_; clear hf; intro a hf
  refine mN hf hS ?_; clear hf; intro a hf
  refine done_l ?_
  have h1 : Sat W (Rws 5 (L.map (fun v : ValT => v.2.1)) :: Rw 5 1 qt (rText 200 (rFlag (rDot (rMany rVal k (sibN s).2).2).2).2).1.length capt (bvs (rText 200 (rFlag (rDot (rMany rVal k (sibN s).2).2).2).2).1) :: Rw 117 4 pA (L.length + 1) capA (L.flatMap valC ++ [.int .i64 (min ((rNum (rMany rVal k (sibN s).2).2).1 : Int) 8), .int .i64 (rInt (rNum (rMany rVal k (sibN s).2).2).2).1, .slice qt (rText 200 (rFlag (rDot (rMany rVal k (sibN s).2).2).2).2).1.length capt, .bool (rFlag (rDot (rMany rVal k (sibN s).2).2).2).1]) :: RdP 107 p ((rVal (rMany rVal k (sibN s).2).2).2) :: Blk b_s [.int .i64 s0, .int .i64 s1, .int .i64 s2, .int .i64 s3, .int .i64 s4, .int .i64 s5, .int .i64 s6, .int .i64 s7, .slice pA (L.length + 1) capA] 57 :: Blk b_x [.int .i64 s0, .int .i64 s1, .int .i64 s2, .int .i64 s3, .int .i64 s4, .int .i64 s5, .int .i64 s6, .int .i64 s7] 54 :: Blk b_r [.int .i64 0, .int .i64 0, .int .i64 0, .int .i64 0, .int .i64 0, .int .i64 0, .int .i64 0, .int .i64 0, .slice none 0 0] 57 :: R) w := hS.subA; replace h1 := h1.rwsSnoc rfl; have h2 : Sat W (Rw 117 4 pA (L.length + 1) capA (L.flatMap valC ++ [.int .i64 (min ((rNum (rMany rVal k (sibN s).2).2).1 : Int) 8), .int .i64 (rInt (rNum (rMany rVal k (sibN s).2).2).2).1, .slice qt (rText 200 (rFlag (rDot (rMany rVal k (sibN s).2).2).2).2).1.length capt, .bool (rFlag (rDot (rMany rVal k (sibN s).2).2).2).1]) :: Rws 5 (L.map (fun v : ValT => v.2.1) ++ [(qt, capt, (rText 200 (rFlag (rDot (rMany rVal k (sibN s).2).2).2).2).1)]) :: RdP 107 p ((rVal (rMany rVal k (sibN s).2).2).2) :: Blk b_s [.int .i64 s0, .int .i64 s1, .int .i64 s2, .int .i64 s3, .int .i64 s4, .int .i64 s5, .int .i64 s6, .int .i64 s7, .slice pA (L.length + 1) capA] 57 :: Blk b_x [.int .i64 s0, .int .i64 s1, .int .i64 s2, .int .i64 s3, .int .i64 s4, .int .i64 s5, .int .i64 s6, .int .i64 s7] 54 :: Blk b_r [.int .i64 0, .int .i64 0, .int .i64 0, .int .i64 0, .int .i64 0, .int .i64 0, .int .i64 0, .int .i64 0, .slice none 0 0] 57 :: R) w := h1.subA; replace h2 := h2.rwCast (xs' := (L ++ [((min ((rNum (rMany rVal k (sibN s).2).2).1 : Int) 8, (rInt (rNum (rMany rVal k (sibN s).2).2).2).1, ()), (qt, capt, (rText 200 (rFlag (rDot (rMany rVal k (sibN s).2).2).2).2).1), (rFlag (rDot (rMany rVal k (sibN s).2).2).2).1, ())]).flatMap valC) (by simp [valC, dotC, slv]) rfl
  refine t_normal ⟨(k + 1, pA, capA, L ++ [((min ((rNum (rMany rVal k (sibN s).2).2).1 : Int) 8, (rInt (rNum (rMany rVal k (sibN s).2).2).2).1, ()), (qt, capt, (rText 200 (rFlag (rDot (rMany rVal k (sibN s).2).2).2).2).1), (rFlag (rDot (rMany rVal k (sibN s).2).2).2).1, ())]), ((hf.backA hk0).kb hf 18 rfl (by first | rfl | exact int_eq (by omega))), ⟨(by rw [List.map_append, List.length_append]; exact h2.subA), ⟨by omega, by simp [hlk], many_snoc hok rfl, all_snoc hok2 (by show (rText 200 (rFlag (rDot (rMany rVal k (sibN s).2).2).2).2).1.length ≤ 200; omega)⟩⟩, by first | omega | (simp only []; omega)⟩
 clear hf; intro hc4 a hf
 obtain rfl : k = (sibN s).1 := by omega
 refine done_l (t_normal (c_seq ?_))
 refine c_false hf rfl ?_
 refine c_exit (t_exit (t_exit (b_exit (t_normal (c_seq (c_seq (c_region ?_)))))))
 refine step_l (st_rdb hf (Wn.none rfl) (rd_move hf rfl rfl) hS rfl rfl ?_ ?_)
 ·
  clear hf; intro hc8 a hf
  have hO := hc8
  refine nT hf hS ?_; clear hf; intro a hf
  iterate 2 ((first | refine mN hf hS ?_ | refine step_l (st_rd hf (Wn.some hf rfl rfl rfl rfl) (rd_move hf rfl rfl) hS rfl rfl ?_)); clear hf; intro a hf)
  refine step_l (st_call hf (Wn.some hf rfl rfl rfl rfl) rfl rfl rfl fn102 (SGood_c _ _ (hS.selA) (inv_sib hI)) rfl rfl ?_)
  clear hf hS; rintro v a w ⟨rfl, hS⟩ hf
  first | refine split_dec (d := 45) hf rfl ?_ ?_ | refine split_bool (d := 45) hf rfl ?_ ?_
  ·
   clear hf; intro hc9 hf
   have hG := hc9
   refine sG hf hS (rd_not hf rfl rfl) ?_; clear hf; intro a hf
   iterate 2 ((first | refine mN hf hS ?_ | refine pF hf hS ?_); clear hf; intro a hf)
   refine sG hf hS (rd_ldN hf ag57 sz57) ?_; clear hf; intro a hf
   refine step_l (st_call hf (Wn.some hf rfl rfl rfl rfl) rfl rfl rfl fn77 (SMay_c _ _ _ _ _ _ _ _ _ _ _ hS (fun _ h => valR_own h (by repeat (first | exact Sel.head | apply Sel.tail)) (by repeat (first | exact Sel.head | apply Sel.tail)) (by omega) hok2)) rfl rfl ?_)
   clear hf hS; rintro v a w ⟨rfl, hS⟩ hf
   first | refine split_dec (d := 50) hf rfl ?_ ?_ | refine split_bool (d := 50) hf rfl ?_ ?_
   ·
    clear hf; intro hc10 hf
    have hM := hc10
    refine sG hf hS (rd_not hf rfl rfl) ?_; clear hf; intro a hf
    refine pF hf hS ?_; clear hf; intro a hf
    refine done_l (t_normal ?_)
    refine c_false hf rfl ?_
    refine c_skip (t_normal (c_seq (c_region ?_)))
    refine sR hf hS (rd_ldN hf ag57 sz57) ?_; clear hf; intro a hf
    refine sS hf hS sz57 ?_
    clear hf hS; intro a w hf hS
    refine aN hf hS ?_; clear hf; intro a hf
    refine done_l (t_normal (c_ret ?_))
    refine eC hf hS ag57 sz57 ?_
    obtain ⟨e1, e2⟩ := sib_done (c := 8) (by decide) hok hO (by first | exact hG | exact Classical.not_not.1 hG) (by rw [← hV]; exact hM)
    rw [e1]; exact ⟨_, _, _, _, _, _, _, _, q, cap, L, rfl, by rw [← e2, ← hV], ⟨by omega, hok2⟩, Sat.all (ps := [Rw 117 4 q L.length cap (L.flatMap valC), Rws 5 (L.map (fun v : ValT => v.2.1))]) (l := RdP 107 p ((sibL s).2) :: R) (hS.subA)⟩
   clear hf; intro hc10 hf
   have hM := hc10
   refine sG hf hS (rd_not hf rfl rfl) ?_; clear hf; intro a hf
   refine pF hf hS ?_; clear hf; intro a hf
   refine done_l (t_normal ?_)
   refine c_true hf rfl ?_
   refine c_seq (c_region ?_)
   refine sR hf hS (rd_build hf rfl rfl zr57 (by rfl) pl57 .nil) ?_; clear hf; intro a hf
   refine sS hf hS sz57 ?_
   clear hf hS; intro a w hf hS
   refine aN hf hS ?_; clear hf; intro a hf
   refine done_l (t_normal (c_ret (t_ret ?_)))
   refine eC hf hS ag57 sz57 ?_
   have e : sibOk s = false := by first | exact sibOk_vec hO | exact sib_fail1 hG | exact sib_fail2 (c := 8) (by decide) hok hO (by rw [← hV]; exact hM)
   rw [e]; exact ⟨0, 0, 0, 0, 0, 0, 0, 0, none, 0, [], rfl, (sibV_no e).symm, ⟨by decide, fun v hv => by cases hv⟩, Sat.all (ps := [Rw 117 4 none 0 0 [], Rws 5 []]) (l := RdP 107 p ((sibL s).2) :: R) (((hS.subA : Sat W (RdP 107 p ((sibL s).2) :: R) w).rwsNil 5).rwNil 117 4)⟩
  clear hf; intro hc9 hf
  have hG := hc9
  refine sG hf hS (rd_not hf rfl rfl) ?_; clear hf; intro a hf
  iterate 6 ((first | refine kS hf ?_ | refine mN hf hS ?_ | refine pT hf hS ?_ | refine pF hf hS ?_); clear hf; intro a hf)
  refine done_l (t_normal ?_)
  refine c_true hf rfl ?_
  refine c_seq (c_region ?_)
  refine sR hf hS (rd_build hf rfl rfl zr57 (by rfl) pl57 .nil) ?_; clear hf; intro a hf
  refine sS hf hS sz57 ?_
  clear hf hS; intro a w hf hS
  refine aN hf hS ?_; clear hf; intro a hf
  refine done_l (t_normal (c_ret (t_ret ?_)))
  refine eC hf hS ag57 sz57 ?_
  have e : sibOk s = false := by first | exact sibOk_vec hO | exact sib_fail1 hG | exact sib_fail2 (c := 8) (by decide) hok hO (by rw [← hV]; exact hM)
  rw [e]; exact ⟨0, 0, 0, 0, 0, 0, 0, 0, none, 0, [], rfl, (sibV_no e).symm, ⟨by decide, fun v hv => by cases hv⟩, Sat.all (ps := [Rw 117 4 none 0 0 [], Rws 5 []]) (l := RdP 107 p ((sibL s).2) :: R) (((hS.subA : Sat W (RdP 107 p ((sibL s).2) :: R) w).rwsNil 5).rwNil 117 4)⟩
 clear hf; intro hc8 a hf
 have hO := hc8
 refine nT hf hS ?_; clear hf; intro a hf
 iterate 10 ((first | refine kS hf ?_ | refine mN hf hS ?_ | refine pT hf hS ?_); clear hf; intro a hf)
 refine done_l (t_normal ?_)
 refine c_true hf rfl ?_
 refine c_seq (c_region ?_)
 refine sR hf hS (rd_build hf rfl rfl zr57 (by rfl) pl57 .nil) ?_; clear hf; intro a hf
 refine sS hf hS sz57 ?_
 clear hf hS; intro a w hf hS
 refine aN hf hS ?_; clear hf; intro a hf
 refine done_l (t_normal (c_ret (t_ret ?_)))
 refine eC hf hS ag57 sz57 ?_
 have e : sibOk s = false := by first | exact sibOk_vec hO | exact sib_fail1 hG | exact sib_fail2 (c := 8) (by decide) hok hO (by rw [← hV]; exact hM)
 rw [e]; exact ⟨0, 0, 0, 0, 0, 0, 0, 0, none, 0, [], rfl, (sibV_no e).symm, ⟨by decide, fun v hv => by cases hv⟩, Sat.all (ps := [Rw 117 4 none 0 0 [], Rws 5 []]) (l := RdP 107 p ((sibL s).2) :: R) (((hS.subA : Sat W (RdP 107 p ((sibL s).2) :: R) w).rwsNil 5).rwNil 117 4)⟩

set_option maxRecDepth 100000 in
set_option maxHeartbeats 4000000 in
theorem EntRd_c (p : Nat) (s : RS) {W : World} {R : List HP} {w : World} (hS : Sat W (RdP 107 p (s) :: R) w) (hI : InvR s) (hb : s.1.length ≤ 140737488355328) : Calls Try.prog 71 [.pointer (some ⟨p, 0, none⟩)].toArray w (Ret fun v w' => ∃ (ky : List UInt8) (s0 s1 s2 s3 s4 s5 s6 s7 : Int) (q : Option Addr) (c : Nat) (L : List ValT), v = .tuple #[.agg #[.string (str ky), .int .i64 s0, .int .i64 s1, .int .i64 s2, .int .i64 s3, .int .i64 s4, .int .i64 s5, .int .i64 s6, .int .i64 s7, .slice q L.length c], .bool (entOk s)] ∧ ((ky, [s0, s1, s2, s3, s4, s5, s6, s7], L.map pVal) : PEnt) = entV s ∧ okVs L ∧ Sat W (ValR 117 5 (q, c, L) :: RdP 107 p ((rEnt s).2) :: R) w') := by
 refine fn_start 27 Try.func71 rfl rfl rfl ?_
 intro a hf
 refine c_seq (c_region ?_)
 refine sA hf hS zr59 ?_
 clear hf hS; intro b_r a w hf hS
 refine aN hf hS ?_; clear hf; intro a hf
 refine done_l (t_normal (c_seq (c_region ?_)))
 refine mN hf hS ?_; clear hf; intro a hf
 refine step_l (st_call hf (Wn.none rfl) rfl rfl rfl fn69 (RWText_c _ _ _ (hS.selA) ⟨by decide, by decide⟩ hb) rfl rfl ?_)
 clear hf hS; rintro v a w ⟨qt, capt, rfl, hS⟩ hf
 refine sR hf hS (rd_str hf rfl rfl Try.underlying47 Try.underlying9 Try.underlying5 (by intro _ h; first | exact h.slOfRw (by repeat (first | exact Sel.head | apply Sel.tail)) | exact h.slOfBlkPre (by repeat (first | exact Sel.head | apply Sel.tail)) (bvs_len1 _))) ?_; clear hf; intro a hf
 refine sR hf hS (rd_build hf rfl rfl zr59 (by rfl) pl59 (.cons rfl (by first | rfl) (by rfl) (by repeat (first | exact Put.nil | apply Put.cons | apply Put.succ)) .nil)) ?_; clear hf; intro a hf
 refine sA hf hS zr59 ?_
 clear hf hS; intro b_e a w hf hS
 refine sS hf hS sz59 ?_
 clear hf hS; intro a w hf hS
 refine done_l (t_normal (c_seq (c_region ?_)))
 refine mN hf hS ?_; clear hf; intro a hf
 refine step_l (st_call hf (Wn.none rfl) rfl rfl rfl fn91 (SibR_c _ _ (hS.selA) (inv_text hI) (Nat.le_trans (text_rest s) hb)) rfl rfl ?_)
 clear hf hS; rintro v a w ⟨s0, s1, s2, s3, s4, s5, s6, s7, qs, cs, Ls, rfl, hSV, hLs, hS⟩ hf
 refine mN hf hS ?_; clear hf; intro a hf
 refine sR hf hS (rd_extract hf rfl rfl rfl) ?_; clear hf; intro a hf
 refine sR hf hS (rd_extract hf rfl rfl rfl) ?_; clear hf; intro a hf
 refine sA hf hS zr57 ?_
 clear hf hS; intro b_s a w hf hS
 refine sS hf hS sz57 ?_
 clear hf hS; intro a w hf hS
 refine aN hf hS ?_; clear hf; intro a hf
 refine done_l (t_normal (c_seq (c_region ?_)))
 refine sR hf hS (rd_ldN hf ag57 sz57) ?_; clear hf; intro a hf
 refine fA hf hS fb59_1 ?_; clear hf; intro a hf
 refine sS hf hS sz57 ?_
 clear hf hS; intro a w hf hS
 refine done_l (t_normal (c_seq (c_seq (c_region ?_))))
 refine step_l (st_rdb hf (Wn.none rfl) (rd_move hf rfl rfl) hS rfl rfl ?_ ?_)
 ·
  clear hf; intro hc4 a hf
  have hO := hc4
  refine nT hf hS ?_; clear hf; intro a hf
  refine mN hf hS ?_; clear hf; intro a hf
  refine sG hf hS (rd_ldN hf ag59 sz59) ?_; clear hf; intro a hf
  refine step_l (st_call hf (Wn.some hf rfl rfl rfl rfl) rfl rfl rfl fn53 (EMay_c _ _ _ _ _ _ _ _ _ _ _ _ hS (fun _ h => h.valOwn (by repeat (first | exact Sel.head | apply Sel.tail)) hLs)) rfl rfl ?_)
  clear hf hS; rintro v a w ⟨rfl, hS⟩ hf
  first | refine split_dec (d := 22) hf rfl ?_ ?_ | refine split_bool (d := 22) hf rfl ?_ ?_
  ·
   clear hf; intro hc5 hf
   have hM := hc5
   refine sG hf hS (rd_not hf rfl rfl) ?_; clear hf; intro a hf
   refine pF hf hS ?_; clear hf; intro a hf
   refine done_l (t_normal ?_)
   refine c_false hf rfl ?_
   refine c_skip (t_normal (c_seq (c_region ?_)))
   refine sR hf hS (rd_ldN hf ag59 sz59) ?_; clear hf; intro a hf
   refine sS hf hS sz59 ?_
   clear hf hS; intro a w hf hS
   refine aN hf hS ?_; clear hf; intro a hf
   refine done_l (t_normal (c_ret ?_))
   refine eC hf hS ag59 sz59 ?_
   have e := ent_yes (by rw [← hSV]) hO hM
   rw [e, entV_yes e, ← hSV]; exact ⟨(rText 32 s).1, _, _, _, _, _, _, _, _, qs, cs, Ls, rfl, rfl, hLs, hS.subA⟩
  clear hf; intro hc5 hf
  have hM := hc5
  refine sG hf hS (rd_not hf rfl rfl) ?_; clear hf; intro a hf
  refine pF hf hS ?_; clear hf; intro a hf
  refine done_l (t_normal ?_)
  refine c_true hf rfl ?_
  refine c_seq (c_region ?_)
  refine sR hf hS (rd_build hf rfl rfl zr59 (by rfl) pl59 .nil) ?_; clear hf; intro a hf
  refine sS hf hS sz59 ?_
  clear hf hS; intro a w hf hS
  refine aN hf hS ?_; clear hf; intro a hf
  refine done_l (t_normal (c_ret (t_ret ?_)))
  refine eC hf hS ag59 sz59 ?_
  have e : entOk s = false := by first | exact ent_no1 hO | exact ent_no3 hG | exact ent_no2 (by rw [← hSV]) hM
  rw [e, entV_no e]; exact ⟨[], 0, 0, 0, 0, 0, 0, 0, 0, none, 0, [], rfl, rfl, ⟨by decide, fun v hv => by cases hv⟩, Sat.all (ps := [Rw 117 4 none 0 0 [], Rws 5 []]) (l := RdP 107 p ((rEnt s).2) :: R) (((hS.subA : Sat W (RdP 107 p ((rEnt s).2) :: R) w).rwsNil 5).rwNil 117 4)⟩
 clear hf; intro hc4 a hf
 have hO := hc4
 refine nT hf hS ?_; clear hf; intro a hf
 iterate 5 ((first | refine kS hf ?_ | refine mN hf hS ?_ | refine pT hf hS ?_); clear hf; intro a hf)
 refine done_l (t_normal ?_)
 refine c_true hf rfl ?_
 refine c_seq (c_region ?_)
 refine sR hf hS (rd_build hf rfl rfl zr59 (by rfl) pl59 .nil) ?_; clear hf; intro a hf
 refine sS hf hS sz59 ?_
 clear hf hS; intro a w hf hS
 refine aN hf hS ?_; clear hf; intro a hf
 refine done_l (t_normal (c_ret (t_ret ?_)))
 refine eC hf hS ag59 sz59 ?_
 have e : entOk s = false := by first | exact ent_no1 hO | exact ent_no3 hG | exact ent_no2 (by rw [← hSV]) hM
 rw [e, entV_no e]; exact ⟨[], 0, 0, 0, 0, 0, 0, 0, 0, none, 0, [], rfl, rfl, ⟨by decide, fun v hv => by cases hv⟩, Sat.all (ps := [Rw 117 4 none 0 0 [], Rws 5 []]) (l := RdP 107 p ((rEnt s).2) :: R) (((hS.subA : Sat W (RdP 107 p ((rEnt s).2) :: R) w).rwsNil 5).rwNil 117 4)⟩

end Go.Proofs.Ytcflbdpjoanbgaa
