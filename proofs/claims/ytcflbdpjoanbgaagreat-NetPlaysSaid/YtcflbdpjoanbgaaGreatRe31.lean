/-
  Walked: Re3.
  Conditions: none.
-/
import Derived.Test.YtcflbdpjoanbgaaGreatRe21
namespace Go.Proofs.YtcflbdpjoanbgaaGreat
open Go Go.Sl
set_option linter.unusedVariables false
set_option linter.unusedSimpArgs false

set_option maxRecDepth 100000 in
set_option maxHeartbeats 4000000 in
theorem DigRd_c (p : Nat) (s : RS) {W : World} {R : List HP} {w : World} (hS : Sat W (RdP 122 p (s) :: R) w) (hI : InvR s) (hb : s.1.length ≤ 140737488355328) : Calls Tryz.prog 82 [.pointer (some ⟨p, 0, none⟩)].toArray w (Ret fun v w' => ∃ (ky : List UInt8) (s0 s1 s2 s3 s4 s5 s6 s7 : Int) (q : Option Addr) (c : Nat) (L : List DotT), v = .tuple #[.agg #[.string (str ky), .int .i64 s0, .int .i64 s1, .int .i64 s2, .int .i64 s3, .int .i64 s4, .int .i64 s5, .int .i64 s6, .int .i64 s7, .slice q L.length c], .bool (digOk s)] ∧ ((ky, [s0, s1, s2, s3, s4, s5, s6, s7], L.map pDot) : PDig) = digV s ∧ L.length ≤ 16 ∧ Sat W (Rw 87 2 q L.length c (L.flatMap dotC) :: RdP 122 p ((rDig s).2) :: R) w') := by
 refine fn_start 56 Tryz.func82 rfl rfl rfl ?_
 intro a hf
 refine c_seq (c_region ?_)
 refine sA hf hS zr61 ?_
 clear hf hS; intro b_r a w hf hS
 refine aN hf hS ?_; clear hf; intro a hf
 refine done_l (t_normal (c_seq (c_region ?_)))
 refine mN hf hS ?_; clear hf; intro a hf
 refine step_l (st_call hf (Wn.none rfl) rfl rfl rfl fn79 (RWText_c _ _ _ (hS.selA) ⟨by decide, by decide⟩ hb) rfl rfl ?_)
 clear hf hS; rintro v a w ⟨qt, capt, rfl, hS⟩ hf
 refine sR hf hS (rd_str hf rfl rfl Tryz.underlying34 Tryz.underlying9 Tryz.underlying5 (by intro _ h; first | exact h.slOfRw (by repeat (first | exact Sel.head | apply Sel.tail)) | exact h.slOfBlkPre (by repeat (first | exact Sel.head | apply Sel.tail)) (bvs_len1 _))) ?_; clear hf; intro a hf
 refine sR hf hS (rd_build hf rfl rfl zr61 (by rfl) pl61 (.cons rfl (by first | rfl) (by rfl) (by repeat (first | exact Put.nil | apply Put.cons | apply Put.succ)) .nil)) ?_; clear hf; intro a hf
 refine sA hf hS zr61 ?_
 clear hf hS; intro b_s a w hf hS
 refine sS hf hS sz61 ?_
 clear hf hS; intro a w hf hS
 refine done_l (t_normal (c_seq (c_region ?_)))
 refine mN hf hS ?_; clear hf; intro a hf
 refine step_l (st_call hf (Wn.none rfl) rfl rfl rfl fn100 (VecR_c _ _ (hS.selA) (inv_text hI) (Nat.le_trans (text_rest s) hb)) rfl rfl ?_)
 clear hf hS; rintro v a w ⟨s0, s1, s2, s3, s4, s5, s6, s7, rfl, hV, hS⟩ hf
 refine mN hf hS ?_; clear hf; intro a hf
 refine sR hf hS (rd_extract hf rfl rfl rfl) ?_; clear hf; intro a hf
 refine sR hf hS (rd_extract hf rfl rfl rfl) ?_; clear hf; intro a hf
 refine sA hf hS zr53 ?_
 clear hf hS; intro b_x a w hf hS
 refine sS hf hS sz53 ?_
 clear hf hS; intro a w hf hS
 refine aN hf hS ?_; clear hf; intro a hf
 refine done_l (t_normal (c_seq (c_region ?_)))
 refine sR hf hS (rd_ldN hf ag53 sz53) ?_; clear hf; intro a hf
 refine fA hf hS fb61_1 ?_; clear hf; intro a hf
 refine sS hf hS sz53 ?_
 clear hf hS; intro a w hf hS
 refine done_l (t_normal (c_seq (c_seq (c_region ?_))))
 refine mN hf hS ?_; clear hf; intro a hf
 refine step_l (st_call hf (Wn.none rfl) rfl rfl rfl fn80 (RWCount_c _ _ _ (hS.selA) ⟨by decide, by decide⟩) rfl rfl ?_)
 clear hf hS; rintro v a w ⟨rfl, hS⟩ hf; have hn16 := rCount_most 16 (rVec (rText 32 s).2).2; rw [show rCount 16 (rVec (rText 32 s).2).2 = digN s from rfl] at hf hS hn16
 refine mN hf hS ?_; clear hf; intro a hf
 refine done_l (t_normal (c_block ?_))
 have hk0 := Keep.ofA hf [(7, 7), (21, 36)]
 refine c_loopK hk0 (α := Nat × Option Addr × Nat × List DotT) (fun ⟨k, q, cap, L⟩ => [(21, .int .i64 (k : Nat))]) (fun ⟨k, q, cap, L⟩ w => Sat W (RdP 122 p ((rMany rDot k (digN s).2).2) :: Blk b_s [.string (str (rText 32 s).1), .int .i64 s0, .int .i64 s1, .int .i64 s2, .int .i64 s3, .int .i64 s4, .int .i64 s5, .int .i64 s6, .int .i64 s7, .slice q L.length cap] 61 :: Rw 87 2 q L.length cap (L.flatMap dotC) :: Blk b_x [.int .i64 s0, .int .i64 s1, .int .i64 s2, .int .i64 s3, .int .i64 s4, .int .i64 s5, .int .i64 s6, .int .i64 s7] 53 :: Blk b_r [.string ⟨#[]⟩, .int .i64 0, .int .i64 0, .int .i64 0, .int .i64 0, .int .i64 0, .int .i64 0, .int .i64 0, .int .i64 0, .slice none 0 0] 61 :: R) w ∧ k ≤ (digN s).1 ∧ L.length = k ∧ L.map pDot = (rMany rDot k (digN s).2).1.map (capD 8)) (fun ⟨k, q, cap, L⟩ => (digN s).1 - k) (0, none, 0, []) ((hf.keep hk0).kb hf 21 rfl (by first | rfl | exact int_eq (by omega))) ⟨(hS.rwNil 87 2).subA, ⟨by omega, rfl, rfl⟩⟩ ?_
 clear hf hS; rintro ⟨k, q, cap, L⟩ a w hf ⟨hS, ⟨hk, hlk, hok⟩⟩; (try dsimp only [List.cons_append, List.nil_append] at hf)
 refine c_seq (c_region ?_)
 refine sB hf hS (rd_lss hf rfl rfl rfl) ?_ ?_
 ·
  clear hf; intro hc4 a hf
  have hlt := rNum_lt (rMany rDot k (digN s).2).2
  refine done_l (t_normal (c_seq ?_))
  refine c_true hf rfl ?_
  refine c_skip (t_normal (c_seq (c_block (c_seq (c_region ?_)))))
  refine mN hf hS ?_; clear hf; intro a hf
  refine step_l (st_call hf (Wn.none rfl) rfl rfl rfl fn96 (RWNum_c _ _ (hS.selA)) rfl rfl ?_)
  clear hf hS; rintro v a w ⟨rfl, hS⟩ hf
  refine aN hf hS ?_; clear hf; intro a hf
  refine done_l (t_normal ?_)
  refine any_begin (S := Sat W (R)) mixed (hS.drew.subA) ?_
  have hT : Sat W (R) _ := hS.drew.subA
  replace hS := hS.drew
  refine any_takeA (i := 0) hf rfl (Wn.none rfl) (rd_fieldAddrB hf rfl rfl fb61_2 rfl) hT rfl rfl ?_; clear hf; intro a hf
  refine any_takeA (i := 2) hf rfl (Wn.none rfl) (rd_move hf rfl rfl) hT rfl rfl ?_; clear hf; intro a hf
  refine any_takeA (i := 3) hf rfl (Wn.none rfl) (rd_min hf rfl rfl rfl) hT rfl rfl ?_; clear hf; intro a hf
  refine any_takeA (i := 4) hf rfl (Wn.none rfl) (rd_convInt hf rfl rfl Tryz.underlying67 Tryz.underlying3 (Go.IntWalk.i64_in _ (by omega))) hT rfl rfl ?_; clear hf; intro a hf
  refine any_takeA (i := 5) hf rfl (Wn.none rfl) (rd_move hf rfl rfl) hT rfl rfl ?_; clear hf; intro a hf
  refine any_two (i := 1) (j := 6) rfl rfl (by kernel_rfl) ?_ ?_
  ·
   skip
   refine st_rd hf (Wn.none rfl) (rd_ld hf ag59) hS rfl rfl ?_; clear hf; intro a hf
   refine ⟨hT, ?_⟩
   refine any_one (i := 6) rfl (by kernel_rfl) (st_call hf (Wn.none rfl) rfl rfl rfl fn78 (RWInt_c _ _ (hS.selA)) rfl rfl ?_)
   clear hf hS; rintro v a w ⟨rfl, hS⟩ hf
   replace hT := hS.subA' hT
   refine ⟨hT, ?_⟩
   refine any_takeA (i := 7) hf rfl (Wn.none rfl) (rd_build hf rfl rfl zr87 (by rfl) pl87 (.cons rfl (by first | rfl) (by rfl) (by repeat (first | exact Put.nil | apply Put.cons | apply Put.succ)) (.cons rfl (by first | rfl) (by rfl) (by repeat (first | exact Put.nil | apply Put.cons | apply Put.succ)) .nil))) hT rfl rfl ?_; clear hf; intro a hf
   refine any_one (i := 8) rfl (by kernel_rfl) (st_buildSlice hf (Wn.none rfl) hS rfl rfl Tryz.underlying59 sz87 zr87 (by decide) bz87_1 rfl (.cons rfl (by first | rfl) (by rfl) (by repeat (first | exact Put.nil | apply Put.cons | apply Put.succ)) .nil) rfl rfl ?_)
   clear hf hS; intro b_5 a w hf hS
   replace hT := hS.subA' hT
   refine ⟨hT, ?_⟩
   refine any_one (i := 9) rfl (by kernel_rfl) (st_append hf (Wn.none rfl) rfl rfl rfl Tryz.underlying59 tyb87 (by rfl) (by decide) hS (by repeat (first | exact Sel.head | apply Sel.tail)) (by first | exact hS.slOfBlk (by repeat (first | exact Sel.head | apply Sel.tail)) (by rfl) | exact hS.slOfBlkPre (by repeat (first | exact Sel.head | apply Sel.tail)) (bvs_len1 _) | exact hS.slOfRw (by repeat (first | exact Sel.head | apply Sel.tail)) | exact SlAt.nil _ _ _) (by first | rfl | exact bvs_one _ | (simp [Value.oneCell']; done)) (by omega) rfl rfl ?_)
   clear hf hS; intro pA capA a w hf hS hnilA
   replace hT := hS.subA' hT
   refine ⟨hT, ?_⟩
   refine any_takeA (i := 10) hf rfl (Wn.none rfl) (rd_fieldAddrB hf rfl rfl fb61_2 rfl) hT rfl rfl ?_; clear hf; intro a hf
   refine any_one (i := 11) rfl (by kernel_rfl) (st_store hf (Wn.none rfl) hS rfl rfl rfl (by rfl) sz59 (by rfl) (by rfl) (by repeat (first | exact Sel.head | apply Sel.tail)) (by repeat (first | exact Put.nil | apply Put.cons | apply Put.succ)) rfl ?_)
   clear hf hS; intro a w hf hS
   replace hT := hS.subA' hT
   refine ⟨hT, ?_⟩
   refine any_done (by kernel_rfl) ?_
   refine b_normal (t_normal (c_region ?_))
   refine sP hf hS ?_; clear hf; intro a hf
   refine mN hf hS ?_; clear hf; intro a hf
   refine done_l ?_
   have h2 : Sat W (Rw 87 2 pA (L.length + 1) capA (L.flatMap dotC ++ [.int .i64 (min ((rNum (rMany rDot k (digN s).2).2).1 : Int) 8), .int .i64 (rInt (rNum (rMany rDot k (digN s).2).2).2).1]) :: RdP 122 p ((rDot (rMany rDot k (digN s).2).2).2) :: Blk b_s [.string (str (rText 32 s).1), .int .i64 s0, .int .i64 s1, .int .i64 s2, .int .i64 s3, .int .i64 s4, .int .i64 s5, .int .i64 s6, .int .i64 s7, .slice pA (L.length + 1) capA] 61 :: Blk b_x [.int .i64 s0, .int .i64 s1, .int .i64 s2, .int .i64 s3, .int .i64 s4, .int .i64 s5, .int .i64 s6, .int .i64 s7] 53 :: Blk b_r [.string ⟨#[]⟩, .int .i64 0, .int .i64 0, .int .i64 0, .int .i64 0, .int .i64 0, .int .i64 0, .int .i64 0, .int .i64 0, .slice none 0 0] 61 :: R) w := hS.subA; replace h2 := h2.rwCast (xs' := (L ++ [(min ((rNum (rMany rDot k (digN s).2).2).1 : Int) 8, (rInt (rNum (rMany rDot k (digN s).2).2).2).1, ())]).flatMap dotC) (by simp [dotC]) rfl
   refine t_normal ⟨(k + 1, pA, capA, L ++ [(min ((rNum (rMany rDot k (digN s).2).2).1 : Int) 8, (rInt (rNum (rMany rDot k (digN s).2).2).2).1, ())]), ((hf.backA hk0).kb hf 21 rfl (by first | rfl | exact int_eq (by omega))), ⟨(by rw [List.length_append]; exact h2.subA), ⟨by omega, by simp [hlk], many_snoc hok rfl⟩⟩, by first | omega | (simp only []; omega)⟩
  ·
   skip
   refine st_call hf (Wn.none rfl) rfl rfl rfl fn78 (RWInt_c _ _ (hS.selA)) rfl rfl ?_
   clear hf hS; rintro v a w ⟨rfl, hS⟩ hf
   replace hT := hS.subA' hT
   refine ⟨hT, ?_⟩
   refine any_takeA (i := 7) hf rfl (Wn.none rfl) (rd_build hf rfl rfl zr87 (by rfl) pl87 (.cons rfl (by first | rfl) (by rfl) (by repeat (first | exact Put.nil | apply Put.cons | apply Put.succ)) (.cons rfl (by first | rfl) (by rfl) (by repeat (first | exact Put.nil | apply Put.cons | apply Put.succ)) .nil))) hT rfl rfl ?_; clear hf; intro a hf
   refine any_two (i := 1) (j := 8) rfl rfl (by kernel_rfl) ?_ ?_
   ·
    skip
    refine st_rd hf (Wn.none rfl) (rd_ld hf ag59) hS rfl rfl ?_; clear hf; intro a hf
    refine ⟨hT, ?_⟩
    refine any_one (i := 8) rfl (by kernel_rfl) (st_buildSlice hf (Wn.none rfl) hS rfl rfl Tryz.underlying59 sz87 zr87 (by decide) bz87_1 rfl (.cons rfl (by first | rfl) (by rfl) (by repeat (first | exact Put.nil | apply Put.cons | apply Put.succ)) .nil) rfl rfl ?_)
    clear hf hS; intro b_7 a w hf hS
    replace hT := hS.subA' hT
    refine ⟨hT, ?_⟩
    refine any_one (i := 9) rfl (by kernel_rfl) (st_append hf (Wn.none rfl) rfl rfl rfl Tryz.underlying59 tyb87 (by rfl) (by decide) hS (by repeat (first | exact Sel.head | apply Sel.tail)) (by first | exact hS.slOfBlk (by repeat (first | exact Sel.head | apply Sel.tail)) (by rfl) | exact hS.slOfBlkPre (by repeat (first | exact Sel.head | apply Sel.tail)) (bvs_len1 _) | exact hS.slOfRw (by repeat (first | exact Sel.head | apply Sel.tail)) | exact SlAt.nil _ _ _) (by first | rfl | exact bvs_one _ | (simp [Value.oneCell']; done)) (by omega) rfl rfl ?_)
    clear hf hS; intro pA capA a w hf hS hnilA
    replace hT := hS.subA' hT
    refine ⟨hT, ?_⟩
    refine any_takeA (i := 10) hf rfl (Wn.none rfl) (rd_fieldAddrB hf rfl rfl fb61_2 rfl) hT rfl rfl ?_; clear hf; intro a hf
    refine any_one (i := 11) rfl (by kernel_rfl) (st_store hf (Wn.none rfl) hS rfl rfl rfl (by rfl) sz59 (by rfl) (by rfl) (by repeat (first | exact Sel.head | apply Sel.tail)) (by repeat (first | exact Put.nil | apply Put.cons | apply Put.succ)) rfl ?_)
    clear hf hS; intro a w hf hS
    replace hT := hS.subA' hT
    refine ⟨hT, ?_⟩
    refine any_done (by kernel_rfl) ?_
    refine b_normal (t_normal (c_region ?_))
    refine sP hf hS ?_; clear hf; intro a hf
    refine mN hf hS ?_; clear hf; intro a hf
    refine done_l ?_
    have h2 : Sat W (Rw 87 2 pA (L.length + 1) capA (L.flatMap dotC ++ [.int .i64 (min ((rNum (rMany rDot k (digN s).2).2).1 : Int) 8), .int .i64 (rInt (rNum (rMany rDot k (digN s).2).2).2).1]) :: RdP 122 p ((rDot (rMany rDot k (digN s).2).2).2) :: Blk b_s [.string (str (rText 32 s).1), .int .i64 s0, .int .i64 s1, .int .i64 s2, .int .i64 s3, .int .i64 s4, .int .i64 s5, .int .i64 s6, .int .i64 s7, .slice pA (L.length + 1) capA] 61 :: Blk b_x [.int .i64 s0, .int .i64 s1, .int .i64 s2, .int .i64 s3, .int .i64 s4, .int .i64 s5, .int .i64 s6, .int .i64 s7] 53 :: Blk b_r [.string ⟨#[]⟩, .int .i64 0, .int .i64 0, .int .i64 0, .int .i64 0, .int .i64 0, .int .i64 0, .int .i64 0, .int .i64 0, .slice none 0 0] 61 :: R) w := hS.subA; replace h2 := h2.rwCast (xs' := (L ++ [(min ((rNum (rMany rDot k (digN s).2).2).1 : Int) 8, (rInt (rNum (rMany rDot k (digN s).2).2).2).1, ())]).flatMap dotC) (by simp [dotC]) rfl
    refine t_normal ⟨(k + 1, pA, capA, L ++ [(min ((rNum (rMany rDot k (digN s).2).2).1 : Int) 8, (rInt (rNum (rMany rDot k (digN s).2).2).2).1, ())]), ((hf.backA hk0).kb hf 21 rfl (by first | rfl | exact int_eq (by omega))), ⟨(by rw [List.length_append]; exact h2.subA), ⟨by omega, by simp [hlk], many_snoc hok rfl⟩⟩, by first | omega | (simp only []; omega)⟩
   ·
    skip
    refine st_buildSlice hf (Wn.none rfl) hS rfl rfl Tryz.underlying59 sz87 zr87 (by decide) bz87_1 rfl (.cons rfl (by first | rfl) (by rfl) (by repeat (first | exact Put.nil | apply Put.cons | apply Put.succ)) .nil) rfl rfl ?_
    clear hf hS; intro b_9 a w hf hS
    replace hT := hS.subA' hT
    refine ⟨hT, ?_⟩
    refine any_one (i := 1) rfl (by kernel_rfl) (st_rd hf (Wn.none rfl) (rd_ld hf ag59) hS rfl rfl ?_)
    clear hf; intro a hf
    refine ⟨hT, ?_⟩
    refine any_one (i := 9) rfl (by kernel_rfl) (st_append hf (Wn.none rfl) rfl rfl rfl Tryz.underlying59 tyb87 (by rfl) (by decide) hS (by repeat (first | exact Sel.head | apply Sel.tail)) (by first | exact hS.slOfBlk (by repeat (first | exact Sel.head | apply Sel.tail)) (by rfl) | exact hS.slOfBlkPre (by repeat (first | exact Sel.head | apply Sel.tail)) (bvs_len1 _) | exact hS.slOfRw (by repeat (first | exact Sel.head | apply Sel.tail)) | exact SlAt.nil _ _ _) (by first | rfl | exact bvs_one _ | (simp [Value.oneCell']; done)) (by omega) rfl rfl ?_)
    clear hf hS; intro pA capA a w hf hS hnilA
    replace hT := hS.subA' hT
    refine ⟨hT, ?_⟩
    refine any_takeA (i := 10) hf rfl (Wn.none rfl) (rd_fieldAddrB hf rfl rfl fb61_2 rfl) hT rfl rfl ?_; clear hf; intro a hf
    refine any_one (i := 11) rfl (by kernel_rfl) (st_store hf (Wn.none rfl) hS rfl rfl rfl (by rfl) sz59 (by rfl) (by rfl) (by repeat (first | exact Sel.head | apply Sel.tail)) (by repeat (first | exact Put.nil | apply Put.cons | apply Put.succ)) rfl ?_)
    clear hf hS; intro a w hf hS
    replace hT := hS.subA' hT
    refine ⟨hT, ?_⟩
    refine any_done (by kernel_rfl) ?_
    refine b_normal (t_normal (c_region ?_))
    refine sP hf hS ?_; clear hf; intro a hf
    refine mN hf hS ?_; clear hf; intro a hf
    refine done_l ?_
    have h2 : Sat W (Rw 87 2 pA (L.length + 1) capA (L.flatMap dotC ++ [.int .i64 (min ((rNum (rMany rDot k (digN s).2).2).1 : Int) 8), .int .i64 (rInt (rNum (rMany rDot k (digN s).2).2).2).1]) :: RdP 122 p ((rDot (rMany rDot k (digN s).2).2).2) :: Blk b_s [.string (str (rText 32 s).1), .int .i64 s0, .int .i64 s1, .int .i64 s2, .int .i64 s3, .int .i64 s4, .int .i64 s5, .int .i64 s6, .int .i64 s7, .slice pA (L.length + 1) capA] 61 :: Blk b_x [.int .i64 s0, .int .i64 s1, .int .i64 s2, .int .i64 s3, .int .i64 s4, .int .i64 s5, .int .i64 s6, .int .i64 s7] 53 :: Blk b_r [.string ⟨#[]⟩, .int .i64 0, .int .i64 0, .int .i64 0, .int .i64 0, .int .i64 0, .int .i64 0, .int .i64 0, .int .i64 0, .slice none 0 0] 61 :: R) w := hS.subA; replace h2 := h2.rwCast (xs' := (L ++ [(min ((rNum (rMany rDot k (digN s).2).2).1 : Int) 8, (rInt (rNum (rMany rDot k (digN s).2).2).2).1, ())]).flatMap dotC) (by simp [dotC]) rfl
    refine t_normal ⟨(k + 1, pA, capA, L ++ [(min ((rNum (rMany rDot k (digN s).2).2).1 : Int) 8, (rInt (rNum (rMany rDot k (digN s).2).2).2).1, ())]), ((hf.backA hk0).kb hf 21 rfl (by first | rfl | exact int_eq (by omega))), ⟨(by rw [List.length_append]; exact h2.subA), ⟨by omega, by simp [hlk], many_snoc hok rfl⟩⟩, by first | omega | (simp only []; omega)⟩
 clear hf; intro hc4 a hf
 obtain rfl : k = (digN s).1 := by omega
 refine done_l (t_normal (c_seq ?_))
 refine c_false hf rfl ?_
 refine c_exit (t_exit (t_exit (b_exit (t_normal (c_seq (c_seq (c_region ?_)))))))
 refine step_l (st_rdb hf (Wn.none rfl) (rd_move hf rfl rfl) hS rfl rfl ?_ ?_)
 ·
  clear hf; intro hc11 a hf
  have hO := hc11
  refine nT hf hS ?_; clear hf; intro a hf
  iterate 2 ((first | refine mN hf hS ?_ | refine step_l (st_rd hf (Wn.some hf rfl rfl rfl rfl) (rd_move hf rfl rfl) hS rfl rfl ?_)); clear hf; intro a hf)
  refine step_l (st_call hf (Wn.some hf rfl rfl rfl rfl) rfl rfl rfl fn45 (RWEnd_c _ _ (hS.selA)) rfl rfl ?_)
  clear hf hS; rintro v a w ⟨rfl, hS⟩ hf
  refine step_l (st_rdB hf (Wn.some hf rfl rfl rfl rfl) (rd_neq hf rfl rfl rfl) hS rfl rfl ?_ ?_)
  ·
   clear hf; intro hc12 a hf
   have hE := hc12
   iterate 2 (refine step_l (st_rd hf (Wn.some hf rfl rfl rfl rfl) (rd_move hf rfl rfl) hS rfl rfl ?_); clear hf; intro a hf)
   refine step_l (st_call hf (Wn.some hf rfl rfl rfl rfl) rfl rfl rfl fn101 (RWLeft_c _ _ (hS.selA)) rfl rfl ?_)
   clear hf hS; rintro v a w ⟨rfl, hS⟩ hf
   refine step_l (st_rdB hf (Wn.some hf rfl rfl rfl rfl) (rd_eql hf rfl rfl rfl) hS rfl rfl ?_ ?_)
   ·
    clear hf; intro hc13 a hf
    have hL := hc13
    iterate 7 ((first | refine kS hf ?_ | refine mN hf hS ?_ | refine pT hf hS ?_ | refine step_l (st_rd hf (Wn.some hf rfl rfl rfl rfl) (rd_pick_t hf rfl rfl rfl) hS rfl rfl ?_) | refine pF hf hS ?_); clear hf; intro a hf)
    refine done_l (t_normal ?_)
    refine c_true hf rfl ?_
    refine c_seq (c_region ?_)
    refine sR hf hS (rd_build hf rfl rfl zr61 (by rfl) pl61 .nil) ?_; clear hf; intro a hf
    refine sS hf hS sz61 ?_
    clear hf hS; intro a w hf hS
    refine aN hf hS ?_; clear hf; intro a hf
    refine done_l (t_normal (c_ret (t_ret ?_)))
    refine eC hf hS ag61 sz61 ?_
    have e : digOk s = false := by first | exact digOk_vec hO | exact dig_fail1 (end_left (inv_dig hI) hE (by have h0 : ((digL s).2.1.length : Int) = 0 := hL; omega)) | exact dig_fail2 (c := 8) (by decide) rfl hok hO (by rw [← hV]; exact hM)
    rw [e]; exact ⟨[], 0, 0, 0, 0, 0, 0, 0, 0, none, 0, [], rfl, (digV_no e).symm, by decide, (hS.rwNil 87 2).subA⟩
   clear hf; intro hc13 a hf
   have hL := hc13
   iterate 3 ((first | refine mN hf hS ?_ | refine step_l (st_rd hf (Wn.some hf rfl rfl rfl rfl) (rd_pick_t hf rfl rfl rfl) hS rfl rfl ?_) | refine pF hf hS ?_); clear hf; intro a hf)
   refine sG hf hS (rd_ldN hf ag61 sz61) ?_; clear hf; intro a hf
   refine step_l (st_call hf (Wn.some hf rfl rfl rfl rfl) rfl rfl rfl fn66 (DMay_c _ _ _ _ _ _ _ _ _ _ _ _ hS (fun _ h => ⟨h.slOfRw (by repeat (first | exact Sel.head | apply Sel.tail)), by show L.length ≤ _; omega⟩)) rfl rfl ?_)
   clear hf hS; rintro v a w ⟨rfl, hS⟩ hf
   first | refine split_dec (d := 51) hf rfl ?_ ?_ | refine split_bool (d := 51) hf rfl ?_ ?_
   ·
    clear hf; intro hc14 hf
    have hM := hc14
    refine sG hf hS (rd_not hf rfl rfl) ?_; clear hf; intro a hf
    refine pF hf hS ?_; clear hf; intro a hf
    refine done_l (t_normal ?_)
    refine c_false hf rfl ?_
    refine c_skip (t_normal (c_seq (c_region ?_)))
    refine sR hf hS (rd_ldN hf ag61 sz61) ?_; clear hf; intro a hf
    refine sS hf hS sz61 ?_
    clear hf hS; intro a w hf hS
    refine aN hf hS ?_; clear hf; intro a hf
    refine done_l (t_normal (c_ret ?_))
    refine eC hf hS ag61 sz61 ?_
    obtain ⟨e1, e2⟩ := dig_done (c := 8) (by decide) rfl hok hO (end_left2 (inv_dig hI) (by first | exact .inl (Classical.not_not.1 hE) | exact .inr (by have h0 : ¬ ((digL s).2.1.length : Int) = 0 := hL; omega))) (by rw [← hV]; exact hM)
    rw [e1]; exact ⟨(rText 32 s).1, _, _, _, _, _, _, _, _, q, cap, L, rfl, by rw [← e2, ← hV], by omega, hS.subA⟩
   clear hf; intro hc14 hf
   have hM := hc14
   refine sG hf hS (rd_not hf rfl rfl) ?_; clear hf; intro a hf
   refine pF hf hS ?_; clear hf; intro a hf
   refine done_l (t_normal ?_)
   refine c_true hf rfl ?_
   refine c_seq (c_region ?_)
   refine sR hf hS (rd_build hf rfl rfl zr61 (by rfl) pl61 .nil) ?_; clear hf; intro a hf
   refine sS hf hS sz61 ?_
   clear hf hS; intro a w hf hS
   refine aN hf hS ?_; clear hf; intro a hf
   refine done_l (t_normal (c_ret (t_ret ?_)))
   refine eC hf hS ag61 sz61 ?_
   have e : digOk s = false := by first | exact digOk_vec hO | exact dig_fail1 (end_left (inv_dig hI) hE (by have h0 : ((digL s).2.1.length : Int) = 0 := hL; omega)) | exact dig_fail2 (c := 8) (by decide) rfl hok hO (by rw [← hV]; exact hM)
   rw [e]; exact ⟨[], 0, 0, 0, 0, 0, 0, 0, 0, none, 0, [], rfl, (digV_no e).symm, by decide, (hS.rwNil 87 2).subA⟩
  clear hf; intro hc12 a hf
  have hE := hc12
  iterate 7 ((first | refine kS hf ?_ | refine mN hf hS ?_ | refine step_l (st_rd hf (Wn.some hf rfl rfl rfl rfl) (rd_move hf rfl rfl) hS rfl rfl ?_) | refine pF hf hS ?_ | refine step_l (st_rd hf (Wn.some hf rfl rfl rfl rfl) (rd_pick_f hf rfl rfl rfl) hS rfl rfl ?_)); clear hf; intro a hf)
  refine sG hf hS (rd_ldN hf ag61 sz61) ?_; clear hf; intro a hf
  refine step_l (st_call hf (Wn.some hf rfl rfl rfl rfl) rfl rfl rfl fn66 (DMay_c _ _ _ _ _ _ _ _ _ _ _ _ hS (fun _ h => ⟨h.slOfRw (by repeat (first | exact Sel.head | apply Sel.tail)), by show L.length ≤ _; omega⟩)) rfl rfl ?_)
  clear hf hS; rintro v a w ⟨rfl, hS⟩ hf
  first | refine split_dec (d := 51) hf rfl ?_ ?_ | refine split_bool (d := 51) hf rfl ?_ ?_
  ·
   clear hf; intro hc15 hf
   have hM := hc15
   refine sG hf hS (rd_not hf rfl rfl) ?_; clear hf; intro a hf
   refine pF hf hS ?_; clear hf; intro a hf
   refine done_l (t_normal ?_)
   refine c_false hf rfl ?_
   refine c_skip (t_normal (c_seq (c_region ?_)))
   refine sR hf hS (rd_ldN hf ag61 sz61) ?_; clear hf; intro a hf
   refine sS hf hS sz61 ?_
   clear hf hS; intro a w hf hS
   refine aN hf hS ?_; clear hf; intro a hf
   refine done_l (t_normal (c_ret ?_))
   refine eC hf hS ag61 sz61 ?_
   obtain ⟨e1, e2⟩ := dig_done (c := 8) (by decide) rfl hok hO (end_left2 (inv_dig hI) (by first | exact .inl (Classical.not_not.1 hE) | exact .inr (by have h0 : ¬ ((digL s).2.1.length : Int) = 0 := hL; omega))) (by rw [← hV]; exact hM)
   rw [e1]; exact ⟨(rText 32 s).1, _, _, _, _, _, _, _, _, q, cap, L, rfl, by rw [← e2, ← hV], by omega, hS.subA⟩
  clear hf; intro hc15 hf
  have hM := hc15
  refine sG hf hS (rd_not hf rfl rfl) ?_; clear hf; intro a hf
  refine pF hf hS ?_; clear hf; intro a hf
  refine done_l (t_normal ?_)
  refine c_true hf rfl ?_
  refine c_seq (c_region ?_)
  refine sR hf hS (rd_build hf rfl rfl zr61 (by rfl) pl61 .nil) ?_; clear hf; intro a hf
  refine sS hf hS sz61 ?_
  clear hf hS; intro a w hf hS
  refine aN hf hS ?_; clear hf; intro a hf
  refine done_l (t_normal (c_ret (t_ret ?_)))
  refine eC hf hS ag61 sz61 ?_
  have e : digOk s = false := by first | exact digOk_vec hO | exact dig_fail1 (end_left (inv_dig hI) hE (by have h0 : ((digL s).2.1.length : Int) = 0 := hL; omega)) | exact dig_fail2 (c := 8) (by decide) rfl hok hO (by rw [← hV]; exact hM)
  rw [e]; exact ⟨[], 0, 0, 0, 0, 0, 0, 0, 0, none, 0, [], rfl, (digV_no e).symm, by decide, (hS.rwNil 87 2).subA⟩
 clear hf; intro hc11 a hf
 have hO := hc11
 refine nT hf hS ?_; clear hf; intro a hf
 iterate 15 ((first | refine kS hf ?_ | refine kU hf ?_ | refine mN hf hS ?_ | refine pT hf hS ?_); clear hf; intro a hf)
 refine done_l (t_normal ?_)
 refine c_true hf rfl ?_
 refine c_seq (c_region ?_)
 refine sR hf hS (rd_build hf rfl rfl zr61 (by rfl) pl61 .nil) ?_; clear hf; intro a hf
 refine sS hf hS sz61 ?_
 clear hf hS; intro a w hf hS
 refine aN hf hS ?_; clear hf; intro a hf
 refine done_l (t_normal (c_ret (t_ret ?_)))
 refine eC hf hS ag61 sz61 ?_
 have e : digOk s = false := by first | exact digOk_vec hO | exact dig_fail1 (end_left (inv_dig hI) hE (by have h0 : ((digL s).2.1.length : Int) = 0 := hL; omega)) | exact dig_fail2 (c := 8) (by decide) rfl hok hO (by rw [← hV]; exact hM)
 rw [e]; exact ⟨[], 0, 0, 0, 0, 0, 0, 0, 0, none, 0, [], rfl, (digV_no e).symm, by decide, (hS.rwNil 87 2).subA⟩

theorem MemRd_c (p : Nat) (s : RS) {W : World} {R : List HP} {w : World} (hS : Sat W (RdP 122 p (s) :: R) w) (hI : InvR s) : Calls Tryz.prog 83 [.pointer (some ⟨p, 0, none⟩)].toArray w (Ret fun v w' => v = .tuple #[.agg #[.int .i64 (memV s).1, .int .i64 (memV s).2], .bool (memOk s)] ∧ Sat W (RdP 122 p ((rMem s).2) :: R) w') := by
 refine fn_start 29 Tryz.func83 rfl rfl rfl ?_
 intro a hf
 have hlt := rNum_lt s
 refine c_seq (c_region ?_)
 refine sA hf hS zr73 ?_
 clear hf hS; intro b_r a w hf hS
 refine aN hf hS ?_; clear hf; intro a hf
 refine done_l (t_normal (c_seq (c_region ?_)))
 refine mN hf hS ?_; clear hf; intro a hf
 refine step_l (st_call hf (Wn.none rfl) rfl rfl rfl fn96 (RWNum_c _ _ (hS.selA)) rfl rfl ?_)
 clear hf hS; rintro v a w ⟨rfl, hS⟩ hf
 refine aN hf hS ?_; clear hf; intro a hf
 refine done_l (t_normal (c_seq (c_region ?_)))
 refine mN hf hS ?_; clear hf; intro a hf
 refine sR hf hS (rd_min hf rfl rfl rfl) ?_; clear hf; intro a hf
 refine sR hf hS (rd_convInt hf rfl rfl Tryz.underlying67 Tryz.underlying3 (Go.IntWalk.i64_in _ (by omega))) ?_; clear hf; intro a hf
 refine mN hf hS ?_; clear hf; intro a hf
 refine step_l (st_call hf (Wn.none rfl) rfl rfl rfl fn78 (RWInt_c _ _ (hS.selA)) rfl rfl ?_)
 clear hf hS; rintro v a w ⟨rfl, hS⟩ hf
 refine sR hf hS (rd_build hf rfl rfl zr73 (by rfl) pl73 (.cons rfl (by first | rfl) (by rfl) (by repeat (first | exact Put.nil | apply Put.cons | apply Put.succ)) (.cons rfl (by first | rfl) (by rfl) (by repeat (first | exact Put.nil | apply Put.cons | apply Put.succ)) .nil))) ?_; clear hf; intro a hf
 refine sA hf hS zr73 ?_
 clear hf hS; intro b_m a w hf hS
 refine sS hf hS sz73 ?_
 clear hf hS; intro a w hf hS
 refine done_l (t_normal (c_seq (c_seq (c_region ?_))))
 refine mN hf hS ?_; clear hf; intro a hf
 refine step_l (st_call hf (Wn.none rfl) rfl rfl rfl fn45 (RWEnd_c _ _ (hS.selA)) rfl rfl ?_)
 clear hf hS; rintro v a w ⟨rfl, hS⟩ hf
 refine sB hf hS (rd_neq hf rfl rfl rfl) ?_ ?_
 ·
  clear hf; intro hc3 a hf
  have hE := hc3
  iterate 2 ((first | refine mN hf hS ?_ | refine step_l (st_rd hf (Wn.some hf rfl rfl rfl rfl) (rd_move hf rfl rfl) hS rfl rfl ?_)); clear hf; intro a hf)
  refine step_l (st_call hf (Wn.some hf rfl rfl rfl rfl) rfl rfl rfl fn101 (RWLeft_c _ _ (hS.selA)) rfl rfl ?_)
  clear hf hS; rintro v a w ⟨rfl, hS⟩ hf
  refine step_l (st_rdB hf (Wn.some hf rfl rfl rfl rfl) (rd_eql hf rfl rfl rfl) hS rfl rfl ?_ ?_)
  ·
   clear hf; intro hc4 a hf
   have hL := hc4
   iterate 6 ((first | refine kS hf ?_ | refine mN hf hS ?_ | refine pT hf hS ?_); clear hf; intro a hf)
   refine done_l (t_normal ?_)
   refine c_true hf rfl ?_
   refine c_seq (c_region ?_)
   refine sR hf hS (rd_build hf rfl rfl zr73 (by rfl) pl73 .nil) ?_; clear hf; intro a hf
   refine sS hf hS sz73 ?_
   clear hf hS; intro a w hf hS
   refine aN hf hS ?_; clear hf; intro a hf
   refine done_l (t_normal (c_ret (t_ret ?_)))
   refine eC hf hS ag73 sz73 ?_
   have e : memOk s = false := by first | exact mem_fail1 (end_left (inv_dot hI) hE (by have h0 : ((rDot s).2.1.length : Int) = 0 := hL; omega)) | exact mem_fail2 (c := 3) (by decide) hM
   rw [e, memV_no e]; exact ⟨rfl, hS.subA⟩
  clear hf; intro hc4 a hf
  have hL := hc4
  iterate 2 ((first | refine mN hf hS ?_ | refine pT hf hS ?_); clear hf; intro a hf)
  refine sG hf hS (rd_ldN hf ag73 sz73) ?_; clear hf; intro a hf
  refine step_l (st_call hf (Wn.some hf rfl rfl rfl rfl) rfl rfl rfl fn69 (MMay_c _ _ hS) rfl rfl ?_)
  clear hf hS; rintro v a w ⟨rfl, hS⟩ hf
  first | refine split_dec (d := 24) hf rfl ?_ ?_ | refine split_bool (d := 24) hf rfl ?_ ?_
  ·
   clear hf; intro hc5 hf
   have hM : mayMem (capD 3 (rDot s).1) = true := by first | exact hc5 | exact decide_eq_true hc5
   refine sG hf hS (rd_not hf rfl rfl) ?_; clear hf; intro a hf
   refine pF hf hS ?_; clear hf; intro a hf
   refine done_l (t_normal ?_)
   refine c_false hf rfl ?_
   refine c_skip (t_normal (c_seq (c_region ?_)))
   refine sR hf hS (rd_ldN hf ag73 sz73) ?_; clear hf; intro a hf
   refine sS hf hS sz73 ?_
   clear hf hS; intro a w hf hS
   refine aN hf hS ?_; clear hf; intro a hf
   refine done_l (t_normal (c_ret ?_))
   refine eC hf hS ag73 sz73 ?_
   obtain ⟨e1, e2⟩ := mem_done (c := 3) (by decide) (end_left2 (inv_dot hI) (by first | exact .inl (Classical.not_not.1 hE) | exact .inr (by have h0 : ¬ ((rDot s).2.1.length : Int) = 0 := hL; omega))) hM
   rw [e1, ← e2]; exact ⟨rfl, hS.subA⟩
  clear hf; intro hc5 hf
  have hM : mayMem (capD 3 (rDot s).1) = false := by first | exact hc5 | exact decide_eq_false hc5
  refine sG hf hS (rd_not hf rfl rfl) ?_; clear hf; intro a hf
  refine pF hf hS ?_; clear hf; intro a hf
  refine done_l (t_normal ?_)
  refine c_true hf rfl ?_
  refine c_seq (c_region ?_)
  refine sR hf hS (rd_build hf rfl rfl zr73 (by rfl) pl73 .nil) ?_; clear hf; intro a hf
  refine sS hf hS sz73 ?_
  clear hf hS; intro a w hf hS
  refine aN hf hS ?_; clear hf; intro a hf
  refine done_l (t_normal (c_ret (t_ret ?_)))
  refine eC hf hS ag73 sz73 ?_
  have e : memOk s = false := by first | exact mem_fail1 (end_left (inv_dot hI) hE (by have h0 : ((rDot s).2.1.length : Int) = 0 := hL; omega)) | exact mem_fail2 (c := 3) (by decide) hM
  rw [e, memV_no e]; exact ⟨rfl, hS.subA⟩
 clear hf; intro hc3 a hf
 have hE := hc3
 iterate 6 ((first | refine kS hf ?_ | refine mN hf hS ?_ | refine pF hf hS ?_); clear hf; intro a hf)
 refine sG hf hS (rd_ldN hf ag73 sz73) ?_; clear hf; intro a hf
 refine step_l (st_call hf (Wn.some hf rfl rfl rfl rfl) rfl rfl rfl fn69 (MMay_c _ _ hS) rfl rfl ?_)
 clear hf hS; rintro v a w ⟨rfl, hS⟩ hf
 first | refine split_dec (d := 24) hf rfl ?_ ?_ | refine split_bool (d := 24) hf rfl ?_ ?_
 ·
  clear hf; intro hc6 hf
  have hM : mayMem (capD 3 (rDot s).1) = true := by first | exact hc6 | exact decide_eq_true hc6
  refine sG hf hS (rd_not hf rfl rfl) ?_; clear hf; intro a hf
  refine pF hf hS ?_; clear hf; intro a hf
  refine done_l (t_normal ?_)
  refine c_false hf rfl ?_
  refine c_skip (t_normal (c_seq (c_region ?_)))
  refine sR hf hS (rd_ldN hf ag73 sz73) ?_; clear hf; intro a hf
  refine sS hf hS sz73 ?_
  clear hf hS; intro a w hf hS
  refine aN hf hS ?_; clear hf; intro a hf
  refine done_l (t_normal (c_ret ?_))
  refine eC hf hS ag73 sz73 ?_
  obtain ⟨e1, e2⟩ := mem_done (c := 3) (by decide) (end_left2 (inv_dot hI) (by first | exact .inl (Classical.not_not.1 hE) | exact .inr (by have h0 : ¬ ((rDot s).2.1.length : Int) = 0 := hL; omega))) hM
  rw [e1, ← e2]; exact ⟨rfl, hS.subA⟩
 clear hf; intro hc6 hf
 have hM : mayMem (capD 3 (rDot s).1) = false := by first | exact hc6 | exact decide_eq_false hc6
 refine sG hf hS (rd_not hf rfl rfl) ?_; clear hf; intro a hf
 refine pF hf hS ?_; clear hf; intro a hf
 refine done_l (t_normal ?_)
 refine c_true hf rfl ?_
 refine c_seq (c_region ?_)
 refine sR hf hS (rd_build hf rfl rfl zr73 (by rfl) pl73 .nil) ?_; clear hf; intro a hf
 refine sS hf hS sz73 ?_
 clear hf hS; intro a w hf hS
 refine aN hf hS ?_; clear hf; intro a hf
 refine done_l (t_normal (c_ret (t_ret ?_)))
 refine eC hf hS ag73 sz73 ?_
 have e : memOk s = false := by first | exact mem_fail1 (end_left (inv_dot hI) hE (by have h0 : ((rDot s).2.1.length : Int) = 0 := hL; omega)) | exact mem_fail2 (c := 3) (by decide) hM
 rw [e, memV_no e]; exact ⟨rfl, hS.subA⟩

end Go.Proofs.YtcflbdpjoanbgaaGreat
