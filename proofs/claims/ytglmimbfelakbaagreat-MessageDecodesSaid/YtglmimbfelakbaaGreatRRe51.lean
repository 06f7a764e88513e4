/-
  Walked: Re5.
  Conditions: none.
-/
import Derived.Test.YtglmimbfelakbaaGreatRRe31
import Derived.Test.YtglmimbfelakbaaGreatMs8
namespace Go.Proofs.YtglmimbfelakbaaGreat
open Go Go.Sl
set_option linter.unusedVariables false
set_option linter.unusedSimpArgs false

set_option maxRecDepth 100000 in
set_option maxHeartbeats 8000000 in
theorem RDec_c (bs : List UInt8) (q0 : Option Addr) (c0 : Nat) {W : World} {R : List HP} {w : World} (hS : Sat W (R) w) (hb0 : bs.length ≤ 140737488351232) (hc0 : bs.length ≤ c0) (hv : ∀ w, Sat W R w → SlAt w q0 bs.length 1 (bvs bs)) : Calls Tryz.prog 8 [.slice q0 bs.length c0].toArray w (Ret fun v w' => ∃ q1 c1 L1 q2 c2 L2 q3 c3 L3, v = .tuple #[.agg #[.int .i64 (ansV bs).kind, .int .i64 (ansV bs).from', .int .i64 (ansV bs).to, .int .i64 (ansV bs).op, .int .i64 (ansV bs).for', .string (str (ansV bs).key), .int .i64 (ansV bs).bucket, .slice q1 (L1 : List EntT).length c1, .slice q2 (L2 : List DigT).length c2, .slice q3 (L3 : List DotT).length c3], .int .i64 (ansE bs)] ∧ (L1.map pEnt = (ansV bs).ents ∧ okL L1 ∧ L1.length ≤ 256) ∧ (L2.map pDig = (ansV bs).digs ∧ okG2 L2 ∧ L2.length ≤ 256) ∧ (L3.map pDot = (ansV bs).mems ∧ L3.length ≤ 8) ∧ Sat W (Rw 60 2 q3 L3.length c3 (L3.flatMap dotC) :: Rw 49 10 q2 L2.length c2 (L2.flatMap digC) :: AllG (fun d : DigT => Rw 93 2 d.2.2.1.1 d.2.2.1.2.2.length d.2.2.1.2.1 (d.2.2.1.2.2.flatMap dotC)) L2 :: Rw 46 10 q1 L1.length c1 (L1.flatMap entC) :: AllG (fun e : EntT => ValR 127 5 e.2.1.2.1) L1 :: R) w') := by
 refine fn_start 145 Tryz.func8 rfl rfl rfl ?_
 intro a hf
 have hI : InvR (bs, 0) := fun h => absurd rfl h
 have hb : ((bs, 0) : RS).1.length ≤ 140737488355328 := (by show bs.length ≤ _; omega)
 refine c_seq (c_region ?_)
 refine sA hf hS zr26 ?_
 clear hf hS; intro b_r a w hf hS
 refine aN hf hS ?_; clear hf; intro a hf
 refine done_l (t_normal (c_seq (c_seq (c_region ?_))))
 refine mN hf hS ?_; clear hf; intro a hf
 refine sR hf hS (rd_len hf rfl rfl Tryz.underlying28) ?_; clear hf; intro a hf
 refine sB hf hS (rd_gtr hf rfl rfl rfl) ?_ ?_
 ·
  clear hf; intro hc2 a hf
  refine done_l (t_normal ?_)
  refine c_true hf rfl ?_
  refine c_seq (c_region ?_)
  refine sR hf hS (rd_build hf rfl rfl zr26 (by rfl) pl26 .nil) ?_; clear hf; intro a hf
  refine sS hf hS sz26 ?_
  clear hf hS; intro a w hf hS
  refine aN hf hS ?_; clear hf; intro a hf
  refine done_l (t_normal (c_ret (t_ret ?_)))
  refine eC hf hS ag26 sz26 ?_
  obtain ⟨e1, e2⟩ := dec_long (bs := bs) (by omega)
  rw [e1, e2]; exact ⟨none, 0, [], none, 0, [], none, 0, [], rfl, ⟨rfl, (fun e he => by cases he), by decide⟩, ⟨rfl, (fun e he => by cases he), by decide⟩, ⟨rfl, by decide⟩, ((((((hS.subA : Sat W R w).allNil (fun e : EntT => ValR 127 5 e.2.1.2.1)).rwNil 46 10).allNil (fun d : DigT => Rw 93 2 d.2.2.1.1 d.2.2.1.2.2.length d.2.2.1.2.1 (d.2.2.1.2.2.flatMap dotC))).rwNil 49 10).rwNil 60 2).subA⟩
 clear hf; intro hc2 a hf
 refine done_l (t_normal ?_)
 refine c_false hf rfl ?_
 refine c_skip (t_normal (c_seq (c_region ?_)))
 refine mN hf hS ?_; clear hf; intro a hf
 refine sR hf hS (rd_build hf rfl rfl zr68 (by rfl) pl68 (.cons rfl (by first | rfl) (by rfl) (by repeat (first | exact Put.nil | apply Put.cons | apply Put.succ)) .nil)) ?_; clear hf; intro a hf
 refine step_l (st_box hf (Wn.none rfl) hS rfl rfl (by rfl) rfl rfl ?_)
 clear hf hS; intro p a w hf hS
 refine aN hf hS ?_; clear hf; intro a hf
 refine done_l (t_normal (c_seq ?_))
 replace hS : Sat W ([Blk p [.slice q0 bs.length c0, .int .i64 0] 68, Blk b_r [.int .i64 0, .int .i64 0, .int .i64 0, .int .i64 0, .int .i64 0, .string ⟨#[]⟩, .int .i64 0, .slice none 0 0, .slice none 0 0, .slice none 0 0] 26] ++ R) w := hS.subA
 replace hS := hS.tailAll
 replace hS : Sat W (All R :: _) w := hS.selA
 replace hS := hS.toVwX hv
 replace hS := rdx_shut (s := (bs, 0)) (q := q0) (cap := c0) (hS.sub (.cons (by repeat (first | exact Sel.head | apply Sel.tail)) (.cons (by repeat (first | exact Sel.head | apply Sel.tail)) .refl)) : Sat W (Blk p [.slice q0 bs.length c0, .int .i64 0] 68 :: VwX (All R) q0 bs.length 1 (bvs bs) :: _) w) rfl rfl rfl hc0
 refine c_region ?_
 refine sR hf hS (rd_build hf rfl rfl zr26 (by rfl) pl26 .nil) ?_; clear hf; intro a hf
 refine sA hf hS zr26 ?_
 clear hf hS; intro b_m a w hf hS
 refine sS hf hS sz26 ?_
 clear hf hS; intro a w hf hS
 refine done_l (t_normal (c_seq (c_region ?_)))
 refine mN hf hS ?_; clear hf; intro a hf
 refine step_l (st_call hf (Wn.none rfl) rfl rfl rfl fn23 (RVNum_c _ _ (hS.selA)) rfl rfl ?_)
 clear hf hS; rintro v a w ⟨rfl, hS⟩ hf
 refine step_l (st_call hf (Wn.none rfl) rfl rfl rfl fn22 (Small_c _ hS (rNum_lt _)) rfl rfl ?_)
 clear hf hS; rintro v a w ⟨rfl, hS⟩ hf
 refine fA hf hS fb26_0 ?_; clear hf; intro a hf
 refine sS hf hS sz3 ?_
 clear hf hS; intro a w hf hS
 refine done_l (t_normal (c_seq (c_region ?_)))
 refine mN hf hS ?_; clear hf; intro a hf
 refine step_l (st_call hf (Wn.none rfl) rfl rfl rfl fn23 (RVNum_c _ _ (hS.selA)) rfl rfl ?_)
 clear hf hS; rintro v a w ⟨rfl, hS⟩ hf
 refine step_l (st_call hf (Wn.none rfl) rfl rfl rfl fn22 (Small_c _ hS (rNum_lt _)) rfl rfl ?_)
 clear hf hS; rintro v a w ⟨rfl, hS⟩ hf
 refine fA hf hS fb26_1 ?_; clear hf; intro a hf
 refine sS hf hS sz3 ?_
 clear hf hS; intro a w hf hS
 refine done_l (t_normal (c_seq (c_region ?_)))
 refine mN hf hS ?_; clear hf; intro a hf
 refine step_l (st_call hf (Wn.none rfl) rfl rfl rfl fn23 (RVNum_c _ _ (hS.selA)) rfl rfl ?_)
 clear hf hS; rintro v a w ⟨rfl, hS⟩ hf
 refine step_l (st_call hf (Wn.none rfl) rfl rfl rfl fn22 (Small_c _ hS (rNum_lt _)) rfl rfl ?_)
 clear hf hS; rintro v a w ⟨rfl, hS⟩ hf
 refine fA hf hS fb26_2 ?_; clear hf; intro a hf
 refine sS hf hS sz3 ?_
 clear hf hS; intro a w hf hS
 refine done_l (t_normal (c_seq (c_region ?_)))
 refine fA hf hS fb26_0 ?_; clear hf; intro a hf
 refine sR hf hS (rd_ld hf ag3) ?_; clear hf; intro a hf
 refine step_l (st_call hf (Wn.none rfl) rfl rfl rfl fn12 (Has_c _ hS) rfl rfl ?_)
 clear hf hS; rintro v a w ⟨rfl, hS⟩ hf; rw [parts_cap (k := ((rNum (bs, 0)).1 : Int)) (by decide)] at hf
 refine aN hf hS ?_; clear hf; intro a hf
 refine done_l (t_normal (c_seq (c_seq (c_region ?_))))
 refine mN hf hS ?_; clear hf; intro a hf
 refine sR hf hS (rd_and hf rfl rfl rfl (and_parts ((rNum (bs, 0)).1 : Int) 0 1 (by decide) (by decide))) ?_; clear hf; intro a hf
 refine sR hf hS (rd_neq hf rfl rfl rfl) ?_; clear hf; intro a hf
 refine done_l (t_normal ?_)
 have hj38 := Keep.ofA hf [(39, 41)]
 refine c_joinK (n := 145) hj38 [] (fun w => Sat W (RdX (All R) 68 p ((mO (bs, 0)).2) :: Blk b_m [.int .i64 (min (((rNum (bs, 0)).1 : Nat) : Int) 1073741824), .int .i64 (min (((rNum (m1 (bs, 0))).1 : Nat) : Int) 1073741824), .int .i64 (min (((rNum (m2 (bs, 0))).1 : Nat) : Int) 1073741824), .int .i64 (mO (bs, 0)).1, .int .i64 0, .string ⟨#[]⟩, .int .i64 0, .slice none 0 0, .slice none 0 0, .slice none 0 0] 26 :: Blk b_r [.int .i64 0, .int .i64 0, .int .i64 0, .int .i64 0, .int .i64 0, .string ⟨#[]⟩, .int .i64 0, .slice none 0 0, .slice none 0 0, .slice none 0 0] 26 :: []) w) ?_ ?_
 ·
  refine c_split hf rfl ?_ ?_
  ·
   intro hc
   have hi : mh 0 (bs, 0) = true := has_t (by decide) hc
   have e : mO (bs, 0) = rInt (m3 (bs, 0)) := opt_yes hi
   refine c_region ?_
   refine mN hf hS ?_; clear hf; intro a hf
   refine step_l (st_call hf (Wn.none rfl) rfl rfl rfl fn24 (RVInt_c _ _ (hS.selA)) rfl rfl ?_)
   clear hf hS; rintro v a w ⟨rfl, hS⟩ hf
   refine fA hf hS fb26_3 ?_; clear hf; intro a hf
   refine sS hf hS sz2 ?_
   clear hf hS; intro a w hf hS
   refine done_l ?_
   refine t_normal ⟨(hf.backA hj38), (by rw [e]; exact hS.subA)⟩
  ·
   intro hc
   have hi : mh 0 (bs, 0) = false := has_f (by decide) hc
   have e : mO (bs, 0) = (0, m3 (bs, 0)) := opt_no hi
   refine c_skip ?_
   refine t_normal ⟨(hf.backA hj38), (by rw [e]; exact hS.subA)⟩
 ·
  clear hf hS; intro a w hf hS; (try dsimp only [List.cons_append, List.nil_append] at hf)
  refine t_normal (c_seq (c_seq (c_region ?_)))
  refine mN hf hS ?_; clear hf; intro a hf
  refine sR hf hS (rd_and hf rfl rfl rfl (and_parts ((rNum (bs, 0)).1 : Int) 1 2 (by decide) (by decide))) ?_; clear hf; intro a hf
  refine sR hf hS (rd_neq hf rfl rfl rfl) ?_; clear hf; intro a hf
  refine done_l (t_normal ?_)
  have hj44 := Keep.ofA hf [(45, 48)]
  refine c_joinK (n := 145) hj44 [] (fun w => Sat W (RdX (All R) 68 p ((mR (bs, 0)).2) :: Blk b_m [.int .i64 (min (((rNum (bs, 0)).1 : Nat) : Int) 1073741824), .int .i64 (min (((rNum (m1 (bs, 0))).1 : Nat) : Int) 1073741824), .int .i64 (min (((rNum (m2 (bs, 0))).1 : Nat) : Int) 1073741824), .int .i64 (mO (bs, 0)).1, .int .i64 (min (((mR (bs, 0)).1 : Nat) : Int) 1073741824), .string ⟨#[]⟩, .int .i64 0, .slice none 0 0, .slice none 0 0, .slice none 0 0] 26 :: Blk b_r [.int .i64 0, .int .i64 0, .int .i64 0, .int .i64 0, .int .i64 0, .string ⟨#[]⟩, .int .i64 0, .slice none 0 0, .slice none 0 0, .slice none 0 0] 26 :: []) w) ?_ ?_
  ·
   refine c_split hf rfl ?_ ?_
   ·
    intro hc
    have hi : mh 1 (bs, 0) = true := has_t (by decide) hc
    have e : mR (bs, 0) = rNum ((mO (bs, 0)).2) := opt_yes hi
    refine c_region ?_
    refine mN hf hS ?_; clear hf; intro a hf
    refine step_l (st_call hf (Wn.none rfl) rfl rfl rfl fn23 (RVNum_c _ _ (hS.selA)) rfl rfl ?_)
    clear hf hS; rintro v a w ⟨rfl, hS⟩ hf
    refine step_l (st_call hf (Wn.none rfl) rfl rfl rfl fn22 (Small_c _ hS (rNum_lt _)) rfl rfl ?_)
    clear hf hS; rintro v a w ⟨rfl, hS⟩ hf
    refine fA hf hS fb26_4 ?_; clear hf; intro a hf
    refine sS hf hS sz3 ?_
    clear hf hS; intro a w hf hS
    refine done_l ?_
    refine t_normal ⟨(hf.backA hj44), (by rw [e]; exact hS.subA)⟩
   ·
    intro hc
    have hi : mh 1 (bs, 0) = false := has_f (by decide) hc
    have e : mR (bs, 0) = (0, (mO (bs, 0)).2) := opt_no hi
    have h0 := min00 1073741824 (by decide)
    refine c_skip ?_
    refine t_normal ⟨(hf.backA hj44), (by rw [e]; dsimp only; rw [h0]; exact hS.subA)⟩
  ·
   clear hf hS; intro a w hf hS; (try dsimp only [List.cons_append, List.nil_append] at hf)
   refine t_normal (c_seq (c_seq (c_region ?_)))
   refine mN hf hS ?_; clear hf; intro a hf
   refine sR hf hS (rd_and hf rfl rfl rfl (and_parts ((rNum (bs, 0)).1 : Int) 2 4 (by decide) (by decide))) ?_; clear hf; intro a hf
   refine sR hf hS (rd_neq hf rfl rfl rfl) ?_; clear hf; intro a hf
   refine done_l (t_normal ?_)
   have hj51 := Keep.ofA hf [(52, 55)]
   refine c_joinK (n := 145) hj51 [] (fun w => Sat W (RdX (All R) 68 p ((mY (bs, 0)).2) :: Blk b_m [.int .i64 (min (((rNum (bs, 0)).1 : Nat) : Int) 1073741824), .int .i64 (min (((rNum (m1 (bs, 0))).1 : Nat) : Int) 1073741824), .int .i64 (min (((rNum (m2 (bs, 0))).1 : Nat) : Int) 1073741824), .int .i64 (mO (bs, 0)).1, .int .i64 (min (((mR (bs, 0)).1 : Nat) : Int) 1073741824), .string (str (mY (bs, 0)).1), .int .i64 0, .slice none 0 0, .slice none 0 0, .slice none 0 0] 26 :: Blk b_r [.int .i64 0, .int .i64 0, .int .i64 0, .int .i64 0, .int .i64 0, .string ⟨#[]⟩, .int .i64 0, .slice none 0 0, .slice none 0 0, .slice none 0 0] 26 :: []) w) ?_ ?_
   ·
    refine c_split hf rfl ?_ ?_
    ·
     intro hc
     have hi : mh 2 (bs, 0) = true := has_t (by decide) hc
     have e : mY (bs, 0) = rText 32 ((mR (bs, 0)).2) := opt_yes hi
     refine c_region ?_
     refine mN hf hS ?_; clear hf; intro a hf
     refine step_l (st_call hf (Wn.none rfl) rfl rfl rfl fn25 (RVText_c _ _ _ (hS.selA) ⟨by decide, by decide⟩ (Nat.le_trans (rest_mR (bs, 0)) hb)) rfl rfl ?_)
     clear hf hS; rintro v a w ⟨qt, capt, rfl, hS⟩ hf
     refine sR hf hS (rd_str hf rfl rfl Tryz.underlying28 Tryz.underlying9 Tryz.underlying5 (by intro _ h; first | exact h.slOfRw (by repeat (first | exact Sel.head | apply Sel.tail)) | exact h.slOfBlkPre (by repeat (first | exact Sel.head | apply Sel.tail)) (bvs_len1 _))) ?_; clear hf; intro a hf
     refine fA hf hS fb26_5 ?_; clear hf; intro a hf
     refine sS hf hS sz9 ?_
     clear hf hS; intro a w hf hS
     refine done_l ?_
     refine t_normal ⟨(hf.backA hj51), (by rw [e]; exact hS.subA)⟩
    ·
     intro hc
     have hi : mh 2 (bs, 0) = false := has_f (by decide) hc
     have e : mY (bs, 0) = ([], (mR (bs, 0)).2) := opt_no hi
     refine c_skip ?_
     refine t_normal ⟨(hf.backA hj51), (by rw [e]; exact hS.subA)⟩
   ·
    clear hf hS; intro a w hf hS; (try dsimp only [List.cons_append, List.nil_append] at hf)
    refine t_normal (c_seq (c_seq (c_region ?_)))
    refine mN hf hS ?_; clear hf; intro a hf
    refine sR hf hS (rd_and hf rfl rfl rfl (and_parts ((rNum (bs, 0)).1 : Int) 3 8 (by decide) (by decide))) ?_; clear hf; intro a hf
    refine sR hf hS (rd_neq hf rfl rfl rfl) ?_; clear hf; intro a hf
    refine done_l (t_normal ?_)
    have hj58 := Keep.ofA hf [(59, 62)]
    refine c_joinK (n := 145) hj58 [] (fun w => Sat W (RdX (All R) 68 p ((mB (bs, 0)).2) :: Blk b_m [.int .i64 (min (((rNum (bs, 0)).1 : Nat) : Int) 1073741824), .int .i64 (min (((rNum (m1 (bs, 0))).1 : Nat) : Int) 1073741824), .int .i64 (min (((rNum (m2 (bs, 0))).1 : Nat) : Int) 1073741824), .int .i64 (mO (bs, 0)).1, .int .i64 (min (((mR (bs, 0)).1 : Nat) : Int) 1073741824), .string (str (mY (bs, 0)).1), .int .i64 (min (((mB (bs, 0)).1 : Nat) : Int) 1073741824), .slice none 0 0, .slice none 0 0, .slice none 0 0] 26 :: Blk b_r [.int .i64 0, .int .i64 0, .int .i64 0, .int .i64 0, .int .i64 0, .string ⟨#[]⟩, .int .i64 0, .slice none 0 0, .slice none 0 0, .slice none 0 0] 26 :: []) w) ?_ ?_
    ·
     refine c_split hf rfl ?_ ?_
     ·
      intro hc
      have hi : mh 3 (bs, 0) = true := has_t (by decide) hc
      have e : mB (bs, 0) = rNum ((mY (bs, 0)).2) := opt_yes hi
      refine c_region ?_
      refine mN hf hS ?_; clear hf; intro a hf
      refine step_l (st_call hf (Wn.none rfl) rfl rfl rfl fn23 (RVNum_c _ _ (hS.selA)) rfl rfl ?_)
      clear hf hS; rintro v a w ⟨rfl, hS⟩ hf
      refine step_l (st_call hf (Wn.none rfl) rfl rfl rfl fn22 (Small_c _ hS (rNum_lt _)) rfl rfl ?_)
      clear hf hS; rintro v a w ⟨rfl, hS⟩ hf
      refine fA hf hS fb26_6 ?_; clear hf; intro a hf
      refine sS hf hS sz3 ?_
      clear hf hS; intro a w hf hS
      refine done_l ?_
      refine t_normal ⟨(hf.backA hj58), (by rw [e]; exact hS.subA)⟩
     ·
      intro hc
      have hi : mh 3 (bs, 0) = false := has_f (by decide) hc
      have e : mB (bs, 0) = (0, (mY (bs, 0)).2) := opt_no hi
      have h0 := min00 1073741824 (by decide)
      refine c_skip ?_
      refine t_normal ⟨(hf.backA hj58), (by rw [e]; dsimp only; rw [h0]; exact hS.subA)⟩
    ·
     clear hf hS; intro a w hf hS; (try dsimp only [List.cons_append, List.nil_append] at hf)
     refine t_normal (c_seq (c_region ?_))
     refine aN hf hS ?_; clear hf; intro a hf
     refine done_l (t_normal (c_seq (c_seq (c_region ?_))))
     refine mN hf hS ?_; clear hf; intro a hf
     refine sR hf hS (rd_and hf rfl rfl rfl (and_parts ((rNum (bs, 0)).1 : Int) 4 16 (by decide) (by decide))) ?_; clear hf; intro a hf
     refine sR hf hS (rd_neq hf rfl rfl rfl) ?_; clear hf; intro a hf
     refine done_l (t_normal ?_)
     have hj65 := Keep.ofA hf [(7, 9), (66, 85)]
     replace hf := ((hf.keep hj65).kb hf 7 rfl rfl)
     refine c_joinX (n := 145) (α := Option Addr × Nat × List EntT) hj65 (fun ⟨q1, c1, L1⟩ => [(7, .bool (true && allOk (mE (bs, 0)).1))]) (fun ⟨q1, c1, L1⟩ w => Sat W (RdX (All R) 68 p ((mE (bs, 0)).2) :: Blk b_m [.int .i64 (min (((rNum (bs, 0)).1 : Nat) : Int) 1073741824), .int .i64 (min (((rNum (m1 (bs, 0))).1 : Nat) : Int) 1073741824), .int .i64 (min (((rNum (m2 (bs, 0))).1 : Nat) : Int) 1073741824), .int .i64 (mO (bs, 0)).1, .int .i64 (min (((mR (bs, 0)).1 : Nat) : Int) 1073741824), .string (str (mY (bs, 0)).1), .int .i64 (min (((mB (bs, 0)).1 : Nat) : Int) 1073741824), .slice q1 L1.length c1, .slice none 0 0, .slice none 0 0] 26 :: Rw 46 10 q1 L1.length c1 (L1.flatMap entC) :: AllG (fun e : EntT => ValR 127 5 e.2.1.2.1) L1 :: Blk b_r [.int .i64 0, .int .i64 0, .int .i64 0, .int .i64 0, .int .i64 0, .string ⟨#[]⟩, .int .i64 0, .slice none 0 0, .slice none 0 0, .slice none 0 0] 26 :: []) w ∧ L1.map pEnt = fstOk (mE (bs, 0)).1 ∧ okL L1 ∧ L1.length ≤ 256) ?_ ?_
     ·
      refine c_split hf rfl ?_ ?_
      ·
       intro hc
       have hi : mh 4 (bs, 0) = true := has_t (by decide) hc
       have e : mE (bs, 0) = manyC 256 rEnt (mB (bs, 0)).2 := opt_yes hi
       have hn := rCount_most 256 (mB (bs, 0)).2
       refine c_seq (c_region ?_)
       refine mN hf hS ?_; clear hf; intro a hf
       refine step_l (st_call hf (Wn.none rfl) rfl rfl rfl fn26 (RVCount_c _ _ _ (hS.selA) ⟨by decide, by decide⟩) rfl rfl ?_)
       clear hf hS; rintro v a w ⟨rfl, hS⟩ hf
       refine mN hf hS ?_; clear hf; intro a hf
       refine done_l (t_normal (c_block ?_))
       have hk0 := Keep.ofA hf [(7, 9), (68, 85)]
       refine c_loopK hk0 (α := Nat × Option Addr × Nat × List EntT) (fun ⟨k, q1, c1, L1⟩ => [(7, .bool (true && allOk (rMany rEnt k (rCount 256 (mB (bs, 0)).2).2).1)), (68, .int .i64 (k : Nat))]) (fun ⟨k, q1, c1, L1⟩ w => Sat W (RdX (All R) 68 p ((rMany rEnt k (rCount 256 (mB (bs, 0)).2).2).2) :: Blk b_m [.int .i64 (min (((rNum (bs, 0)).1 : Nat) : Int) 1073741824), .int .i64 (min (((rNum (m1 (bs, 0))).1 : Nat) : Int) 1073741824), .int .i64 (min (((rNum (m2 (bs, 0))).1 : Nat) : Int) 1073741824), .int .i64 (mO (bs, 0)).1, .int .i64 (min (((mR (bs, 0)).1 : Nat) : Int) 1073741824), .string (str (mY (bs, 0)).1), .int .i64 (min (((mB (bs, 0)).1 : Nat) : Int) 1073741824), .slice q1 L1.length c1, .slice none 0 0, .slice none 0 0] 26 :: Rw 46 10 q1 L1.length c1 (L1.flatMap entC) :: AllG (fun e : EntT => ValR 127 5 e.2.1.2.1) L1 :: Blk b_r [.int .i64 0, .int .i64 0, .int .i64 0, .int .i64 0, .int .i64 0, .string ⟨#[]⟩, .int .i64 0, .slice none 0 0, .slice none 0 0, .slice none 0 0] 26 :: []) w ∧ k ≤ (rCount 256 (mB (bs, 0)).2).1 ∧ L1.length = k ∧ L1.map pEnt = fstOk (rMany rEnt k (rCount 256 (mB (bs, 0)).2).2).1 ∧ okL L1) (fun ⟨k, q1, c1, L1⟩ => (rCount 256 (mB (bs, 0)).2).1 - k) (0, none, 0, []) (((hf.keep hk0).kb hf 68 rfl (by first | rfl | exact int_eq (by omega))).kb hf 7 rfl (by rfl)) ⟨((hS.allNil (fun e : EntT => ValR 127 5 e.2.1.2.1)).rwNil 46 10).subA, ⟨by omega, rfl, rfl, fun e he => by cases he⟩⟩ ?_
       clear hf hS; rintro ⟨k, q1, c1, L1⟩ a w hf ⟨hS, ⟨hk, hlk, hok, hokl⟩⟩; (try dsimp only [List.cons_append, List.nil_append] at hf)
       refine c_seq (c_region ?_)
       refine sB hf hS (rd_lss hf rfl rfl rfl) ?_ ?_
       ·
        clear hf; intro hc5 a hf
        refine done_l (t_normal (c_seq ?_))
        refine c_true hf rfl ?_
        refine c_skip (t_normal (c_seq (c_block (c_seq (c_region ?_)))))
        refine mN hf hS ?_; clear hf; intro a hf
        refine step_l (st_call hf (Wn.none rfl) rfl rfl rfl fn27 (REntRd_c _ _ (hS.selA) (inv_k inv_rEnt k (inv_mB hI)) (Nat.le_trans (rest_k ent_rest k (mB (bs, 0)).2) (Nat.le_trans (rest_mB (bs, 0)) hb))) rfl rfl ?_)
        clear hf hS; rintro v a w ⟨ky, s0, s1, s2, s3, s4, s5, s6, s7, qs, cs, Ls, rfl, hEV, hLs, hS⟩ hf
        refine mN hf hS ?_; clear hf; intro a hf
        refine sR hf hS (rd_extract hf rfl rfl rfl) ?_; clear hf; intro a hf
        refine sR hf hS (rd_extract hf rfl rfl rfl) ?_; clear hf; intro a hf
        refine sA hf hS zr46 ?_
        clear hf hS; intro b_e a w hf hS
        refine sS hf hS sz46 ?_
        clear hf hS; intro a w hf hS
        refine aN hf hS ?_; clear hf; intro a hf
        refine done_l (t_normal (c_seq ?_))
        have hq22 := Keep.ofA hf [(7, 7), (75, 78)]
        replace hf := ((hf.keep hq22).kb hf 7 rfl rfl)
        refine c_joinK (n := 145) hq22 [(7, .bool (true && allOk (rMany rEnt (k + 1) (rCount 256 (mB (bs, 0)).2).2).1))] (fun w => Sat W (RdX (All R) 68 p ((rEnt (rMany rEnt k (rCount 256 (mB (bs, 0)).2).2).2).2) :: Blk b_m [.int .i64 (min (((rNum (bs, 0)).1 : Nat) : Int) 1073741824), .int .i64 (min (((rNum (m1 (bs, 0))).1 : Nat) : Int) 1073741824), .int .i64 (min (((rNum (m2 (bs, 0))).1 : Nat) : Int) 1073741824), .int .i64 (mO (bs, 0)).1, .int .i64 (min (((mR (bs, 0)).1 : Nat) : Int) 1073741824), .string (str (mY (bs, 0)).1), .int .i64 (min (((mB (bs, 0)).1 : Nat) : Int) 1073741824), .slice q1 L1.length c1, .slice none 0 0, .slice none 0 0] 26 :: Blk b_e [.string (str ky), .int .i64 s0, .int .i64 s1, .int .i64 s2, .int .i64 s3, .int .i64 s4, .int .i64 s5, .int .i64 s6, .int .i64 s7, .slice qs Ls.length cs] 46 :: ValR 127 5 (qs, cs, Ls) :: Rw 46 10 q1 L1.length c1 (L1.flatMap entC) :: AllG (fun e : EntT => ValR 127 5 e.2.1.2.1) L1 :: Blk b_r [.int .i64 0, .int .i64 0, .int .i64 0, .int .i64 0, .int .i64 0, .string ⟨#[]⟩, .int .i64 0, .slice none 0 0, .slice none 0 0, .slice none 0 0] 26 :: []) w) ?_ ?_
        ·
         skip
         refine c_region ?_
         refine mN hf hS ?_; clear hf; intro a hf
         refine step_l (st_rdb hf (Wn.none rfl) (rd_move hf rfl rfl) hS rfl rfl ?_ ?_)
         ·
          clear hf; intro hc7 a hf
          have hAO := hc7
          iterate 3 ((first | refine step_l (st_rd hf (Wn.some hf rfl rfl rfl rfl) (rd_move hf rfl rfl) hS rfl rfl ?_) | refine aN hf hS ?_ | refine pT hf hS ?_); clear hf; intro a hf)
          refine done_l ?_
          refine t_normal ⟨((hf.backA hq22).kb hf 7 rfl (by exact congrArg Value.bool (by first | exact ok_snoc1 hAO | exact ok_snoc2 hAO))), hS.subA⟩
         clear hf; intro hc7 a hf
         have hAO := hc7
         iterate 3 ((first | refine kS hf ?_ | refine aN hf hS ?_ | refine pF hf hS ?_); clear hf; intro a hf)
         refine done_l ?_
         refine t_normal ⟨((hf.backA hq22).kb hf 7 rfl (by exact congrArg Value.bool (by first | exact ok_snoc1 hAO | exact ok_snoc2 hAO))), hS.subA⟩
        ·
         clear hf hS; intro a w hf hS; (try dsimp only [List.cons_append, List.nil_append] at hf)
         refine t_normal (c_region ?_)
         refine fA hf hS fb26_7 ?_; clear hf; intro a hf
         refine sR hf hS (rd_ld hf ag22) ?_; clear hf; intro a hf
         refine sR hf hS (rd_ldN hf ag46 sz46) ?_; clear hf; intro a hf
         refine step_l (st_buildSlice hf (Wn.none rfl) hS rfl rfl Tryz.underlying22 sz46 zr46 (by decide) bz46_1 rfl (.cons rfl (by first | rfl) (by rfl) (by repeat (first | exact Put.nil | apply Put.cons | apply Put.succ)) .nil) rfl rfl ?_)
         clear hf hS; intro b_8 a w hf hS
         refine step_l (st_append hf (Wn.none rfl) rfl rfl rfl Tryz.underlying22 tyb46 (by rfl) (by decide) hS (by repeat (first | exact Sel.head | apply Sel.tail)) (by first | exact hS.slOfBlk (by repeat (first | exact Sel.head | apply Sel.tail)) (by rfl) | exact hS.slOfBlkPre (by repeat (first | exact Sel.head | apply Sel.tail)) (bvs_len1 _) | exact hS.slOfRw (by repeat (first | exact Sel.head | apply Sel.tail)) | exact SlAt.nil _ _ _) (by first | rfl | exact bvs_one _ | (simp [Value.oneCell']; done)) (by omega) rfl rfl ?_)
         clear hf hS; intro pA capA a w hf hS hnilA
         refine fA hf hS fb26_7 ?_; clear hf; intro a hf
         refine sS hf hS sz22 ?_
         clear hf hS; intro a w hf hS
         refine done_l (b_normal (t_normal (c_region ?_)))
         refine sP hf hS ?_; clear hf; intro a hf
         refine mN hf hS ?_; clear hf; intro a hf
         refine done_l ?_
         have h1 : Sat W (AllG (fun e : EntT => ValR 127 5 e.2.1.2.1) L1 :: (fun e : EntT => ValR 127 5 e.2.1.2.1) (ky, ([s0, s1, s2, s3, s4, s5, s6, s7], (qs, cs, Ls), ()), ()) :: Rw 46 10 pA (L1.length + 1) capA (L1.flatMap entC ++ [.string (str ky), .int .i64 s0, .int .i64 s1, .int .i64 s2, .int .i64 s3, .int .i64 s4, .int .i64 s5, .int .i64 s6, .int .i64 s7, .slice qs Ls.length cs]) :: RdX (All R) 68 p ((rEnt (rMany rEnt k (rCount 256 (mB (bs, 0)).2).2).2).2) :: Blk b_m [.int .i64 (min (((rNum (bs, 0)).1 : Nat) : Int) 1073741824), .int .i64 (min (((rNum (m1 (bs, 0))).1 : Nat) : Int) 1073741824), .int .i64 (min (((rNum (m2 (bs, 0))).1 : Nat) : Int) 1073741824), .int .i64 (mO (bs, 0)).1, .int .i64 (min (((mR (bs, 0)).1 : Nat) : Int) 1073741824), .string (str (mY (bs, 0)).1), .int .i64 (min (((mB (bs, 0)).1 : Nat) : Int) 1073741824), .slice pA (L1.length + 1) capA, .slice none 0 0, .slice none 0 0] 26 :: Blk b_r [.int .i64 0, .int .i64 0, .int .i64 0, .int .i64 0, .int .i64 0, .string ⟨#[]⟩, .int .i64 0, .slice none 0 0, .slice none 0 0, .slice none 0 0] 26 :: []) w := hS.subA; replace h1 := h1.allSnoc; have h2 : Sat W (Rw 46 10 pA (L1.length + 1) capA (L1.flatMap entC ++ [.string (str ky), .int .i64 s0, .int .i64 s1, .int .i64 s2, .int .i64 s3, .int .i64 s4, .int .i64 s5, .int .i64 s6, .int .i64 s7, .slice qs Ls.length cs]) :: AllG (fun e : EntT => ValR 127 5 e.2.1.2.1) (L1 ++ [(ky, ([s0, s1, s2, s3, s4, s5, s6, s7], (qs, cs, Ls), ()), ())]) :: RdX (All R) 68 p ((rEnt (rMany rEnt k (rCount 256 (mB (bs, 0)).2).2).2).2) :: Blk b_m [.int .i64 (min (((rNum (bs, 0)).1 : Nat) : Int) 1073741824), .int .i64 (min (((rNum (m1 (bs, 0))).1 : Nat) : Int) 1073741824), .int .i64 (min (((rNum (m2 (bs, 0))).1 : Nat) : Int) 1073741824), .int .i64 (mO (bs, 0)).1, .int .i64 (min (((mR (bs, 0)).1 : Nat) : Int) 1073741824), .string (str (mY (bs, 0)).1), .int .i64 (min (((mB (bs, 0)).1 : Nat) : Int) 1073741824), .slice pA (L1.length + 1) capA, .slice none 0 0, .slice none 0 0] 26 :: Blk b_r [.int .i64 0, .int .i64 0, .int .i64 0, .int .i64 0, .int .i64 0, .string ⟨#[]⟩, .int .i64 0, .slice none 0 0, .slice none 0 0, .slice none 0 0] 26 :: []) w := h1.subA; replace h2 := h2.rwCast (xs' := (L1 ++ [(ky, ([s0, s1, s2, s3, s4, s5, s6, s7], (qs, cs, Ls), ()), ())]).flatMap entC) (by simp [entC, sibC, i64s, slv]) rfl
         refine t_normal ⟨(k + 1, pA, capA, L1 ++ [(ky, ([s0, s1, s2, s3, s4, s5, s6, s7], (qs, cs, Ls), ()), ())]), (((hf.backA hk0).kb hf 68 rfl (by first | rfl | exact int_eq (by omega))).kb hf 7 rfl (by rfl)), ⟨(by rw [List.length_append]; exact h2.subA), ⟨by omega, by simp [hlk], fst_snoc hok hEV, okL.snoc (x := (ky, ([s0, s1, s2, s3, s4, s5, s6, s7], (qs, cs, Ls), ()), ())) hokl ⟨rfl, (by have := hLs.1; show Ls.length ≤ 1000; omega), fun v hv => (by have := hLs.2 v hv; omega)⟩⟩⟩, by first | omega | (simp only []; omega)⟩
       clear hf; intro hc5 a hf
       obtain rfl : k = (rCount 256 (mB (bs, 0)).2).1 := by omega
       refine done_l (t_normal (c_seq ?_))
       refine c_false hf rfl ?_
       refine c_exit (t_exit (t_exit (b_exit ?_)))
       refine t_normal ⟨(q1, c1, L1), ((hf.backA hj65).kb hf 7 rfl (by rw [e]; rfl)), ⟨(by rw [e]; exact hS.subA), ⟨by rw [e]; exact hok, hokl, by omega⟩⟩⟩
      ·
       intro hc
       have hi : mh 4 (bs, 0) = false := has_f (by decide) hc
       have e : mE (bs, 0) = ([], (mB (bs, 0)).2) := opt_no hi
       refine c_skip ?_
       refine t_normal ⟨(none, 0, []), ((hf.backA hj65).kb hf 7 rfl (by rw [e]; exact congrArg Value.bool (Bool.and_true _).symm)), ⟨(by rw [e]; exact ((hS.allNil (fun e : EntT => ValR 127 5 e.2.1.2.1)).rwNil 46 10).subA), ⟨by rw [e]; rfl, (fun e he => by cases he), by decide⟩⟩⟩
     ·
      clear hf hS; rintro ⟨q1, c1, L1⟩; intro a w hf hS; (try dsimp only [List.cons_append, List.nil_append] at hf)
      obtain ⟨hS, ⟨hE1, hE2, hE3⟩⟩ := hS
      refine t_normal (c_seq (c_seq (c_region ?_)))
      refine mN hf hS ?_; clear hf; intro a hf
      refine sR hf hS (rd_and hf rfl rfl rfl (and_parts ((rNum (bs, 0)).1 : Int) 5 32 (by decide) (by decide))) ?_; clear hf; intro a hf
      refine sR hf hS (rd_neq hf rfl rfl rfl) ?_; clear hf; intro a hf
      refine done_l (t_normal ?_)
      have hj88 := Keep.ofA hf [(7, 7), (10, 11), (89, 108)]
      replace hf := ((hf.keep hj88).kb hf 7 rfl rfl)
      refine c_joinX (n := 145) (α := Option Addr × Nat × List DigT) hj88 (fun ⟨q2, c2, L2⟩ => [(7, .bool ((true && allOk (mE (bs, 0)).1) && allOk (mD (bs, 0)).1))]) (fun ⟨q2, c2, L2⟩ w => Sat W (RdX (All R) 68 p ((mD (bs, 0)).2) :: Blk b_m [.int .i64 (min (((rNum (bs, 0)).1 : Nat) : Int) 1073741824), .int .i64 (min (((rNum (m1 (bs, 0))).1 : Nat) : Int) 1073741824), .int .i64 (min (((rNum (m2 (bs, 0))).1 : Nat) : Int) 1073741824), .int .i64 (mO (bs, 0)).1, .int .i64 (min (((mR (bs, 0)).1 : Nat) : Int) 1073741824), .string (str (mY (bs, 0)).1), .int .i64 (min (((mB (bs, 0)).1 : Nat) : Int) 1073741824), .slice q1 L1.length c1, .slice q2 L2.length c2, .slice none 0 0] 26 :: Rw 49 10 q2 L2.length c2 (L2.flatMap digC) :: AllG (fun d : DigT => Rw 93 2 d.2.2.1.1 d.2.2.1.2.2.length d.2.2.1.2.1 (d.2.2.1.2.2.flatMap dotC)) L2 :: Rw 46 10 q1 L1.length c1 (L1.flatMap entC) :: AllG (fun e : EntT => ValR 127 5 e.2.1.2.1) L1 :: Blk b_r [.int .i64 0, .int .i64 0, .int .i64 0, .int .i64 0, .int .i64 0, .string ⟨#[]⟩, .int .i64 0, .slice none 0 0, .slice none 0 0, .slice none 0 0] 26 :: []) w ∧ L2.map pDig = fstOk (mD (bs, 0)).1 ∧ okG2 L2 ∧ L2.length ≤ 256) ?_ ?_
      ·
       refine c_split hf rfl ?_ ?_
       ·
        intro hc
        have hi : mh 5 (bs, 0) = true := has_t (by decide) hc
        have e : mD (bs, 0) = manyC 256 rDig (mE (bs, 0)).2 := opt_yes hi
        have hn := rCount_most 256 (mE (bs, 0)).2
        refine c_seq (c_region ?_)
        refine mN hf hS ?_; clear hf; intro a hf
        refine step_l (st_call hf (Wn.none rfl) rfl rfl rfl fn26 (RVCount_c _ _ _ (hS.selA) ⟨by decide, by decide⟩) rfl rfl ?_)
        clear hf hS; rintro v a w ⟨rfl, hS⟩ hf
        refine mN hf hS ?_; clear hf; intro a hf
        refine done_l (t_normal (c_block ?_))
        have hk1 := Keep.ofA hf [(7, 7), (10, 11), (91, 108)]
        refine c_loopK hk1 (α := Nat × Option Addr × Nat × List DigT) (fun ⟨k, q2, c2, L2⟩ => [(7, .bool ((true && allOk (mE (bs, 0)).1) && allOk (rMany rDig k (rCount 256 (mE (bs, 0)).2).2).1)), (91, .int .i64 (k : Nat))]) (fun ⟨k, q2, c2, L2⟩ w => Sat W (RdX (All R) 68 p ((rMany rDig k (rCount 256 (mE (bs, 0)).2).2).2) :: Blk b_m [.int .i64 (min (((rNum (bs, 0)).1 : Nat) : Int) 1073741824), .int .i64 (min (((rNum (m1 (bs, 0))).1 : Nat) : Int) 1073741824), .int .i64 (min (((rNum (m2 (bs, 0))).1 : Nat) : Int) 1073741824), .int .i64 (mO (bs, 0)).1, .int .i64 (min (((mR (bs, 0)).1 : Nat) : Int) 1073741824), .string (str (mY (bs, 0)).1), .int .i64 (min (((mB (bs, 0)).1 : Nat) : Int) 1073741824), .slice q1 L1.length c1, .slice q2 L2.length c2, .slice none 0 0] 26 :: Rw 49 10 q2 L2.length c2 (L2.flatMap digC) :: AllG (fun d : DigT => Rw 93 2 d.2.2.1.1 d.2.2.1.2.2.length d.2.2.1.2.1 (d.2.2.1.2.2.flatMap dotC)) L2 :: Rw 46 10 q1 L1.length c1 (L1.flatMap entC) :: AllG (fun e : EntT => ValR 127 5 e.2.1.2.1) L1 :: Blk b_r [.int .i64 0, .int .i64 0, .int .i64 0, .int .i64 0, .int .i64 0, .string ⟨#[]⟩, .int .i64 0, .slice none 0 0, .slice none 0 0, .slice none 0 0] 26 :: []) w ∧ k ≤ (rCount 256 (mE (bs, 0)).2).1 ∧ L2.length = k ∧ L2.map pDig = fstOk (rMany rDig k (rCount 256 (mE (bs, 0)).2).2).1 ∧ okG2 L2) (fun ⟨k, q2, c2, L2⟩ => (rCount 256 (mE (bs, 0)).2).1 - k) (0, none, 0, []) (((hf.keep hk1).kb hf 91 rfl (by first | rfl | exact int_eq (by omega))).kb hf 7 rfl (by exact congrArg Value.bool (Bool.and_true _).symm)) ⟨((hS.allNil (fun d : DigT => Rw 93 2 d.2.2.1.1 d.2.2.1.2.2.length d.2.2.1.2.1 (d.2.2.1.2.2.flatMap dotC))).rwNil 49 10).subA, ⟨by omega, rfl, rfl, fun e he => by cases he⟩⟩ ?_
        clear hf hS; rintro ⟨k, q2, c2, L2⟩ a w hf ⟨hS, ⟨hk, hlk, hok, hokl⟩⟩; (try dsimp only [List.cons_append, List.nil_append] at hf)
        refine c_seq (c_region ?_)
        refine sB hf hS (rd_lss hf rfl rfl rfl) ?_ ?_
        ·
         clear hf; intro hc10 a hf
         refine done_l (t_normal (c_seq ?_))
         refine c_true hf rfl ?_
         refine c_skip (t_normal (c_seq (c_block (c_seq (c_region ?_)))))
         refine mN hf hS ?_; clear hf; intro a hf
         refine step_l (st_call hf (Wn.none rfl) rfl rfl rfl fn28 (RDigRd_c _ _ (hS.selA) (inv_k inv_rDig k (inv_mE hI)) (Nat.le_trans (rest_k rest_rDig k (mE (bs, 0)).2) (Nat.le_trans (rest_mE (bs, 0)) hb))) rfl rfl ?_)
         clear hf hS; rintro v a w ⟨ky, s0, s1, s2, s3, s4, s5, s6, s7, qs, cs, Ls, rfl, hEV, hLs, hS⟩ hf
         refine mN hf hS ?_; clear hf; intro a hf
         refine sR hf hS (rd_extract hf rfl rfl rfl) ?_; clear hf; intro a hf
         refine sR hf hS (rd_extract hf rfl rfl rfl) ?_; clear hf; intro a hf
         refine sA hf hS zr49 ?_
         clear hf hS; intro b_d a w hf hS
         refine sS hf hS sz49 ?_
         clear hf hS; intro a w hf hS
         refine aN hf hS ?_; clear hf; intro a hf
         refine done_l (t_normal (c_seq ?_))
         have hq29 := Keep.ofA hf [(7, 7), (98, 101)]
         replace hf := ((hf.keep hq29).kb hf 7 rfl rfl)
         refine c_joinK (n := 145) hq29 [(7, .bool ((true && allOk (mE (bs, 0)).1) && allOk (rMany rDig (k + 1) (rCount 256 (mE (bs, 0)).2).2).1))] (fun w => Sat W (RdX (All R) 68 p ((rDig (rMany rDig k (rCount 256 (mE (bs, 0)).2).2).2).2) :: Blk b_m [.int .i64 (min (((rNum (bs, 0)).1 : Nat) : Int) 1073741824), .int .i64 (min (((rNum (m1 (bs, 0))).1 : Nat) : Int) 1073741824), .int .i64 (min (((rNum (m2 (bs, 0))).1 : Nat) : Int) 1073741824), .int .i64 (mO (bs, 0)).1, .int .i64 (min (((mR (bs, 0)).1 : Nat) : Int) 1073741824), .string (str (mY (bs, 0)).1), .int .i64 (min (((mB (bs, 0)).1 : Nat) : Int) 1073741824), .slice q1 L1.length c1, .slice q2 L2.length c2, .slice none 0 0] 26 :: Blk b_d [.string (str ky), .int .i64 s0, .int .i64 s1, .int .i64 s2, .int .i64 s3, .int .i64 s4, .int .i64 s5, .int .i64 s6, .int .i64 s7, .slice qs Ls.length cs] 49 :: Rw 93 2 qs Ls.length cs (Ls.flatMap dotC) :: Rw 49 10 q2 L2.length c2 (L2.flatMap digC) :: AllG (fun d : DigT => Rw 93 2 d.2.2.1.1 d.2.2.1.2.2.length d.2.2.1.2.1 (d.2.2.1.2.2.flatMap dotC)) L2 :: Rw 46 10 q1 L1.length c1 (L1.flatMap entC) :: AllG (fun e : EntT => ValR 127 5 e.2.1.2.1) L1 :: Blk b_r [.int .i64 0, .int .i64 0, .int .i64 0, .int .i64 0, .int .i64 0, .string ⟨#[]⟩, .int .i64 0, .slice none 0 0, .slice none 0 0, .slice none 0 0] 26 :: []) w) ?_ ?_
         ·
          skip
          refine c_region ?_
          refine mN hf hS ?_; clear hf; intro a hf
          refine step_l (st_rdb hf (Wn.none rfl) (rd_move hf rfl rfl) hS rfl rfl ?_ ?_)
          ·
           clear hf; intro hc12 a hf
           have hAO := hc12
           iterate 3 ((first | refine step_l (st_rd hf (Wn.some hf rfl rfl rfl rfl) (rd_move hf rfl rfl) hS rfl rfl ?_) | refine aN hf hS ?_ | refine pT hf hS ?_); clear hf; intro a hf)
           refine done_l ?_
           refine t_normal ⟨((hf.backA hq29).kb hf 7 rfl (by exact congrArg Value.bool (by first | exact ok_snoc1 hAO | exact ok_snoc2 hAO))), hS.subA⟩
          clear hf; intro hc12 a hf
          have hAO := hc12
          iterate 3 ((first | refine kS hf ?_ | refine aN hf hS ?_ | refine pF hf hS ?_); clear hf; intro a hf)
          refine done_l ?_
          refine t_normal ⟨((hf.backA hq29).kb hf 7 rfl (by exact congrArg Value.bool (by first | exact ok_snoc1 hAO | exact ok_snoc2 hAO))), hS.subA⟩
         ·
          clear hf hS; intro a w hf hS; (try dsimp only [List.cons_append, List.nil_append] at hf)
          refine t_normal (c_region ?_)
          refine fA hf hS fb26_8 ?_; clear hf; intro a hf
          refine sR hf hS (rd_ld hf ag23) ?_; clear hf; intro a hf
          refine sR hf hS (rd_ldN hf ag49 sz49) ?_; clear hf; intro a hf
          refine step_l (st_buildSlice hf (Wn.none rfl) hS rfl rfl Tryz.underlying23 sz49 zr49 (by decide) bz49_1 rfl (.cons rfl (by first | rfl) (by rfl) (by repeat (first | exact Put.nil | apply Put.cons | apply Put.succ)) .nil) rfl rfl ?_)
          clear hf hS; intro b_13 a w hf hS
          refine step_l (st_append hf (Wn.none rfl) rfl rfl rfl Tryz.underlying23 tyb49 (by rfl) (by decide) hS (by repeat (first | exact Sel.head | apply Sel.tail)) (by first | exact hS.slOfBlk (by repeat (first | exact Sel.head | apply Sel.tail)) (by rfl) | exact hS.slOfBlkPre (by repeat (first | exact Sel.head | apply Sel.tail)) (bvs_len1 _) | exact hS.slOfRw (by repeat (first | exact Sel.head | apply Sel.tail)) | exact SlAt.nil _ _ _) (by first | rfl | exact bvs_one _ | (simp [Value.oneCell']; done)) (by omega) rfl rfl ?_)
          clear hf hS; intro pA capA a w hf hS hnilA
          refine fA hf hS fb26_8 ?_; clear hf; intro a hf
          refine sS hf hS sz23 ?_
          clear hf hS; intro a w hf hS
          refine done_l (b_normal (t_normal (c_region ?_)))
          refine sP hf hS ?_; clear hf; intro a hf
          refine mN hf hS ?_; clear hf; intro a hf
          refine done_l ?_
          have h1 : Sat W (AllG (fun d : DigT => Rw 93 2 d.2.2.1.1 d.2.2.1.2.2.length d.2.2.1.2.1 (d.2.2.1.2.2.flatMap dotC)) L2 :: (fun d : DigT => Rw 93 2 d.2.2.1.1 d.2.2.1.2.2.length d.2.2.1.2.1 (d.2.2.1.2.2.flatMap dotC)) (ky, [s0, s1, s2, s3, s4, s5, s6, s7], (qs, cs, Ls), ()) :: Rw 49 10 pA (L2.length + 1) capA (L2.flatMap digC ++ [.string (str ky), .int .i64 s0, .int .i64 s1, .int .i64 s2, .int .i64 s3, .int .i64 s4, .int .i64 s5, .int .i64 s6, .int .i64 s7, .slice qs Ls.length cs]) :: RdX (All R) 68 p ((rDig (rMany rDig k (rCount 256 (mE (bs, 0)).2).2).2).2) :: Blk b_m [.int .i64 (min (((rNum (bs, 0)).1 : Nat) : Int) 1073741824), .int .i64 (min (((rNum (m1 (bs, 0))).1 : Nat) : Int) 1073741824), .int .i64 (min (((rNum (m2 (bs, 0))).1 : Nat) : Int) 1073741824), .int .i64 (mO (bs, 0)).1, .int .i64 (min (((mR (bs, 0)).1 : Nat) : Int) 1073741824), .string (str (mY (bs, 0)).1), .int .i64 (min (((mB (bs, 0)).1 : Nat) : Int) 1073741824), .slice q1 L1.length c1, .slice pA (L2.length + 1) capA, .slice none 0 0] 26 :: Rw 46 10 q1 L1.length c1 (L1.flatMap entC) :: AllG (fun e : EntT => ValR 127 5 e.2.1.2.1) L1 :: Blk b_r [.int .i64 0, .int .i64 0, .int .i64 0, .int .i64 0, .int .i64 0, .string ⟨#[]⟩, .int .i64 0, .slice none 0 0, .slice none 0 0, .slice none 0 0] 26 :: []) w := hS.subA; replace h1 := h1.allSnoc; have h2 : Sat W (Rw 49 10 pA (L2.length + 1) capA (L2.flatMap digC ++ [.string (str ky), .int .i64 s0, .int .i64 s1, .int .i64 s2, .int .i64 s3, .int .i64 s4, .int .i64 s5, .int .i64 s6, .int .i64 s7, .slice qs Ls.length cs]) :: AllG (fun d : DigT => Rw 93 2 d.2.2.1.1 d.2.2.1.2.2.length d.2.2.1.2.1 (d.2.2.1.2.2.flatMap dotC)) (L2 ++ [(ky, [s0, s1, s2, s3, s4, s5, s6, s7], (qs, cs, Ls), ())]) :: RdX (All R) 68 p ((rDig (rMany rDig k (rCount 256 (mE (bs, 0)).2).2).2).2) :: Blk b_m [.int .i64 (min (((rNum (bs, 0)).1 : Nat) : Int) 1073741824), .int .i64 (min (((rNum (m1 (bs, 0))).1 : Nat) : Int) 1073741824), .int .i64 (min (((rNum (m2 (bs, 0))).1 : Nat) : Int) 1073741824), .int .i64 (mO (bs, 0)).1, .int .i64 (min (((mR (bs, 0)).1 : Nat) : Int) 1073741824), .string (str (mY (bs, 0)).1), .int .i64 (min (((mB (bs, 0)).1 : Nat) : Int) 1073741824), .slice q1 L1.length c1, .slice pA (L2.length + 1) capA, .slice none 0 0] 26 :: Rw 46 10 q1 L1.length c1 (L1.flatMap entC) :: AllG (fun e : EntT => ValR 127 5 e.2.1.2.1) L1 :: Blk b_r [.int .i64 0, .int .i64 0, .int .i64 0, .int .i64 0, .int .i64 0, .string ⟨#[]⟩, .int .i64 0, .slice none 0 0, .slice none 0 0, .slice none 0 0] 26 :: []) w := h1.subA; replace h2 := h2.rwCast (xs' := (L2 ++ [(ky, [s0, s1, s2, s3, s4, s5, s6, s7], (qs, cs, Ls), ())]).flatMap digC) (by simp [digC, i64s, slv]) rfl
          refine t_normal ⟨(k + 1, pA, capA, L2 ++ [(ky, [s0, s1, s2, s3, s4, s5, s6, s7], (qs, cs, Ls), ())]), (((hf.backA hk1).kb hf 91 rfl (by first | rfl | exact int_eq (by omega))).kb hf 7 rfl (by rfl)), ⟨(by rw [List.length_append]; exact h2.subA), ⟨by omega, by simp [hlk], fst_snoc hok hEV, okG2.snoc (x := (ky, [s0, s1, s2, s3, s4, s5, s6, s7], (qs, cs, Ls), ())) hokl ⟨rfl, (by show Ls.length ≤ 1000; omega)⟩⟩⟩, by first | omega | (simp only []; omega)⟩
        clear hf; intro hc10 a hf
        obtain rfl : k = (rCount 256 (mE (bs, 0)).2).1 := by omega
        refine done_l (t_normal (c_seq ?_))
        refine c_false hf rfl ?_
        refine c_exit (t_exit (t_exit (b_exit ?_)))
        refine t_normal ⟨(q2, c2, L2), ((hf.backA hj88).kb hf 7 rfl (by rw [e]; rfl)), ⟨(by rw [e]; exact hS.subA), ⟨by rw [e]; exact hok, hokl, by omega⟩⟩⟩
       ·
        intro hc
        have hi : mh 5 (bs, 0) = false := has_f (by decide) hc
        have e : mD (bs, 0) = ([], (mE (bs, 0)).2) := opt_no hi
        refine c_skip ?_
        refine t_normal ⟨(none, 0, []), ((hf.backA hj88).kb hf 7 rfl (by rw [e]; exact congrArg Value.bool (Bool.and_true _).symm)), ⟨(by rw [e]; exact ((hS.allNil (fun d : DigT => Rw 93 2 d.2.2.1.1 d.2.2.1.2.2.length d.2.2.1.2.1 (d.2.2.1.2.2.flatMap dotC))).rwNil 49 10).subA), ⟨by rw [e]; rfl, (fun e he => by cases he), by decide⟩⟩⟩
      ·
       clear hf hS; rintro ⟨q2, c2, L2⟩; intro a w hf hS; (try dsimp only [List.cons_append, List.nil_append] at hf)
       obtain ⟨hS, ⟨hD1, hD2, hD3⟩⟩ := hS
       refine t_normal (c_seq (c_seq (c_region ?_)))
       refine mN hf hS ?_; clear hf; intro a hf
       refine sR hf hS (rd_and hf rfl rfl rfl (and_parts ((rNum (bs, 0)).1 : Int) 6 64 (by decide) (by decide))) ?_; clear hf; intro a hf
       refine sR hf hS (rd_neq hf rfl rfl rfl) ?_; clear hf; intro a hf
       refine done_l (t_normal ?_)
       have hj111 := Keep.ofA hf [(12, 12), (112, 130)]
       refine c_joinX (n := 145) (α := Option Addr × Nat × List DotT) hj111 (fun ⟨q3, c3, L3⟩ => []) (fun ⟨q3, c3, L3⟩ w => Sat W (RdX (All R) 68 p ((mX (bs, 0)).2) :: Blk b_m [.int .i64 (min (((rNum (bs, 0)).1 : Nat) : Int) 1073741824), .int .i64 (min (((rNum (m1 (bs, 0))).1 : Nat) : Int) 1073741824), .int .i64 (min (((rNum (m2 (bs, 0))).1 : Nat) : Int) 1073741824), .int .i64 (mO (bs, 0)).1, .int .i64 (min (((mR (bs, 0)).1 : Nat) : Int) 1073741824), .string (str (mY (bs, 0)).1), .int .i64 (min (((mB (bs, 0)).1 : Nat) : Int) 1073741824), .slice q1 L1.length c1, .slice q2 L2.length c2, .slice q3 L3.length c3] 26 :: Rw 60 2 q3 L3.length c3 (L3.flatMap dotC) :: Rw 49 10 q2 L2.length c2 (L2.flatMap digC) :: AllG (fun d : DigT => Rw 93 2 d.2.2.1.1 d.2.2.1.2.2.length d.2.2.1.2.1 (d.2.2.1.2.2.flatMap dotC)) L2 :: Rw 46 10 q1 L1.length c1 (L1.flatMap entC) :: AllG (fun e : EntT => ValR 127 5 e.2.1.2.1) L1 :: Blk b_r [.int .i64 0, .int .i64 0, .int .i64 0, .int .i64 0, .int .i64 0, .string ⟨#[]⟩, .int .i64 0, .slice none 0 0, .slice none 0 0, .slice none 0 0] 26 :: []) w ∧ L3.map pDot = (mX (bs, 0)).1.map (capD 1073741824) ∧ L3.length ≤ 8) ?_ ?_
       ·
        refine c_split hf rfl ?_ ?_
        ·
         intro hc
         have hi : mh 6 (bs, 0) = true := has_t (by decide) hc
         have e : mX (bs, 0) = manyC 8 rDot (mD (bs, 0)).2 := opt_yes hi
         have hn := rCount_most 8 (mD (bs, 0)).2
         refine c_seq (c_region ?_)
         refine mN hf hS ?_; clear hf; intro a hf
         refine step_l (st_call hf (Wn.none rfl) rfl rfl rfl fn26 (RVCount_c _ _ _ (hS.selA) ⟨by decide, by decide⟩) rfl rfl ?_)
         clear hf hS; rintro v a w ⟨rfl, hS⟩ hf
         refine mN hf hS ?_; clear hf; intro a hf
         refine done_l (t_normal (c_block ?_))
         have hk2 := Keep.ofA hf [(12, 12), (114, 130)]
         refine c_loopK hk2 (α := Nat × Option Addr × Nat × List DotT) (fun ⟨k, q3, c3, L3⟩ => [(114, .int .i64 (k : Nat))]) (fun ⟨k, q3, c3, L3⟩ w => Sat W (RdX (All R) 68 p ((rMany rDot k (rCount 8 (mD (bs, 0)).2).2).2) :: Blk b_m [.int .i64 (min (((rNum (bs, 0)).1 : Nat) : Int) 1073741824), .int .i64 (min (((rNum (m1 (bs, 0))).1 : Nat) : Int) 1073741824), .int .i64 (min (((rNum (m2 (bs, 0))).1 : Nat) : Int) 1073741824), .int .i64 (mO (bs, 0)).1, .int .i64 (min (((mR (bs, 0)).1 : Nat) : Int) 1073741824), .string (str (mY (bs, 0)).1), .int .i64 (min (((mB (bs, 0)).1 : Nat) : Int) 1073741824), .slice q1 L1.length c1, .slice q2 L2.length c2, .slice q3 L3.length c3] 26 :: Rw 60 2 q3 L3.length c3 (L3.flatMap dotC) :: Rw 49 10 q2 L2.length c2 (L2.flatMap digC) :: AllG (fun d : DigT => Rw 93 2 d.2.2.1.1 d.2.2.1.2.2.length d.2.2.1.2.1 (d.2.2.1.2.2.flatMap dotC)) L2 :: Rw 46 10 q1 L1.length c1 (L1.flatMap entC) :: AllG (fun e : EntT => ValR 127 5 e.2.1.2.1) L1 :: Blk b_r [.int .i64 0, .int .i64 0, .int .i64 0, .int .i64 0, .int .i64 0, .string ⟨#[]⟩, .int .i64 0, .slice none 0 0, .slice none 0 0, .slice none 0 0] 26 :: []) w ∧ k ≤ (rCount 8 (mD (bs, 0)).2).1 ∧ L3.length = k ∧ L3.map pDot = (rMany rDot k (rCount 8 (mD (bs, 0)).2).2).1.map (capD 1073741824)) (fun ⟨k, q3, c3, L3⟩ => (rCount 8 (mD (bs, 0)).2).1 - k) (0, none, 0, []) ((hf.keep hk2).kb hf 114 rfl (by first | rfl | exact int_eq (by omega))) ⟨(hS.rwNil 60 2).subA, ⟨by omega, rfl, rfl⟩⟩ ?_
         clear hf hS; rintro ⟨k, q3, c3, L3⟩ a w hf ⟨hS, ⟨hk, hlk, hok⟩⟩; (try dsimp only [List.cons_append, List.nil_append] at hf)
         refine c_seq (c_region ?_)
         refine sB hf hS (rd_lss hf rfl rfl rfl) ?_ ?_
         ·
          clear hf; intro hc15 a hf
          refine done_l (t_normal (c_seq ?_))
          refine c_true hf rfl ?_
          refine c_skip (t_normal (c_seq (c_block (c_seq (c_region ?_)))))
          refine sR hf hS (rd_build hf rfl rfl zr60 (by rfl) pl60 .nil) ?_; clear hf; intro a hf
          refine sA hf hS zr60 ?_
          clear hf hS; intro b_x a w hf hS
          refine sS hf hS sz60 ?_
          clear hf hS; intro a w hf hS
          refine done_l (t_normal (c_seq (c_region ?_)))
          refine mN hf hS ?_; clear hf; intro a hf
          refine step_l (st_call hf (Wn.none rfl) rfl rfl rfl fn23 (RVNum_c _ _ (hS.selA)) rfl rfl ?_)
          clear hf hS; rintro v a w ⟨rfl, hS⟩ hf
          refine step_l (st_call hf (Wn.none rfl) rfl rfl rfl fn22 (Small_c _ hS (rNum_lt _)) rfl rfl ?_)
          clear hf hS; rintro v a w ⟨rfl, hS⟩ hf
          refine fA hf hS fb60_0 ?_; clear hf; intro a hf
          refine sS hf hS sz3 ?_
          clear hf hS; intro a w hf hS
          refine done_l (t_normal (c_seq (c_region ?_)))
          refine mN hf hS ?_; clear hf; intro a hf
          refine step_l (st_call hf (Wn.none rfl) rfl rfl rfl fn24 (RVInt_c _ _ (hS.selA)) rfl rfl ?_)
          clear hf hS; rintro v a w ⟨rfl, hS⟩ hf
          refine fA hf hS fb60_1 ?_; clear hf; intro a hf
          refine sS hf hS sz2 ?_
          clear hf hS; intro a w hf hS
          refine done_l (t_normal (c_region ?_))
          refine fA hf hS fb26_9 ?_; clear hf; intro a hf
          refine sR hf hS (rd_ld hf ag24) ?_; clear hf; intro a hf
          refine sR hf hS (rd_ldN hf ag60 sz60) ?_; clear hf; intro a hf
          refine step_l (st_buildSlice hf (Wn.none rfl) hS rfl rfl Tryz.underlying24 sz60 zr60 (by decide) bz60_1 rfl (.cons rfl (by first | rfl) (by rfl) (by repeat (first | exact Put.nil | apply Put.cons | apply Put.succ)) .nil) rfl rfl ?_)
          clear hf hS; intro b_17 a w hf hS
          refine step_l (st_append hf (Wn.none rfl) rfl rfl rfl Tryz.underlying24 tyb60 (by rfl) (by decide) hS (by repeat (first | exact Sel.head | apply Sel.tail)) (by first | exact hS.slOfBlk (by repeat (first | exact Sel.head | apply Sel.tail)) (by rfl) | exact hS.slOfBlkPre (by repeat (first | exact Sel.head | apply Sel.tail)) (bvs_len1 _) | exact hS.slOfRw (by repeat (first | exact Sel.head | apply Sel.tail)) | exact SlAt.nil _ _ _) (by first | rfl | exact bvs_one _ | (simp [Value.oneCell']; done)) (by omega) rfl rfl ?_)
          clear hf hS; intro pA capA a w hf hS hnilA
          refine fA hf hS fb26_9 ?_; clear hf; intro a hf
          refine sS hf hS sz24 ?_
          clear hf hS; intro a w hf hS
          refine done_l (b_normal (t_normal (c_region ?_)))
          refine sP hf hS ?_; clear hf; intro a hf
          refine mN hf hS ?_; clear hf; intro a hf
          refine done_l ?_
          have h2 : Sat W (Rw 60 2 pA (L3.length + 1) capA (L3.flatMap dotC ++ [.int .i64 (min ((rNum (rMany rDot k (rCount 8 (mD (bs, 0)).2).2).2).1 : Int) 1073741824), .int .i64 (rInt (rNum (rMany rDot k (rCount 8 (mD (bs, 0)).2).2).2).2).1]) :: RdX (All R) 68 p ((rDot (rMany rDot k (rCount 8 (mD (bs, 0)).2).2).2).2) :: Blk b_m [.int .i64 (min (((rNum (bs, 0)).1 : Nat) : Int) 1073741824), .int .i64 (min (((rNum (m1 (bs, 0))).1 : Nat) : Int) 1073741824), .int .i64 (min (((rNum (m2 (bs, 0))).1 : Nat) : Int) 1073741824), .int .i64 (mO (bs, 0)).1, .int .i64 (min (((mR (bs, 0)).1 : Nat) : Int) 1073741824), .string (str (mY (bs, 0)).1), .int .i64 (min (((mB (bs, 0)).1 : Nat) : Int) 1073741824), .slice q1 L1.length c1, .slice q2 L2.length c2, .slice pA (L3.length + 1) capA] 26 :: Rw 49 10 q2 L2.length c2 (L2.flatMap digC) :: AllG (fun d : DigT => Rw 93 2 d.2.2.1.1 d.2.2.1.2.2.length d.2.2.1.2.1 (d.2.2.1.2.2.flatMap dotC)) L2 :: Rw 46 10 q1 L1.length c1 (L1.flatMap entC) :: AllG (fun e : EntT => ValR 127 5 e.2.1.2.1) L1 :: Blk b_r [.int .i64 0, .int .i64 0, .int .i64 0, .int .i64 0, .int .i64 0, .string ⟨#[]⟩, .int .i64 0, .slice none 0 0, .slice none 0 0, .slice none 0 0] 26 :: []) w := hS.subA; replace h2 := h2.rwCast (xs' := (L3 ++ [(min ((rNum (rMany rDot k (rCount 8 (mD (bs, 0)).2).2).2).1 : Int) 1073741824, (rInt (rNum (rMany rDot k (rCount 8 (mD (bs, 0)).2).2).2).2).1, ())]).flatMap dotC) (by simp [dotC]) rfl
          refine t_normal ⟨(k + 1, pA, capA, L3 ++ [(min ((rNum (rMany rDot k (rCount 8 (mD (bs, 0)).2).2).2).1 : Int) 1073741824, (rInt (rNum (rMany rDot k (rCount 8 (mD (bs, 0)).2).2).2).2).1, ())]), ((hf.backA hk2).kb hf 114 rfl (by first | rfl | exact int_eq (by omega))), ⟨(by rw [List.length_append]; exact h2.subA), ⟨by omega, by simp [hlk], raw_snoc hok rfl⟩⟩, by first | omega | (simp only []; omega)⟩
         clear hf; intro hc15 a hf
         obtain rfl : k = (rCount 8 (mD (bs, 0)).2).1 := by omega
         refine done_l (t_normal (c_seq ?_))
         refine c_false hf rfl ?_
         refine c_exit (t_exit (t_exit (b_exit ?_)))
         refine t_normal ⟨(q3, c3, L3), (hf.backA hj111), ⟨(by rw [e]; exact hS.subA), ⟨by rw [e]; exact hok, by omega⟩⟩⟩
        ·
         intro hc
         have hi : mh 6 (bs, 0) = false := has_f (by decide) hc
         have e : mX (bs, 0) = ([], (mD (bs, 0)).2) := opt_no hi
         refine c_skip ?_
         refine t_normal ⟨(none, 0, []), (hf.backA hj111), ⟨(by rw [e]; exact (hS.rwNil 60 2).subA), ⟨by rw [e]; rfl, by decide⟩⟩⟩
       ·
        clear hf hS; rintro ⟨q3, c3, L3⟩; intro a w hf hS; (try dsimp only [List.cons_append, List.nil_append] at hf)
        obtain ⟨hS, ⟨hM1, hM3⟩⟩ := hS
        refine t_normal (c_seq (c_seq (c_region ?_)))
        refine step_l (st_rdb hf (Wn.none rfl) (rd_move hf rfl rfl) hS rfl rfl ?_ ?_)
        ·
         clear hf; intro hc19 a hf
         have hB := hc19
         refine nT hf hS ?_; clear hf; intro a hf
         iterate 2 ((first | refine mN hf hS ?_ | refine step_l (st_rd hf (Wn.some hf rfl rfl rfl rfl) (rd_move hf rfl rfl) hS rfl rfl ?_)); clear hf; intro a hf)
         refine step_l (st_call hf (Wn.some hf rfl rfl rfl rfl) rfl rfl rfl fn29 (RVEnd_c _ _ (hS.selA)) rfl rfl ?_)
         clear hf hS; rintro v a w ⟨rfl, hS⟩ hf
         refine step_l (st_rdB hf (Wn.some hf rfl rfl rfl rfl) (rd_neq hf rfl rfl rfl) hS rfl rfl ?_ ?_)
         ·
          clear hf; intro hc20 a hf
          have hE := hc20
          iterate 6 ((first | refine kS hf ?_ | refine mN hf hS ?_ | refine pT hf hS ?_ | refine pF hf hS ?_); clear hf; intro a hf)
          refine done_l (t_normal ?_)
          refine c_true hf rfl ?_
          refine c_seq (c_region ?_)
          refine sR hf hS (rd_build hf rfl rfl zr26 (by rfl) pl26 .nil) ?_; clear hf; intro a hf
          refine sS hf hS sz26 ?_
          clear hf hS; intro a w hf hS
          refine aN hf hS ?_; clear hf; intro a hf
          refine done_l (t_normal (c_ret (t_ret ?_)))
          refine eC hf hS ag26 sz26 ?_
          obtain ⟨qz, capz, hcapz, hS⟩ := rdx_open (hS.selA : Sat W (RdX (All R) 68 p ((mX (bs, 0)).2) :: _) w)
          replace hS : Sat W (VwX (All R) _ _ _ _ :: _) w := hS.selA
          replace hS := hS.vwxBack
          replace hS : Sat W ([] ++ [All R]) w := hS.subA
          replace hS := hS.tailUn
          have e0 : decOk (bs, 0) = false := by first | exact decX_no (c := 1073741824) (by decide) (fun hh => Bool.noConfusion ((and3 hh.2.1 hh.2.2.1).symm.trans hB : true = false)) | exact decX_no (c := 1073741824) (by decide) (fun hh => hE hh.1) | exact decX_no (c := 1073741824) (by decide) (fun hh => Bool.noConfusion (hh.2.2.2.symm.trans hM : true = false))
          obtain ⟨e1, e2⟩ := dec_bad (bs := bs) (by omega) e0
          rw [e1, e2]; exact ⟨none, 0, [], none, 0, [], none, 0, [], rfl, ⟨rfl, (fun e he => by cases he), by decide⟩, ⟨rfl, (fun e he => by cases he), by decide⟩, ⟨rfl, by decide⟩, ((((((hS.subA : Sat W R w).allNil (fun e : EntT => ValR 127 5 e.2.1.2.1)).rwNil 46 10).allNil (fun d : DigT => Rw 93 2 d.2.2.1.1 d.2.2.1.2.2.length d.2.2.1.2.1 (d.2.2.1.2.2.flatMap dotC))).rwNil 49 10).rwNil 60 2).subA⟩
         clear hf; intro hc20 a hf
         have hE := hc20
         iterate 2 ((first | refine mN hf hS ?_ | refine pF hf hS ?_); clear hf; intro a hf)
         refine sG hf hS (rd_ldN hf ag26 sz26) ?_; clear hf; intro a hf
         refine step_l (st_call hf (Wn.some hf rfl rfl rfl rfl) rfl rfl rfl fn11 (RMay_c _ _ _ _ _ _ _ _ _ _ _ _ _ _ _ _  hS (fun _ h => h.entL (by repeat (first | exact Sel.head | apply Sel.tail)) (by repeat (first | exact Sel.head | apply Sel.tail)) hE2 (by omega)) (fun _ h => h.digL (by repeat (first | exact Sel.head | apply Sel.tail)) (by repeat (first | exact Sel.head | apply Sel.tail)) hD2 (by omega)) (fun _ h => ⟨h.slOfRw (by repeat (first | exact Sel.head | apply Sel.tail)), by show L3.length ≤ _; omega⟩) (by omega) (by omega) (by omega)) rfl rfl ?_)
         clear hf hS; rintro v a w ⟨rfl, hS⟩ hf
         first | refine split_dec (d := 140) hf rfl ?_ ?_ | refine split_bool (d := 140) hf rfl ?_ ?_
         ·
          clear hf; intro hc21 hf
          have hM : mayM (capX 1073741824 (mMsgX (bs, 0))) = true := by have h0 := hc21; rw [hE1, hD1, hM1] at h0; exact h0
          refine sG hf hS (rd_not hf rfl rfl) ?_; clear hf; intro a hf
          refine pF hf hS ?_; clear hf; intro a hf
          refine done_l (t_normal ?_)
          refine c_false hf rfl ?_
          refine c_skip (t_normal (c_seq (c_region ?_)))
          refine sR hf hS (rd_ldN hf ag26 sz26) ?_; clear hf; intro a hf
          refine sS hf hS sz26 ?_
          clear hf hS; intro a w hf hS
          refine aN hf hS ?_; clear hf; intro a hf
          refine done_l (t_normal (c_ret ?_))
          refine eC hf hS ag26 sz26 ?_
          obtain ⟨qz, capz, hcapz, hS⟩ := rdx_open (hS.selA : Sat W (RdX (All R) 68 p ((mX (bs, 0)).2) :: _) w)
          replace hS : Sat W (VwX (All R) _ _ _ _ :: _) w := hS.selA
          replace hS := hS.vwxBack
          replace hS : Sat W ([Rw 60 2 q3 L3.length c3 (L3.flatMap dotC), Rw 49 10 q2 L2.length c2 (L2.flatMap digC), AllG (fun d : DigT => Rw 93 2 d.2.2.1.1 d.2.2.1.2.2.length d.2.2.1.2.1 (d.2.2.1.2.2.flatMap dotC)) L2, Rw 46 10 q1 L1.length c1 (L1.flatMap entC), AllG (fun e : EntT => ValR 127 5 e.2.1.2.1) L1] ++ [All R]) w := hS.subA
          replace hS := hS.tailUn
          simp only [Bool.true_and, Bool.and_eq_true] at hB
          obtain ⟨e1, e2⟩ := decX_yes (c := 1073741824) (by decide) (Classical.not_not.1 hE) hB.1 hB.2 hM
          obtain ⟨e3, e4⟩ := dec_good (bs := bs) (by omega) e1
          rw [e3, e4, ← e2]; exact ⟨q1, c1, L1, q2, c2, L2, q3, c3, L3, rfl, ⟨hE1, hE2, hE3⟩, ⟨hD1, hD2, hD3⟩, ⟨hM1, hM3⟩, hS.subA⟩
         clear hf; intro hc21 hf
         have hM : mayM (capX 1073741824 (mMsgX (bs, 0))) = false := by have h0 := hc21; rw [hE1, hD1, hM1] at h0; exact h0
         refine sG hf hS (rd_not hf rfl rfl) ?_; clear hf; intro a hf
         refine pF hf hS ?_; clear hf; intro a hf
         refine done_l (t_normal ?_)
         refine c_true hf rfl ?_
         refine c_seq (c_region ?_)
         refine sR hf hS (rd_build hf rfl rfl zr26 (by rfl) pl26 .nil) ?_; clear hf; intro a hf
         refine sS hf hS sz26 ?_
         clear hf hS; intro a w hf hS
         refine aN hf hS ?_; clear hf; intro a hf
         refine done_l (t_normal (c_ret (t_ret ?_)))
         refine eC hf hS ag26 sz26 ?_
         obtain ⟨qz, capz, hcapz, hS⟩ := rdx_open (hS.selA : Sat W (RdX (All R) 68 p ((mX (bs, 0)).2) :: _) w)
         replace hS : Sat W (VwX (All R) _ _ _ _ :: _) w := hS.selA
         replace hS := hS.vwxBack
         replace hS : Sat W ([] ++ [All R]) w := hS.subA
         replace hS := hS.tailUn
         have e0 : decOk (bs, 0) = false := by first | exact decX_no (c := 1073741824) (by decide) (fun hh => Bool.noConfusion ((and3 hh.2.1 hh.2.2.1).symm.trans hB : true = false)) | exact decX_no (c := 1073741824) (by decide) (fun hh => hE hh.1) | exact decX_no (c := 1073741824) (by decide) (fun hh => Bool.noConfusion (hh.2.2.2.symm.trans hM : true = false))
         obtain ⟨e1, e2⟩ := dec_bad (bs := bs) (by omega) e0
         rw [e1, e2]; exact ⟨none, 0, [], none, 0, [], none, 0, [], rfl, ⟨rfl, (fun e he => by cases he), by decide⟩, ⟨rfl, (fun e he => by cases he), by decide⟩, ⟨rfl, by decide⟩, ((((((hS.subA : Sat W R w).allNil (fun e : EntT => ValR 127 5 e.2.1.2.1)).rwNil 46 10).allNil (fun d : DigT => Rw 93 2 d.2.2.1.1 d.2.2.1.2.2.length d.2.2.1.2.1 (d.2.2.1.2.2.flatMap dotC))).rwNil 49 10).rwNil 60 2).subA⟩
        clear hf; intro hc19 a hf
        have hB := hc19
        refine nT hf hS ?_; clear hf; intro a hf
        iterate 10 ((first | refine kS hf ?_ | refine mN hf hS ?_ | refine pT hf hS ?_); clear hf; intro a hf)
        refine done_l (t_normal ?_)
        refine c_true hf rfl ?_
        refine c_seq (c_region ?_)
        refine sR hf hS (rd_build hf rfl rfl zr26 (by rfl) pl26 .nil) ?_; clear hf; intro a hf
        refine sS hf hS sz26 ?_
        clear hf hS; intro a w hf hS
        refine aN hf hS ?_; clear hf; intro a hf
        refine done_l (t_normal (c_ret (t_ret ?_)))
        refine eC hf hS ag26 sz26 ?_
        obtain ⟨qz, capz, hcapz, hS⟩ := rdx_open (hS.selA : Sat W (RdX (All R) 68 p ((mX (bs, 0)).2) :: _) w)
        replace hS : Sat W (VwX (All R) _ _ _ _ :: _) w := hS.selA
        replace hS := hS.vwxBack
        replace hS : Sat W ([] ++ [All R]) w := hS.subA
        replace hS := hS.tailUn
        have e0 : decOk (bs, 0) = false := by first | exact decX_no (c := 1073741824) (by decide) (fun hh => Bool.noConfusion ((and3 hh.2.1 hh.2.2.1).symm.trans hB : true = false)) | exact decX_no (c := 1073741824) (by decide) (fun hh => hE hh.1) | exact decX_no (c := 1073741824) (by decide) (fun hh => Bool.noConfusion (hh.2.2.2.symm.trans hM : true = false))
        obtain ⟨e1, e2⟩ := dec_bad (bs := bs) (by omega) e0
        rw [e1, e2]; exact ⟨none, 0, [], none, 0, [], none, 0, [], rfl, ⟨rfl, (fun e he => by cases he), by decide⟩, ⟨rfl, (fun e he => by cases he), by decide⟩, ⟨rfl, by decide⟩, ((((((hS.subA : Sat W R w).allNil (fun e : EntT => ValR 127 5 e.2.1.2.1)).rwNil 46 10).allNil (fun d : DigT => Rw 93 2 d.2.2.1.1 d.2.2.1.2.2.length d.2.2.1.2.1 (d.2.2.1.2.2.flatMap dotC))).rwNil 49 10).rwNil 60 2).subA⟩

end Go.Proofs.YtglmimbfelakbaaGreat
