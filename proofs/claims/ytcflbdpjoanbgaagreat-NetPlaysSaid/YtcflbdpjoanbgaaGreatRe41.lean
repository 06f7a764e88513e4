/-
  Walked: Re4.
  Conditions: none.
-/
import Derived.Test.YtcflbdpjoanbgaaGreatRe31
import Derived.Test.YtcflbdpjoanbgaaGreatMs7
namespace Go.Proofs.YtcflbdpjoanbgaaGreat
open Go Go.Sl
set_option linter.unusedVariables false
set_option linter.unusedSimpArgs false

set_option maxRecDepth 100000 in
set_option maxHeartbeats 8000000 in
theorem MsgRd_c (p : Nat) (s : RS) {W : World} {R : List HP} {w : World} (hS : Sat W (RdP 122 p (s) :: R) w) (hI : InvR s) (hb : s.1.length ≤ 140737488355328) : Calls Tryz.prog 44 [.pointer (some ⟨p, 0, none⟩)].toArray w (Ret fun v w' => ∃ q1 c1 L1 q2 c2 L2 q3 c3 L3, v = .tuple #[.agg #[.int .i64 (min (((rNum s).1 : Nat) : Int) 60000), .int .i64 (min (((rNum (m1 s)).1 : Nat) : Int) 60000), .int .i64 (min (((rNum (m2 s)).1 : Nat) : Int) 60000), .int .i64 (mO s).1, .int .i64 (min (((mR s).1 : Nat) : Int) 60000), .string (str (mY s).1), .int .i64 (min (((mB s).1 : Nat) : Int) 60000), .slice q1 (L1 : List EntT).length c1, .slice q2 (L2 : List DigT).length c2, .slice q3 (L3 : List DotT).length c3], .bool (((decide (¬ partsI ((rNum s).1 : Int) = 0) && allOk (mE s).1) && allOk (mD s).1) && allOk (mM s).1)] ∧ (L1.map pEnt = fstOk (mE s).1 ∧ okL L1 ∧ L1.length ≤ 256) ∧ (L2.map pDig = fstOk (mD s).1 ∧ okG2 L2 ∧ L2.length ≤ 256) ∧ (L3.map pDot = fstOk (mM s).1 ∧ L3.length ≤ 8) ∧ Sat W (RdP 122 p ((mM s).2) :: Rw 73 2 q3 L3.length c3 (L3.flatMap dotC) :: Rw 61 10 q2 L2.length c2 (L2.flatMap digC) :: AllG (fun d : DigT => Rw 87 2 d.2.2.1.1 d.2.2.1.2.2.length d.2.2.1.2.1 (d.2.2.1.2.2.flatMap dotC)) L2 :: Rw 58 10 q1 L1.length c1 (L1.flatMap entC) :: AllG (fun e : EntT => ValR 107 5 e.2.1.2.1) L1 :: R) w') := by
 refine fn_start 121 Tryz.func44 rfl rfl rfl ?_
 intro a hf
 refine c_seq (c_region ?_)
 refine sA hf hS zr32 ?_
 clear hf hS; intro b_r a w hf hS
 refine aN hf hS ?_; clear hf; intro a hf
 refine done_l (t_normal (c_seq (c_region ?_)))
 refine mN hf hS ?_; clear hf; intro a hf
 refine step_l (st_call hf (Wn.none rfl) rfl rfl rfl fn77 (RNumber_c _ _ (hS.selA)) rfl rfl ?_)
 clear hf hS; rintro v a w ⟨rfl, hS⟩ hf
 refine mN hf hS ?_; clear hf; intro a hf
 refine step_l (st_call hf (Wn.none rfl) rfl rfl rfl fn77 (RNumber_c _ _ (hS.selA)) rfl rfl ?_)
 clear hf hS; rintro v a w ⟨rfl, hS⟩ hf
 refine mN hf hS ?_; clear hf; intro a hf
 refine step_l (st_call hf (Wn.none rfl) rfl rfl rfl fn77 (RNumber_c _ _ (hS.selA)) rfl rfl ?_)
 clear hf hS; rintro v a w ⟨rfl, hS⟩ hf
 refine sR hf hS (rd_build hf rfl rfl zr32 (by rfl) pl32 (.cons rfl (by first | rfl) (by rfl) (by repeat (first | exact Put.nil | apply Put.cons | apply Put.succ)) (.cons rfl (by first | rfl) (by rfl) (by repeat (first | exact Put.nil | apply Put.cons | apply Put.succ)) (.cons rfl (by first | rfl) (by rfl) (by repeat (first | exact Put.nil | apply Put.cons | apply Put.succ)) .nil)))) ?_; clear hf; intro a hf
 refine sA hf hS zr32 ?_
 clear hf hS; intro b_m a w hf hS
 refine sS hf hS sz32 ?_
 clear hf hS; intro a w hf hS
 refine done_l (t_normal (c_seq (c_region ?_)))
 refine fA hf hS fb32_0 ?_; clear hf; intro a hf
 refine sR hf hS (rd_ld hf ag3) ?_; clear hf; intro a hf
 refine step_l (st_call hf (Wn.none rfl) rfl rfl rfl fn59 (Parts_c _ hS) rfl rfl ?_)
 clear hf hS; rintro v a w ⟨rfl, hS⟩ hf; rw [parts_cap (k := ((rNum s).1 : Int)) (by decide)] at hf
 refine aN hf hS ?_; clear hf; intro a hf
 refine done_l (t_normal (c_seq (c_region ?_)))
 refine mN hf hS ?_; clear hf; intro a hf
 refine sR hf hS (rd_neq hf rfl rfl rfl) ?_; clear hf; intro a hf
 refine aN hf hS ?_; clear hf; intro a hf
 refine done_l (t_normal (c_seq (c_seq (c_region ?_))))
 refine mN hf hS ?_; clear hf; intro a hf
 refine sR hf hS (rd_and hf rfl rfl rfl (and_parts ((rNum s).1 : Int) 0 1 (by decide) (by decide))) ?_; clear hf; intro a hf
 refine sR hf hS (rd_neq hf rfl rfl rfl) ?_; clear hf; intro a hf
 refine done_l (t_normal ?_)
 have hj27 := Keep.ofA hf [(28, 30)]
 refine c_joinK (n := 121) hj27 [] (fun w => Sat W (RdP 122 p ((mO s).2) :: Blk b_m [.int .i64 (min (((rNum s).1 : Nat) : Int) 60000), .int .i64 (min (((rNum (m1 s)).1 : Nat) : Int) 60000), .int .i64 (min (((rNum (m2 s)).1 : Nat) : Int) 60000), .int .i64 (mO s).1, .int .i64 0, .string ⟨#[]⟩, .int .i64 0, .slice none 0 0, .slice none 0 0, .slice none 0 0] 32 :: Blk b_r [.int .i64 0, .int .i64 0, .int .i64 0, .int .i64 0, .int .i64 0, .string ⟨#[]⟩, .int .i64 0, .slice none 0 0, .slice none 0 0, .slice none 0 0] 32 :: R) w) ?_ ?_
 ·
  refine c_split hf rfl ?_ ?_
  ·
   intro hc
   have hi : mh 0 s = true := has_t (by decide) hc
   have e : mO s = rInt (m3 s) := opt_yes hi
   refine c_region ?_
   refine mN hf hS ?_; clear hf; intro a hf
   refine step_l (st_call hf (Wn.none rfl) rfl rfl rfl fn78 (RWInt_c _ _ (hS.selA)) rfl rfl ?_)
   clear hf hS; rintro v a w ⟨rfl, hS⟩ hf
   refine fA hf hS fb32_3 ?_; clear hf; intro a hf
   refine sS hf hS sz2 ?_
   clear hf hS; intro a w hf hS
   refine done_l ?_
   refine t_normal ⟨(hf.backA hj27), (by rw [e]; exact hS.subA)⟩
  ·
   intro hc
   have hi : mh 0 s = false := has_f (by decide) hc
   have e : mO s = (0, m3 s) := opt_no hi
   refine c_skip ?_
   refine t_normal ⟨(hf.backA hj27), (by rw [e]; exact hS.subA)⟩
 ·
  clear hf hS; intro a w hf hS; (try dsimp only [List.cons_append, List.nil_append] at hf)
  refine t_normal (c_seq (c_seq (c_region ?_)))
  refine mN hf hS ?_; clear hf; intro a hf
  refine sR hf hS (rd_and hf rfl rfl rfl (and_parts ((rNum s).1 : Int) 1 2 (by decide) (by decide))) ?_; clear hf; intro a hf
  refine sR hf hS (rd_neq hf rfl rfl rfl) ?_; clear hf; intro a hf
  refine done_l (t_normal ?_)
  have hj33 := Keep.ofA hf [(34, 36)]
  refine c_joinK (n := 121) hj33 [] (fun w => Sat W (RdP 122 p ((mR s).2) :: Blk b_m [.int .i64 (min (((rNum s).1 : Nat) : Int) 60000), .int .i64 (min (((rNum (m1 s)).1 : Nat) : Int) 60000), .int .i64 (min (((rNum (m2 s)).1 : Nat) : Int) 60000), .int .i64 (mO s).1, .int .i64 (min (((mR s).1 : Nat) : Int) 60000), .string ⟨#[]⟩, .int .i64 0, .slice none 0 0, .slice none 0 0, .slice none 0 0] 32 :: Blk b_r [.int .i64 0, .int .i64 0, .int .i64 0, .int .i64 0, .int .i64 0, .string ⟨#[]⟩, .int .i64 0, .slice none 0 0, .slice none 0 0, .slice none 0 0] 32 :: R) w) ?_ ?_
  ·
   refine c_split hf rfl ?_ ?_
   ·
    intro hc
    have hi : mh 1 s = true := has_t (by decide) hc
    have e : mR s = rNum ((mO s).2) := opt_yes hi
    refine c_region ?_
    refine mN hf hS ?_; clear hf; intro a hf
    refine step_l (st_call hf (Wn.none rfl) rfl rfl rfl fn77 (RNumber_c _ _ (hS.selA)) rfl rfl ?_)
    clear hf hS; rintro v a w ⟨rfl, hS⟩ hf
    refine fA hf hS fb32_4 ?_; clear hf; intro a hf
    refine sS hf hS sz3 ?_
    clear hf hS; intro a w hf hS
    refine done_l ?_
    refine t_normal ⟨(hf.backA hj33), (by rw [e]; exact hS.subA)⟩
   ·
    intro hc
    have hi : mh 1 s = false := has_f (by decide) hc
    have e : mR s = (0, (mO s).2) := opt_no hi
    have h0 := min00 60000 (by decide)
    refine c_skip ?_
    refine t_normal ⟨(hf.backA hj33), (by rw [e]; dsimp only; rw [h0]; exact hS.subA)⟩
  ·
   clear hf hS; intro a w hf hS; (try dsimp only [List.cons_append, List.nil_append] at hf)
   refine t_normal (c_seq (c_seq (c_region ?_)))
   refine mN hf hS ?_; clear hf; intro a hf
   refine sR hf hS (rd_and hf rfl rfl rfl (and_parts ((rNum s).1 : Int) 2 4 (by decide) (by decide))) ?_; clear hf; intro a hf
   refine sR hf hS (rd_neq hf rfl rfl rfl) ?_; clear hf; intro a hf
   refine done_l (t_normal ?_)
   have hj39 := Keep.ofA hf [(40, 43)]
   refine c_joinK (n := 121) hj39 [] (fun w => Sat W (RdP 122 p ((mY s).2) :: Blk b_m [.int .i64 (min (((rNum s).1 : Nat) : Int) 60000), .int .i64 (min (((rNum (m1 s)).1 : Nat) : Int) 60000), .int .i64 (min (((rNum (m2 s)).1 : Nat) : Int) 60000), .int .i64 (mO s).1, .int .i64 (min (((mR s).1 : Nat) : Int) 60000), .string (str (mY s).1), .int .i64 0, .slice none 0 0, .slice none 0 0, .slice none 0 0] 32 :: Blk b_r [.int .i64 0, .int .i64 0, .int .i64 0, .int .i64 0, .int .i64 0, .string ⟨#[]⟩, .int .i64 0, .slice none 0 0, .slice none 0 0, .slice none 0 0] 32 :: R) w) ?_ ?_
   ·
    refine c_split hf rfl ?_ ?_
    ·
     intro hc
     have hi : mh 2 s = true := has_t (by decide) hc
     have e : mY s = rText 32 ((mR s).2) := opt_yes hi
     refine c_region ?_
     refine mN hf hS ?_; clear hf; intro a hf
     refine step_l (st_call hf (Wn.none rfl) rfl rfl rfl fn79 (RWText_c _ _ _ (hS.selA) ⟨by decide, by decide⟩ (Nat.le_trans (rest_mR s) hb)) rfl rfl ?_)
     clear hf hS; rintro v a w ⟨qt, capt, rfl, hS⟩ hf
     refine sR hf hS (rd_str hf rfl rfl Tryz.underlying34 Tryz.underlying9 Tryz.underlying5 (by intro _ h; first | exact h.slOfRw (by repeat (first | exact Sel.head | apply Sel.tail)) | exact h.slOfBlkPre (by repeat (first | exact Sel.head | apply Sel.tail)) (bvs_len1 _))) ?_; clear hf; intro a hf
     refine fA hf hS fb32_5 ?_; clear hf; intro a hf
     refine sS hf hS sz9 ?_
     clear hf hS; intro a w hf hS
     refine done_l ?_
     refine t_normal ⟨(hf.backA hj39), (by rw [e]; exact hS.subA)⟩
    ·
     intro hc
     have hi : mh 2 s = false := has_f (by decide) hc
     have e : mY s = ([], (mR s).2) := opt_no hi
     refine c_skip ?_
     refine t_normal ⟨(hf.backA hj39), (by rw [e]; exact hS.subA)⟩
   ·
    clear hf hS; intro a w hf hS; (try dsimp only [List.cons_append, List.nil_append] at hf)
    refine t_normal (c_seq (c_seq (c_region ?_)))
    refine mN hf hS ?_; clear hf; intro a hf
    refine sR hf hS (rd_and hf rfl rfl rfl (and_parts ((rNum s).1 : Int) 3 8 (by decide) (by decide))) ?_; clear hf; intro a hf
    refine sR hf hS (rd_neq hf rfl rfl rfl) ?_; clear hf; intro a hf
    refine done_l (t_normal ?_)
    have hj46 := Keep.ofA hf [(47, 49)]
    refine c_joinK (n := 121) hj46 [] (fun w => Sat W (RdP 122 p ((mB s).2) :: Blk b_m [.int .i64 (min (((rNum s).1 : Nat) : Int) 60000), .int .i64 (min (((rNum (m1 s)).1 : Nat) : Int) 60000), .int .i64 (min (((rNum (m2 s)).1 : Nat) : Int) 60000), .int .i64 (mO s).1, .int .i64 (min (((mR s).1 : Nat) : Int) 60000), .string (str (mY s).1), .int .i64 (min (((mB s).1 : Nat) : Int) 60000), .slice none 0 0, .slice none 0 0, .slice none 0 0] 32 :: Blk b_r [.int .i64 0, .int .i64 0, .int .i64 0, .int .i64 0, .int .i64 0, .string ⟨#[]⟩, .int .i64 0, .slice none 0 0, .slice none 0 0, .slice none 0 0] 32 :: R) w) ?_ ?_
    ·
     refine c_split hf rfl ?_ ?_
     ·
      intro hc
      have hi : mh 3 s = true := has_t (by decide) hc
      have e : mB s = rNum ((mY s).2) := opt_yes hi
      refine c_region ?_
      refine mN hf hS ?_; clear hf; intro a hf
      refine step_l (st_call hf (Wn.none rfl) rfl rfl rfl fn77 (RNumber_c _ _ (hS.selA)) rfl rfl ?_)
      clear hf hS; rintro v a w ⟨rfl, hS⟩ hf
      refine fA hf hS fb32_6 ?_; clear hf; intro a hf
      refine sS hf hS sz3 ?_
      clear hf hS; intro a w hf hS
      refine done_l ?_
      refine t_normal ⟨(hf.backA hj46), (by rw [e]; exact hS.subA)⟩
     ·
      intro hc
      have hi : mh 3 s = false := has_f (by decide) hc
      have e : mB s = (0, (mY s).2) := opt_no hi
      have h0 := min00 60000 (by decide)
      refine c_skip ?_
      refine t_normal ⟨(hf.backA hj46), (by rw [e]; dsimp only; rw [h0]; exact hS.subA)⟩
    ·
     clear hf hS; intro a w hf hS; (try dsimp only [List.cons_append, List.nil_append] at hf)
     refine t_normal (c_seq (c_seq (c_region ?_)))
     refine mN hf hS ?_; clear hf; intro a hf
     refine sR hf hS (rd_and hf rfl rfl rfl (and_parts ((rNum s).1 : Int) 4 16 (by decide) (by decide))) ?_; clear hf; intro a hf
     refine sR hf hS (rd_neq hf rfl rfl rfl) ?_; clear hf; intro a hf
     refine done_l (t_normal ?_)
     have hj52 := Keep.ofA hf [(6, 8), (53, 72)]
     replace hf := ((hf.keep hj52).kb hf 6 rfl rfl)
     refine c_joinX (n := 121) (α := Option Addr × Nat × List EntT) hj52 (fun ⟨q1, c1, L1⟩ => [(6, .bool (decide (¬ partsI ((rNum s).1 : Int) = 0) && allOk (mE s).1))]) (fun ⟨q1, c1, L1⟩ w => Sat W (RdP 122 p ((mE s).2) :: Blk b_m [.int .i64 (min (((rNum s).1 : Nat) : Int) 60000), .int .i64 (min (((rNum (m1 s)).1 : Nat) : Int) 60000), .int .i64 (min (((rNum (m2 s)).1 : Nat) : Int) 60000), .int .i64 (mO s).1, .int .i64 (min (((mR s).1 : Nat) : Int) 60000), .string (str (mY s).1), .int .i64 (min (((mB s).1 : Nat) : Int) 60000), .slice q1 L1.length c1, .slice none 0 0, .slice none 0 0] 32 :: Rw 58 10 q1 L1.length c1 (L1.flatMap entC) :: AllG (fun e : EntT => ValR 107 5 e.2.1.2.1) L1 :: Blk b_r [.int .i64 0, .int .i64 0, .int .i64 0, .int .i64 0, .int .i64 0, .string ⟨#[]⟩, .int .i64 0, .slice none 0 0, .slice none 0 0, .slice none 0 0] 32 :: R) w ∧ L1.map pEnt = fstOk (mE s).1 ∧ okL L1 ∧ L1.length ≤ 256) ?_ ?_
     ·
      refine c_split hf rfl ?_ ?_
      ·
       intro hc
       have hi : mh 4 s = true := has_t (by decide) hc
       have e : mE s = manyC 256 rEnt (mB s).2 := opt_yes hi
       have hn := rCount_most 256 (mB s).2
       refine c_seq (c_region ?_)
       refine mN hf hS ?_; clear hf; intro a hf
       refine step_l (st_call hf (Wn.none rfl) rfl rfl rfl fn80 (RWCount_c _ _ _ (hS.selA) ⟨by decide, by decide⟩) rfl rfl ?_)
       clear hf hS; rintro v a w ⟨rfl, hS⟩ hf
       refine mN hf hS ?_; clear hf; intro a hf
       refine done_l (t_normal (c_block ?_))
       have hk0 := Keep.ofA hf [(6, 8), (55, 72)]
       refine c_loopK hk0 (α := Nat × Option Addr × Nat × List EntT) (fun ⟨k, q1, c1, L1⟩ => [(6, .bool (decide (¬ partsI ((rNum s).1 : Int) = 0) && allOk (rMany rEnt k (rCount 256 (mB s).2).2).1)), (55, .int .i64 (k : Nat))]) (fun ⟨k, q1, c1, L1⟩ w => Sat W (RdP 122 p ((rMany rEnt k (rCount 256 (mB s).2).2).2) :: Blk b_m [.int .i64 (min (((rNum s).1 : Nat) : Int) 60000), .int .i64 (min (((rNum (m1 s)).1 : Nat) : Int) 60000), .int .i64 (min (((rNum (m2 s)).1 : Nat) : Int) 60000), .int .i64 (mO s).1, .int .i64 (min (((mR s).1 : Nat) : Int) 60000), .string (str (mY s).1), .int .i64 (min (((mB s).1 : Nat) : Int) 60000), .slice q1 L1.length c1, .slice none 0 0, .slice none 0 0] 32 :: Rw 58 10 q1 L1.length c1 (L1.flatMap entC) :: AllG (fun e : EntT => ValR 107 5 e.2.1.2.1) L1 :: Blk b_r [.int .i64 0, .int .i64 0, .int .i64 0, .int .i64 0, .int .i64 0, .string ⟨#[]⟩, .int .i64 0, .slice none 0 0, .slice none 0 0, .slice none 0 0] 32 :: R) w ∧ k ≤ (rCount 256 (mB s).2).1 ∧ L1.length = k ∧ L1.map pEnt = fstOk (rMany rEnt k (rCount 256 (mB s).2).2).1 ∧ okL L1) (fun ⟨k, q1, c1, L1⟩ => (rCount 256 (mB s).2).1 - k) (0, none, 0, []) (((hf.keep hk0).kb hf 55 rfl (by first | rfl | exact int_eq (by omega))).kb hf 6 rfl (by exact congrArg Value.bool (Bool.and_true _).symm)) ⟨((hS.allNil (fun e : EntT => ValR 107 5 e.2.1.2.1)).rwNil 58 10).subA, ⟨by omega, rfl, rfl, fun e he => by cases he⟩⟩ ?_
       clear hf hS; rintro ⟨k, q1, c1, L1⟩ a w hf ⟨hS, ⟨hk, hlk, hok, hokl⟩⟩; (try dsimp only [List.cons_append, List.nil_append] at hf)
       refine c_seq (c_region ?_)
       refine sB hf hS (rd_lss hf rfl rfl rfl) ?_ ?_
       ·
        clear hf; intro hc3 a hf
        refine done_l (t_normal (c_seq ?_))
        refine c_true hf rfl ?_
        refine c_skip (t_normal (c_seq (c_block (c_seq (c_region ?_)))))
        refine mN hf hS ?_; clear hf; intro a hf
        refine step_l (st_call hf (Wn.none rfl) rfl rfl rfl fn81 (EntRd_c _ _ (hS.selA) (inv_k inv_rEnt k (inv_mB hI)) (Nat.le_trans (rest_k ent_rest k (mB s).2) (Nat.le_trans (rest_mB s) hb))) rfl rfl ?_)
        clear hf hS; rintro v a w ⟨ky, s0, s1, s2, s3, s4, s5, s6, s7, qs, cs, Ls, rfl, hEV, hLs, hS⟩ hf
        refine mN hf hS ?_; clear hf; intro a hf
        refine sR hf hS (rd_extract hf rfl rfl rfl) ?_; clear hf; intro a hf
        refine sR hf hS (rd_extract hf rfl rfl rfl) ?_; clear hf; intro a hf
        refine sA hf hS zr58 ?_
        clear hf hS; intro b_e a w hf hS
        refine sS hf hS sz58 ?_
        clear hf hS; intro a w hf hS
        refine aN hf hS ?_; clear hf; intro a hf
        refine done_l (t_normal (c_seq ?_))
        have hq16 := Keep.ofA hf [(6, 6), (62, 65)]
        replace hf := ((hf.keep hq16).kb hf 6 rfl rfl)
        refine c_joinK (n := 121) hq16 [(6, .bool (decide (¬ partsI ((rNum s).1 : Int) = 0) && allOk (rMany rEnt (k + 1) (rCount 256 (mB s).2).2).1))] (fun w => Sat W (RdP 122 p ((rEnt (rMany rEnt k (rCount 256 (mB s).2).2).2).2) :: Blk b_m [.int .i64 (min (((rNum s).1 : Nat) : Int) 60000), .int .i64 (min (((rNum (m1 s)).1 : Nat) : Int) 60000), .int .i64 (min (((rNum (m2 s)).1 : Nat) : Int) 60000), .int .i64 (mO s).1, .int .i64 (min (((mR s).1 : Nat) : Int) 60000), .string (str (mY s).1), .int .i64 (min (((mB s).1 : Nat) : Int) 60000), .slice q1 L1.length c1, .slice none 0 0, .slice none 0 0] 32 :: Blk b_e [.string (str ky), .int .i64 s0, .int .i64 s1, .int .i64 s2, .int .i64 s3, .int .i64 s4, .int .i64 s5, .int .i64 s6, .int .i64 s7, .slice qs Ls.length cs] 58 :: ValR 107 5 (qs, cs, Ls) :: Rw 58 10 q1 L1.length c1 (L1.flatMap entC) :: AllG (fun e : EntT => ValR 107 5 e.2.1.2.1) L1 :: Blk b_r [.int .i64 0, .int .i64 0, .int .i64 0, .int .i64 0, .int .i64 0, .string ⟨#[]⟩, .int .i64 0, .slice none 0 0, .slice none 0 0, .slice none 0 0] 32 :: R) w) ?_ ?_
        ·
         skip
         refine c_region ?_
         refine mN hf hS ?_; clear hf; intro a hf
         refine step_l (st_rdb hf (Wn.none rfl) (rd_move hf rfl rfl) hS rfl rfl ?_ ?_)
         ·
          clear hf; intro hc5 a hf
          have hAO := hc5
          iterate 3 ((first | refine step_l (st_rd hf (Wn.some hf rfl rfl rfl rfl) (rd_move hf rfl rfl) hS rfl rfl ?_) | refine aN hf hS ?_ | refine pT hf hS ?_); clear hf; intro a hf)
          refine done_l ?_
          refine t_normal ⟨((hf.backA hq16).kb hf 6 rfl (by exact congrArg Value.bool (by first | exact ok_snoc1 hAO | exact ok_snoc2 hAO))), hS.subA⟩
         clear hf; intro hc5 a hf
         have hAO := hc5
         iterate 3 ((first | refine kS hf ?_ | refine aN hf hS ?_ | refine pF hf hS ?_); clear hf; intro a hf)
         refine done_l ?_
         refine t_normal ⟨((hf.backA hq16).kb hf 6 rfl (by exact congrArg Value.bool (by first | exact ok_snoc1 hAO | exact ok_snoc2 hAO))), hS.subA⟩
        ·
         clear hf hS; intro a w hf hS; (try dsimp only [List.cons_append, List.nil_append] at hf)
         refine t_normal (c_region ?_)
         refine fA hf hS fb32_7 ?_; clear hf; intro a hf
         refine sR hf hS (rd_ld hf ag28) ?_; clear hf; intro a hf
         refine sR hf hS (rd_ldN hf ag58 sz58) ?_; clear hf; intro a hf
         refine step_l (st_buildSlice hf (Wn.none rfl) hS rfl rfl Tryz.underlying28 sz58 zr58 (by decide) bz58_1 rfl (.cons rfl (by first | rfl) (by rfl) (by repeat (first | exact Put.nil | apply Put.cons | apply Put.succ)) .nil) rfl rfl ?_)
         clear hf hS; intro b_6 a w hf hS
         refine step_l (st_append hf (Wn.none rfl) rfl rfl rfl Tryz.underlying28 tyb58 (by rfl) (by decide) hS (by repeat (first | exact Sel.head | apply Sel.tail)) (by first | exact hS.slOfBlk (by repeat (first | exact Sel.head | apply Sel.tail)) (by rfl) | exact hS.slOfBlkPre (by repeat (first | exact Sel.head | apply Sel.tail)) (bvs_len1 _) | exact hS.slOfRw (by repeat (first | exact Sel.head | apply Sel.tail)) | exact SlAt.nil _ _ _) (by first | rfl | exact bvs_one _ | (simp [Value.oneCell']; done)) (by omega) rfl rfl ?_)
         clear hf hS; intro pA capA a w hf hS hnilA
         refine fA hf hS fb32_7 ?_; clear hf; intro a hf
         refine sS hf hS sz28 ?_
         clear hf hS; intro a w hf hS
         refine done_l (b_normal (t_normal (c_region ?_)))
         refine sP hf hS ?_; clear hf; intro a hf
         refine mN hf hS ?_; clear hf; intro a hf
         refine done_l ?_
         have h1 : Sat W (AllG (fun e : EntT => ValR 107 5 e.2.1.2.1) L1 :: (fun e : EntT => ValR 107 5 e.2.1.2.1) (ky, ([s0, s1, s2, s3, s4, s5, s6, s7], (qs, cs, Ls), ()), ()) :: Rw 58 10 pA (L1.length + 1) capA (L1.flatMap entC ++ [.string (str ky), .int .i64 s0, .int .i64 s1, .int .i64 s2, .int .i64 s3, .int .i64 s4, .int .i64 s5, .int .i64 s6, .int .i64 s7, .slice qs Ls.length cs]) :: RdP 122 p ((rEnt (rMany rEnt k (rCount 256 (mB s).2).2).2).2) :: Blk b_m [.int .i64 (min (((rNum s).1 : Nat) : Int) 60000), .int .i64 (min (((rNum (m1 s)).1 : Nat) : Int) 60000), .int .i64 (min (((rNum (m2 s)).1 : Nat) : Int) 60000), .int .i64 (mO s).1, .int .i64 (min (((mR s).1 : Nat) : Int) 60000), .string (str (mY s).1), .int .i64 (min (((mB s).1 : Nat) : Int) 60000), .slice pA (L1.length + 1) capA, .slice none 0 0, .slice none 0 0] 32 :: Blk b_r [.int .i64 0, .int .i64 0, .int .i64 0, .int .i64 0, .int .i64 0, .string ⟨#[]⟩, .int .i64 0, .slice none 0 0, .slice none 0 0, .slice none 0 0] 32 :: R) w := hS.subA; replace h1 := h1.allSnoc; have h2 : Sat W (Rw 58 10 pA (L1.length + 1) capA (L1.flatMap entC ++ [.string (str ky), .int .i64 s0, .int .i64 s1, .int .i64 s2, .int .i64 s3, .int .i64 s4, .int .i64 s5, .int .i64 s6, .int .i64 s7, .slice qs Ls.length cs]) :: AllG (fun e : EntT => ValR 107 5 e.2.1.2.1) (L1 ++ [(ky, ([s0, s1, s2, s3, s4, s5, s6, s7], (qs, cs, Ls), ()), ())]) :: RdP 122 p ((rEnt (rMany rEnt k (rCount 256 (mB s).2).2).2).2) :: Blk b_m [.int .i64 (min (((rNum s).1 : Nat) : Int) 60000), .int .i64 (min (((rNum (m1 s)).1 : Nat) : Int) 60000), .int .i64 (min (((rNum (m2 s)).1 : Nat) : Int) 60000), .int .i64 (mO s).1, .int .i64 (min (((mR s).1 : Nat) : Int) 60000), .string (str (mY s).1), .int .i64 (min (((mB s).1 : Nat) : Int) 60000), .slice pA (L1.length + 1) capA, .slice none 0 0, .slice none 0 0] 32 :: Blk b_r [.int .i64 0, .int .i64 0, .int .i64 0, .int .i64 0, .int .i64 0, .string ⟨#[]⟩, .int .i64 0, .slice none 0 0, .slice none 0 0, .slice none 0 0] 32 :: R) w := h1.subA; replace h2 := h2.rwCast (xs' := (L1 ++ [(ky, ([s0, s1, s2, s3, s4, s5, s6, s7], (qs, cs, Ls), ()), ())]).flatMap entC) (by simp [entC, sibC, i64s, slv]) rfl
         refine t_normal ⟨(k + 1, pA, capA, L1 ++ [(ky, ([s0, s1, s2, s3, s4, s5, s6, s7], (qs, cs, Ls), ()), ())]), (((hf.backA hk0).kb hf 55 rfl (by first | rfl | exact int_eq (by omega))).kb hf 6 rfl (by rfl)), ⟨(by rw [List.length_append]; exact h2.subA), ⟨by omega, by simp [hlk], fst_snoc hok hEV, okL.snoc (x := (ky, ([s0, s1, s2, s3, s4, s5, s6, s7], (qs, cs, Ls), ()), ())) hokl ⟨rfl, (by have := hLs.1; show Ls.length ≤ 1000; omega), fun v hv => (by have := hLs.2 v hv; omega)⟩⟩⟩, by first | omega | (simp only []; omega)⟩
       clear hf; intro hc3 a hf
       obtain rfl : k = (rCount 256 (mB s).2).1 := by omega
       refine done_l (t_normal (c_seq ?_))
       refine c_false hf rfl ?_
       refine c_exit (t_exit (t_exit (b_exit ?_)))
       refine t_normal ⟨(q1, c1, L1), ((hf.backA hj52).kb hf 6 rfl (by rw [e]; rfl)), ⟨(by rw [e]; exact hS.subA), ⟨by rw [e]; exact hok, hokl, by omega⟩⟩⟩
      ·
       intro hc
       have hi : mh 4 s = false := has_f (by decide) hc
       have e : mE s = ([], (mB s).2) := opt_no hi
       refine c_skip ?_
       refine t_normal ⟨(none, 0, []), ((hf.backA hj52).kb hf 6 rfl (by rw [e]; exact congrArg Value.bool (Bool.and_true _).symm)), ⟨(by rw [e]; exact ((hS.allNil (fun e : EntT => ValR 107 5 e.2.1.2.1)).rwNil 58 10).subA), ⟨by rw [e]; rfl, (fun e he => by cases he), by decide⟩⟩⟩
     ·
      clear hf hS; rintro ⟨q1, c1, L1⟩; intro a w hf hS; (try dsimp only [List.cons_append, List.nil_append] at hf)
      obtain ⟨hS, ⟨hE1, hE2, hE3⟩⟩ := hS
      refine t_normal (c_seq (c_seq (c_region ?_)))
      refine mN hf hS ?_; clear hf; intro a hf
      refine sR hf hS (rd_and hf rfl rfl rfl (and_parts ((rNum s).1 : Int) 5 32 (by decide) (by decide))) ?_; clear hf; intro a hf
      refine sR hf hS (rd_neq hf rfl rfl rfl) ?_; clear hf; intro a hf
      refine done_l (t_normal ?_)
      have hj75 := Keep.ofA hf [(6, 6), (9, 10), (76, 95)]
      replace hf := ((hf.keep hj75).kb hf 6 rfl rfl)
      refine c_joinX (n := 121) (α := Option Addr × Nat × List DigT) hj75 (fun ⟨q2, c2, L2⟩ => [(6, .bool ((decide (¬ partsI ((rNum s).1 : Int) = 0) && allOk (mE s).1) && allOk (mD s).1))]) (fun ⟨q2, c2, L2⟩ w => Sat W (RdP 122 p ((mD s).2) :: Blk b_m [.int .i64 (min (((rNum s).1 : Nat) : Int) 60000), .int .i64 (min (((rNum (m1 s)).1 : Nat) : Int) 60000), .int .i64 (min (((rNum (m2 s)).1 : Nat) : Int) 60000), .int .i64 (mO s).1, .int .i64 (min (((mR s).1 : Nat) : Int) 60000), .string (str (mY s).1), .int .i64 (min (((mB s).1 : Nat) : Int) 60000), .slice q1 L1.length c1, .slice q2 L2.length c2, .slice none 0 0] 32 :: Rw 61 10 q2 L2.length c2 (L2.flatMap digC) :: AllG (fun d : DigT => Rw 87 2 d.2.2.1.1 d.2.2.1.2.2.length d.2.2.1.2.1 (d.2.2.1.2.2.flatMap dotC)) L2 :: Rw 58 10 q1 L1.length c1 (L1.flatMap entC) :: AllG (fun e : EntT => ValR 107 5 e.2.1.2.1) L1 :: Blk b_r [.int .i64 0, .int .i64 0, .int .i64 0, .int .i64 0, .int .i64 0, .string ⟨#[]⟩, .int .i64 0, .slice none 0 0, .slice none 0 0, .slice none 0 0] 32 :: R) w ∧ L2.map pDig = fstOk (mD s).1 ∧ okG2 L2 ∧ L2.length ≤ 256) ?_ ?_
      ·
       refine c_split hf rfl ?_ ?_
       ·
        intro hc
        have hi : mh 5 s = true := has_t (by decide) hc
        have e : mD s = manyC 256 rDig (mE s).2 := opt_yes hi
        have hn := rCount_most 256 (mE s).2
        refine c_seq (c_region ?_)
        refine mN hf hS ?_; clear hf; intro a hf
        refine step_l (st_call hf (Wn.none rfl) rfl rfl rfl fn80 (RWCount_c _ _ _ (hS.selA) ⟨by decide, by decide⟩) rfl rfl ?_)
        clear hf hS; rintro v a w ⟨rfl, hS⟩ hf
        refine mN hf hS ?_; clear hf; intro a hf
        refine done_l (t_normal (c_block ?_))
        have hk1 := Keep.ofA hf [(6, 6), (9, 10), (78, 95)]
        refine c_loopK hk1 (α := Nat × Option Addr × Nat × List DigT) (fun ⟨k, q2, c2, L2⟩ => [(6, .bool ((decide (¬ partsI ((rNum s).1 : Int) = 0) && allOk (mE s).1) && allOk (rMany rDig k (rCount 256 (mE s).2).2).1)), (78, .int .i64 (k : Nat))]) (fun ⟨k, q2, c2, L2⟩ w => Sat W (RdP 122 p ((rMany rDig k (rCount 256 (mE s).2).2).2) :: Blk b_m [.int .i64 (min (((rNum s).1 : Nat) : Int) 60000), .int .i64 (min (((rNum (m1 s)).1 : Nat) : Int) 60000), .int .i64 (min (((rNum (m2 s)).1 : Nat) : Int) 60000), .int .i64 (mO s).1, .int .i64 (min (((mR s).1 : Nat) : Int) 60000), .string (str (mY s).1), .int .i64 (min (((mB s).1 : Nat) : Int) 60000), .slice q1 L1.length c1, .slice q2 L2.length c2, .slice none 0 0] 32 :: Rw 61 10 q2 L2.length c2 (L2.flatMap digC) :: AllG (fun d : DigT => Rw 87 2 d.2.2.1.1 d.2.2.1.2.2.length d.2.2.1.2.1 (d.2.2.1.2.2.flatMap dotC)) L2 :: Rw 58 10 q1 L1.length c1 (L1.flatMap entC) :: AllG (fun e : EntT => ValR 107 5 e.2.1.2.1) L1 :: Blk b_r [.int .i64 0, .int .i64 0, .int .i64 0, .int .i64 0, .int .i64 0, .string ⟨#[]⟩, .int .i64 0, .slice none 0 0, .slice none 0 0, .slice none 0 0] 32 :: R) w ∧ k ≤ (rCount 256 (mE s).2).1 ∧ L2.length = k ∧ L2.map pDig = fstOk (rMany rDig k (rCount 256 (mE s).2).2).1 ∧ okG2 L2) (fun ⟨k, q2, c2, L2⟩ => (rCount 256 (mE s).2).1 - k) (0, none, 0, []) (((hf.keep hk1).kb hf 78 rfl (by first | rfl | exact int_eq (by omega))).kb hf 6 rfl (by exact congrArg Value.bool (Bool.and_true _).symm)) ⟨((hS.allNil (fun d : DigT => Rw 87 2 d.2.2.1.1 d.2.2.1.2.2.length d.2.2.1.2.1 (d.2.2.1.2.2.flatMap dotC))).rwNil 61 10).subA, ⟨by omega, rfl, rfl, fun e he => by cases he⟩⟩ ?_
        clear hf hS; rintro ⟨k, q2, c2, L2⟩ a w hf ⟨hS, ⟨hk, hlk, hok, hokl⟩⟩; (try dsimp only [List.cons_append, List.nil_append] at hf)
        refine c_seq (c_region ?_)
        refine sB hf hS (rd_lss hf rfl rfl rfl) ?_ ?_
        ·
         clear hf; intro hc8 a hf
         refine done_l (t_normal (c_seq ?_))
         refine c_true hf rfl ?_
         refine c_skip (t_normal (c_seq (c_block (c_seq (c_region ?_)))))
         refine mN hf hS ?_; clear hf; intro a hf
         refine step_l (st_call hf (Wn.none rfl) rfl rfl rfl fn82 (DigRd_c _ _ (hS.selA) (inv_k inv_rDig k (inv_mE hI)) (Nat.le_trans (rest_k rest_rDig k (mE s).2) (Nat.le_trans (rest_mE s) hb))) rfl rfl ?_)
         clear hf hS; rintro v a w ⟨ky, s0, s1, s2, s3, s4, s5, s6, s7, qs, cs, Ls, rfl, hEV, hLs, hS⟩ hf
         refine mN hf hS ?_; clear hf; intro a hf
         refine sR hf hS (rd_extract hf rfl rfl rfl) ?_; clear hf; intro a hf
         refine sR hf hS (rd_extract hf rfl rfl rfl) ?_; clear hf; intro a hf
         refine sA hf hS zr61 ?_
         clear hf hS; intro b_d a w hf hS
         refine sS hf hS sz61 ?_
         clear hf hS; intro a w hf hS
         refine aN hf hS ?_; clear hf; intro a hf
         refine done_l (t_normal (c_seq ?_))
         have hq23 := Keep.ofA hf [(6, 6), (85, 88)]
         replace hf := ((hf.keep hq23).kb hf 6 rfl rfl)
         refine c_joinK (n := 121) hq23 [(6, .bool ((decide (¬ partsI ((rNum s).1 : Int) = 0) && allOk (mE s).1) && allOk (rMany rDig (k + 1) (rCount 256 (mE s).2).2).1))] (fun w => Sat W (RdP 122 p ((rDig (rMany rDig k (rCount 256 (mE s).2).2).2).2) :: Blk b_m [.int .i64 (min (((rNum s).1 : Nat) : Int) 60000), .int .i64 (min (((rNum (m1 s)).1 : Nat) : Int) 60000), .int .i64 (min (((rNum (m2 s)).1 : Nat) : Int) 60000), .int .i64 (mO s).1, .int .i64 (min (((mR s).1 : Nat) : Int) 60000), .string (str (mY s).1), .int .i64 (min (((mB s).1 : Nat) : Int) 60000), .slice q1 L1.length c1, .slice q2 L2.length c2, .slice none 0 0] 32 :: Blk b_d [.string (str ky), .int .i64 s0, .int .i64 s1, .int .i64 s2, .int .i64 s3, .int .i64 s4, .int .i64 s5, .int .i64 s6, .int .i64 s7, .slice qs Ls.length cs] 61 :: Rw 87 2 qs Ls.length cs (Ls.flatMap dotC) :: Rw 61 10 q2 L2.length c2 (L2.flatMap digC) :: AllG (fun d : DigT => Rw 87 2 d.2.2.1.1 d.2.2.1.2.2.length d.2.2.1.2.1 (d.2.2.1.2.2.flatMap dotC)) L2 :: Rw 58 10 q1 L1.length c1 (L1.flatMap entC) :: AllG (fun e : EntT => ValR 107 5 e.2.1.2.1) L1 :: Blk b_r [.int .i64 0, .int .i64 0, .int .i64 0, .int .i64 0, .int .i64 0, .string ⟨#[]⟩, .int .i64 0, .slice none 0 0, .slice none 0 0, .slice none 0 0] 32 :: R) w) ?_ ?_
         ·
          skip
          refine c_region ?_
          refine mN hf hS ?_; clear hf; intro a hf
          refine step_l (st_rdb hf (Wn.none rfl) (rd_move hf rfl rfl) hS rfl rfl ?_ ?_)
          ·
           clear hf; intro hc10 a hf
           have hAO := hc10
           iterate 3 ((first | refine step_l (st_rd hf (Wn.some hf rfl rfl rfl rfl) (rd_move hf rfl rfl) hS rfl rfl ?_) | refine aN hf hS ?_ | refine pT hf hS ?_); clear hf; intro a hf)
           refine done_l ?_
           refine t_normal ⟨((hf.backA hq23).kb hf 6 rfl (by exact congrArg Value.bool (by first | exact ok_snoc1 hAO | exact ok_snoc2 hAO))), hS.subA⟩
          clear hf; intro hc10 a hf
          have hAO := hc10
          iterate 3 ((first | refine kS hf ?_ | refine aN hf hS ?_ | refine pF hf hS ?_); clear hf; intro a hf)
          refine done_l ?_
          refine t_normal ⟨((hf.backA hq23).kb hf 6 rfl (by exact congrArg Value.bool (by first | exact ok_snoc1 hAO | exact ok_snoc2 hAO))), hS.subA⟩
         ·
          clear hf hS; intro a w hf hS; (try dsimp only [List.cons_append, List.nil_append] at hf)
          refine t_normal (c_region ?_)
          refine fA hf hS fb32_8 ?_; clear hf; intro a hf
          refine sR hf hS (rd_ld hf ag29) ?_; clear hf; intro a hf
          refine sR hf hS (rd_ldN hf ag61 sz61) ?_; clear hf; intro a hf
          refine step_l (st_buildSlice hf (Wn.none rfl) hS rfl rfl Tryz.underlying29 sz61 zr61 (by decide) bz61_1 rfl (.cons rfl (by first | rfl) (by rfl) (by repeat (first | exact Put.nil | apply Put.cons | apply Put.succ)) .nil) rfl rfl ?_)
          clear hf hS; intro b_11 a w hf hS
          refine step_l (st_append hf (Wn.none rfl) rfl rfl rfl Tryz.underlying29 tyb61 (by rfl) (by decide) hS (by repeat (first | exact Sel.head | apply Sel.tail)) (by first | exact hS.slOfBlk (by repeat (first | exact Sel.head | apply Sel.tail)) (by rfl) | exact hS.slOfBlkPre (by repeat (first | exact Sel.head | apply Sel.tail)) (bvs_len1 _) | exact hS.slOfRw (by repeat (first | exact Sel.head | apply Sel.tail)) | exact SlAt.nil _ _ _) (by first | rfl | exact bvs_one _ | (simp [Value.oneCell']; done)) (by omega) rfl rfl ?_)
          clear hf hS; intro pA capA a w hf hS hnilA
          refine fA hf hS fb32_8 ?_; clear hf; intro a hf
          refine sS hf hS sz29 ?_
          clear hf hS; intro a w hf hS
          refine done_l (b_normal (t_normal (c_region ?_)))
          refine sP hf hS ?_; clear hf; intro a hf
          refine mN hf hS ?_; clear hf; intro a hf
          refine done_l ?_
          have h1 : Sat W (AllG (fun d : DigT => Rw 87 2 d.2.2.1.1 d.2.2.1.2.2.length d.2.2.1.2.1 (d.2.2.1.2.2.flatMap dotC)) L2 :: (fun d : DigT => Rw 87 2 d.2.2.1.1 d.2.2.1.2.2.length d.2.2.1.2.1 (d.2.2.1.2.2.flatMap dotC)) (ky, [s0, s1, s2, s3, s4, s5, s6, s7], (qs, cs, Ls), ()) :: Rw 61 10 pA (L2.length + 1) capA (L2.flatMap digC ++ [.string (str ky), .int .i64 s0, .int .i64 s1, .int .i64 s2, .int .i64 s3, .int .i64 s4, .int .i64 s5, .int .i64 s6, .int .i64 s7, .slice qs Ls.length cs]) :: RdP 122 p ((rDig (rMany rDig k (rCount 256 (mE s).2).2).2).2) :: Blk b_m [.int .i64 (min (((rNum s).1 : Nat) : Int) 60000), .int .i64 (min (((rNum (m1 s)).1 : Nat) : Int) 60000), .int .i64 (min (((rNum (m2 s)).1 : Nat) : Int) 60000), .int .i64 (mO s).1, .int .i64 (min (((mR s).1 : Nat) : Int) 60000), .string (str (mY s).1), .int .i64 (min (((mB s).1 : Nat) : Int) 60000), .slice q1 L1.length c1, .slice pA (L2.length + 1) capA, .slice none 0 0] 32 :: Rw 58 10 q1 L1.length c1 (L1.flatMap entC) :: AllG (fun e : EntT => ValR 107 5 e.2.1.2.1) L1 :: Blk b_r [.int .i64 0, .int .i64 0, .int .i64 0, .int .i64 0, .int .i64 0, .string ⟨#[]⟩, .int .i64 0, .slice none 0 0, .slice none 0 0, .slice none 0 0] 32 :: R) w := hS.subA; replace h1 := h1.allSnoc; have h2 : Sat W (Rw 61 10 pA (L2.length + 1) capA (L2.flatMap digC ++ [.string (str ky), .int .i64 s0, .int .i64 s1, .int .i64 s2, .int .i64 s3, .int .i64 s4, .int .i64 s5, .int .i64 s6, .int .i64 s7, .slice qs Ls.length cs]) :: AllG (fun d : DigT => Rw 87 2 d.2.2.1.1 d.2.2.1.2.2.length d.2.2.1.2.1 (d.2.2.1.2.2.flatMap dotC)) (L2 ++ [(ky, [s0, s1, s2, s3, s4, s5, s6, s7], (qs, cs, Ls), ())]) :: RdP 122 p ((rDig (rMany rDig k (rCount 256 (mE s).2).2).2).2) :: Blk b_m [.int .i64 (min (((rNum s).1 : Nat) : Int) 60000), .int .i64 (min (((rNum (m1 s)).1 : Nat) : Int) 60000), .int .i64 (min (((rNum (m2 s)).1 : Nat) : Int) 60000), .int .i64 (mO s).1, .int .i64 (min (((mR s).1 : Nat) : Int) 60000), .string (str (mY s).1), .int .i64 (min (((mB s).1 : Nat) : Int) 60000), .slice q1 L1.length c1, .slice pA (L2.length + 1) capA, .slice none 0 0] 32 :: Rw 58 10 q1 L1.length c1 (L1.flatMap entC) :: AllG (fun e : EntT => ValR 107 5 e.2.1.2.1) L1 :: Blk b_r [.int .i64 0, .int .i64 0, .int .i64 0, .int .i64 0, .int .i64 0, .string ⟨#[]⟩, .int .i64 0, .slice none 0 0, .slice none 0 0, .slice none 0 0] 32 :: R) w := h1.subA; replace h2 := h2.rwCast (xs' := (L2 ++ [(ky, [s0, s1, s2, s3, s4, s5, s6, s7], (qs, cs, Ls), ())]).flatMap digC) (by simp [digC, i64s, slv]) rfl
          refine t_normal ⟨(k + 1, pA, capA, L2 ++ [(ky, [s0, s1, s2, s3, s4, s5, s6, s7], (qs, cs, Ls), ())]), (((hf.backA hk1).kb hf 78 rfl (by first | rfl | exact int_eq (by omega))).kb hf 6 rfl (by rfl)), ⟨(by rw [List.length_append]; exact h2.subA), ⟨by omega, by simp [hlk], fst_snoc hok hEV, okG2.snoc (x := (ky, [s0, s1, s2, s3, s4, s5, s6, s7], (qs, cs, Ls), ())) hokl ⟨rfl, (by show Ls.length ≤ 1000; omega)⟩⟩⟩, by first | omega | (simp only []; omega)⟩
        clear hf; intro hc8 a hf
        obtain rfl : k = (rCount 256 (mE s).2).1 := by omega
        refine done_l (t_normal (c_seq ?_))
        refine c_false hf rfl ?_
        refine c_exit (t_exit (t_exit (b_exit ?_)))
        refine t_normal ⟨(q2, c2, L2), ((hf.backA hj75).kb hf 6 rfl (by rw [e]; rfl)), ⟨(by rw [e]; exact hS.subA), ⟨by rw [e]; exact hok, hokl, by omega⟩⟩⟩
       ·
        intro hc
        have hi : mh 5 s = false := has_f (by decide) hc
        have e : mD s = ([], (mE s).2) := opt_no hi
        refine c_skip ?_
        refine t_normal ⟨(none, 0, []), ((hf.backA hj75).kb hf 6 rfl (by rw [e]; exact congrArg Value.bool (Bool.and_true _).symm)), ⟨(by rw [e]; exact ((hS.allNil (fun d : DigT => Rw 87 2 d.2.2.1.1 d.2.2.1.2.2.length d.2.2.1.2.1 (d.2.2.1.2.2.flatMap dotC))).rwNil 61 10).subA), ⟨by rw [e]; rfl, (fun e he => by cases he), by decide⟩⟩⟩
      ·
       clear hf hS; rintro ⟨q2, c2, L2⟩; intro a w hf hS; (try dsimp only [List.cons_append, List.nil_append] at hf)
       obtain ⟨hS, ⟨hD1, hD2, hD3⟩⟩ := hS
       refine t_normal (c_seq (c_seq (c_region ?_)))
       refine mN hf hS ?_; clear hf; intro a hf
       refine sR hf hS (rd_and hf rfl rfl rfl (and_parts ((rNum s).1 : Int) 6 64 (by decide) (by decide))) ?_; clear hf; intro a hf
       refine sR hf hS (rd_neq hf rfl rfl rfl) ?_; clear hf; intro a hf
       refine done_l (t_normal ?_)
       have hj98 := Keep.ofA hf [(6, 6), (11, 12), (99, 118)]
       replace hf := ((hf.keep hj98).kb hf 6 rfl rfl)
       refine c_joinX (n := 121) (α := Option Addr × Nat × List DotT) hj98 (fun ⟨q3, c3, L3⟩ => [(6, .bool (((decide (¬ partsI ((rNum s).1 : Int) = 0) && allOk (mE s).1) && allOk (mD s).1) && allOk (mM s).1))]) (fun ⟨q3, c3, L3⟩ w => Sat W (RdP 122 p ((mM s).2) :: Blk b_m [.int .i64 (min (((rNum s).1 : Nat) : Int) 60000), .int .i64 (min (((rNum (m1 s)).1 : Nat) : Int) 60000), .int .i64 (min (((rNum (m2 s)).1 : Nat) : Int) 60000), .int .i64 (mO s).1, .int .i64 (min (((mR s).1 : Nat) : Int) 60000), .string (str (mY s).1), .int .i64 (min (((mB s).1 : Nat) : Int) 60000), .slice q1 L1.length c1, .slice q2 L2.length c2, .slice q3 L3.length c3] 32 :: Rw 73 2 q3 L3.length c3 (L3.flatMap dotC) :: Rw 61 10 q2 L2.length c2 (L2.flatMap digC) :: AllG (fun d : DigT => Rw 87 2 d.2.2.1.1 d.2.2.1.2.2.length d.2.2.1.2.1 (d.2.2.1.2.2.flatMap dotC)) L2 :: Rw 58 10 q1 L1.length c1 (L1.flatMap entC) :: AllG (fun e : EntT => ValR 107 5 e.2.1.2.1) L1 :: Blk b_r [.int .i64 0, .int .i64 0, .int .i64 0, .int .i64 0, .int .i64 0, .string ⟨#[]⟩, .int .i64 0, .slice none 0 0, .slice none 0 0, .slice none 0 0] 32 :: R) w ∧ L3.map pDot = fstOk (mM s).1 ∧ L3.length ≤ 8) ?_ ?_
       ·
        refine c_split hf rfl ?_ ?_
        ·
         intro hc
         have hi : mh 6 s = true := has_t (by decide) hc
         have e : mM s = manyC 8 rMem (mD s).2 := opt_yes hi
         have hn := rCount_most 8 (mD s).2
         refine c_seq (c_region ?_)
         refine mN hf hS ?_; clear hf; intro a hf
         refine step_l (st_call hf (Wn.none rfl) rfl rfl rfl fn80 (RWCount_c _ _ _ (hS.selA) ⟨by decide, by decide⟩) rfl rfl ?_)
         clear hf hS; rintro v a w ⟨rfl, hS⟩ hf
         refine mN hf hS ?_; clear hf; intro a hf
         refine done_l (t_normal (c_block ?_))
         have hk2 := Keep.ofA hf [(6, 6), (11, 12), (101, 118)]
         refine c_loopK hk2 (α := Nat × Option Addr × Nat × List DotT) (fun ⟨k, q3, c3, L3⟩ => [(6, .bool (((decide (¬ partsI ((rNum s).1 : Int) = 0) && allOk (mE s).1) && allOk (mD s).1) && allOk (rMany rMem k (rCount 8 (mD s).2).2).1)), (101, .int .i64 (k : Nat))]) (fun ⟨k, q3, c3, L3⟩ w => Sat W (RdP 122 p ((rMany rMem k (rCount 8 (mD s).2).2).2) :: Blk b_m [.int .i64 (min (((rNum s).1 : Nat) : Int) 60000), .int .i64 (min (((rNum (m1 s)).1 : Nat) : Int) 60000), .int .i64 (min (((rNum (m2 s)).1 : Nat) : Int) 60000), .int .i64 (mO s).1, .int .i64 (min (((mR s).1 : Nat) : Int) 60000), .string (str (mY s).1), .int .i64 (min (((mB s).1 : Nat) : Int) 60000), .slice q1 L1.length c1, .slice q2 L2.length c2, .slice q3 L3.length c3] 32 :: Rw 73 2 q3 L3.length c3 (L3.flatMap dotC) :: Rw 61 10 q2 L2.length c2 (L2.flatMap digC) :: AllG (fun d : DigT => Rw 87 2 d.2.2.1.1 d.2.2.1.2.2.length d.2.2.1.2.1 (d.2.2.1.2.2.flatMap dotC)) L2 :: Rw 58 10 q1 L1.length c1 (L1.flatMap entC) :: AllG (fun e : EntT => ValR 107 5 e.2.1.2.1) L1 :: Blk b_r [.int .i64 0, .int .i64 0, .int .i64 0, .int .i64 0, .int .i64 0, .string ⟨#[]⟩, .int .i64 0, .slice none 0 0, .slice none 0 0, .slice none 0 0] 32 :: R) w ∧ k ≤ (rCount 8 (mD s).2).1 ∧ L3.length = k ∧ L3.map pDot = fstOk (rMany rMem k (rCount 8 (mD s).2).2).1) (fun ⟨k, q3, c3, L3⟩ => (rCount 8 (mD s).2).1 - k) (0, none, 0, []) (((hf.keep hk2).kb hf 101 rfl (by first | rfl | exact int_eq (by omega))).kb hf 6 rfl (by exact congrArg Value.bool (Bool.and_true _).symm)) ⟨(hS.rwNil 73 2).subA, ⟨by omega, rfl, rfl⟩⟩ ?_
         clear hf hS; rintro ⟨k, q3, c3, L3⟩ a w hf ⟨hS, ⟨hk, hlk, hok⟩⟩; (try dsimp only [List.cons_append, List.nil_append] at hf)
         refine c_seq (c_region ?_)
         refine sB hf hS (rd_lss hf rfl rfl rfl) ?_ ?_
         ·
          clear hf; intro hc13 a hf
          refine done_l (t_normal (c_seq ?_))
          refine c_true hf rfl ?_
          refine c_skip (t_normal (c_seq (c_block (c_seq (c_region ?_)))))
          refine mN hf hS ?_; clear hf; intro a hf
          refine step_l (st_call hf (Wn.none rfl) rfl rfl rfl fn83 (MemRd_c _ _ (hS.selA) (inv_k inv_rMem k (inv_mD hI))) rfl rfl ?_)
          clear hf hS; rintro v a w ⟨rfl, hS⟩ hf
          refine mN hf hS ?_; clear hf; intro a hf
          refine sR hf hS (rd_extract hf rfl rfl rfl) ?_; clear hf; intro a hf
          refine sR hf hS (rd_extract hf rfl rfl rfl) ?_; clear hf; intro a hf
          refine sA hf hS zr73 ?_
          clear hf hS; intro b_x a w hf hS
          refine sS hf hS sz73 ?_
          clear hf hS; intro a w hf hS
          refine aN hf hS ?_; clear hf; intro a hf
          refine done_l (t_normal (c_seq ?_))
          have hq30 := Keep.ofA hf [(6, 6), (108, 111)]
          replace hf := ((hf.keep hq30).kb hf 6 rfl rfl)
          refine c_joinK (n := 121) hq30 [(6, .bool (((decide (¬ partsI ((rNum s).1 : Int) = 0) && allOk (mE s).1) && allOk (mD s).1) && allOk (rMany rMem (k + 1) (rCount 8 (mD s).2).2).1))] (fun w => Sat W (RdP 122 p ((rMem (rMany rMem k (rCount 8 (mD s).2).2).2).2) :: Blk b_m [.int .i64 (min (((rNum s).1 : Nat) : Int) 60000), .int .i64 (min (((rNum (m1 s)).1 : Nat) : Int) 60000), .int .i64 (min (((rNum (m2 s)).1 : Nat) : Int) 60000), .int .i64 (mO s).1, .int .i64 (min (((mR s).1 : Nat) : Int) 60000), .string (str (mY s).1), .int .i64 (min (((mB s).1 : Nat) : Int) 60000), .slice q1 L1.length c1, .slice q2 L2.length c2, .slice q3 L3.length c3] 32 :: Blk b_x [.int .i64 (memV (rMany rMem k (rCount 8 (mD s).2).2).2).1, .int .i64 (memV (rMany rMem k (rCount 8 (mD s).2).2).2).2] 73 :: Rw 73 2 q3 L3.length c3 (L3.flatMap dotC) :: Rw 61 10 q2 L2.length c2 (L2.flatMap digC) :: AllG (fun d : DigT => Rw 87 2 d.2.2.1.1 d.2.2.1.2.2.length d.2.2.1.2.1 (d.2.2.1.2.2.flatMap dotC)) L2 :: Rw 58 10 q1 L1.length c1 (L1.flatMap entC) :: AllG (fun e : EntT => ValR 107 5 e.2.1.2.1) L1 :: Blk b_r [.int .i64 0, .int .i64 0, .int .i64 0, .int .i64 0, .int .i64 0, .string ⟨#[]⟩, .int .i64 0, .slice none 0 0, .slice none 0 0, .slice none 0 0] 32 :: R) w) ?_ ?_
          ·
           skip
           refine c_region ?_
           refine mN hf hS ?_; clear hf; intro a hf
           refine step_l (st_rdb hf (Wn.none rfl) (rd_move hf rfl rfl) hS rfl rfl ?_ ?_)
           ·
            clear hf; intro hc15 a hf
            have hAO := hc15
            iterate 3 ((first | refine step_l (st_rd hf (Wn.some hf rfl rfl rfl rfl) (rd_move hf rfl rfl) hS rfl rfl ?_) | refine aN hf hS ?_ | refine pT hf hS ?_); clear hf; intro a hf)
            refine done_l ?_
            refine t_normal ⟨((hf.backA hq30).kb hf 6 rfl (by exact congrArg Value.bool (by first | exact ok_snoc1 hAO | exact ok_snoc2 hAO))), hS.subA⟩
           clear hf; intro hc15 a hf
           have hAO := hc15
           iterate 3 ((first | refine kS hf ?_ | refine aN hf hS ?_ | refine pF hf hS ?_); clear hf; intro a hf)
           refine done_l ?_
           refine t_normal ⟨((hf.backA hq30).kb hf 6 rfl (by exact congrArg Value.bool (by first | exact ok_snoc1 hAO | exact ok_snoc2 hAO))), hS.subA⟩
          ·
           clear hf hS; intro a w hf hS; (try dsimp only [List.cons_append, List.nil_append] at hf)
           refine t_normal (c_region ?_)
           refine fA hf hS fb32_9 ?_; clear hf; intro a hf
           refine sR hf hS (rd_ld hf ag30) ?_; clear hf; intro a hf
           refine sR hf hS (rd_ldN hf ag73 sz73) ?_; clear hf; intro a hf
           refine step_l (st_buildSlice hf (Wn.none rfl) hS rfl rfl Tryz.underlying30 sz73 zr73 (by decide) bz73_1 rfl (.cons rfl (by first | rfl) (by rfl) (by repeat (first | exact Put.nil | apply Put.cons | apply Put.succ)) .nil) rfl rfl ?_)
           clear hf hS; intro b_16 a w hf hS
           refine step_l (st_append hf (Wn.none rfl) rfl rfl rfl Tryz.underlying30 tyb73 (by rfl) (by decide) hS (by repeat (first | exact Sel.head | apply Sel.tail)) (by first | exact hS.slOfBlk (by repeat (first | exact Sel.head | apply Sel.tail)) (by rfl) | exact hS.slOfBlkPre (by repeat (first | exact Sel.head | apply Sel.tail)) (bvs_len1 _) | exact hS.slOfRw (by repeat (first | exact Sel.head | apply Sel.tail)) | exact SlAt.nil _ _ _) (by first | rfl | exact bvs_one _ | (simp [Value.oneCell']; done)) (by omega) rfl rfl ?_)
           clear hf hS; intro pA capA a w hf hS hnilA
           refine fA hf hS fb32_9 ?_; clear hf; intro a hf
           refine sS hf hS sz30 ?_
           clear hf hS; intro a w hf hS
           refine done_l (b_normal (t_normal (c_region ?_)))
           refine sP hf hS ?_; clear hf; intro a hf
           refine mN hf hS ?_; clear hf; intro a hf
           refine done_l ?_
           have h2 : Sat W (Rw 73 2 pA (L3.length + 1) capA (L3.flatMap dotC ++ [.int .i64 (memV (rMany rMem k (rCount 8 (mD s).2).2).2).1, .int .i64 (memV (rMany rMem k (rCount 8 (mD s).2).2).2).2]) :: RdP 122 p ((rMem (rMany rMem k (rCount 8 (mD s).2).2).2).2) :: Blk b_m [.int .i64 (min (((rNum s).1 : Nat) : Int) 60000), .int .i64 (min (((rNum (m1 s)).1 : Nat) : Int) 60000), .int .i64 (min (((rNum (m2 s)).1 : Nat) : Int) 60000), .int .i64 (mO s).1, .int .i64 (min (((mR s).1 : Nat) : Int) 60000), .string (str (mY s).1), .int .i64 (min (((mB s).1 : Nat) : Int) 60000), .slice q1 L1.length c1, .slice q2 L2.length c2, .slice pA (L3.length + 1) capA] 32 :: Rw 61 10 q2 L2.length c2 (L2.flatMap digC) :: AllG (fun d : DigT => Rw 87 2 d.2.2.1.1 d.2.2.1.2.2.length d.2.2.1.2.1 (d.2.2.1.2.2.flatMap dotC)) L2 :: Rw 58 10 q1 L1.length c1 (L1.flatMap entC) :: AllG (fun e : EntT => ValR 107 5 e.2.1.2.1) L1 :: Blk b_r [.int .i64 0, .int .i64 0, .int .i64 0, .int .i64 0, .int .i64 0, .string ⟨#[]⟩, .int .i64 0, .slice none 0 0, .slice none 0 0, .slice none 0 0] 32 :: R) w := hS.subA; replace h2 := h2.rwCast (xs' := (L3 ++ [((memV (rMany rMem k (rCount 8 (mD s).2).2).2).1, (memV (rMany rMem k (rCount 8 (mD s).2).2).2).2, ())]).flatMap dotC) (by simp [dotC]) rfl
           refine t_normal ⟨(k + 1, pA, capA, L3 ++ [((memV (rMany rMem k (rCount 8 (mD s).2).2).2).1, (memV (rMany rMem k (rCount 8 (mD s).2).2).2).2, ())]), (((hf.backA hk2).kb hf 101 rfl (by first | rfl | exact int_eq (by omega))).kb hf 6 rfl (by rfl)), ⟨(by rw [List.length_append]; exact h2.subA), ⟨by omega, by simp [hlk], fst_snoc hok rfl⟩⟩, by first | omega | (simp only []; omega)⟩
         clear hf; intro hc13 a hf
         obtain rfl : k = (rCount 8 (mD s).2).1 := by omega
         refine done_l (t_normal (c_seq ?_))
         refine c_false hf rfl ?_
         refine c_exit (t_exit (t_exit (b_exit ?_)))
         refine t_normal ⟨(q3, c3, L3), ((hf.backA hj98).kb hf 6 rfl (by rw [e]; rfl)), ⟨(by rw [e]; exact hS.subA), ⟨by rw [e]; exact hok, by omega⟩⟩⟩
        ·
         intro hc
         have hi : mh 6 s = false := has_f (by decide) hc
         have e : mM s = ([], (mD s).2) := opt_no hi
         refine c_skip ?_
         refine t_normal ⟨(none, 0, []), ((hf.backA hj98).kb hf 6 rfl (by rw [e]; exact congrArg Value.bool (Bool.and_true _).symm)), ⟨(by rw [e]; exact (hS.rwNil 73 2).subA), ⟨by rw [e]; rfl, by decide⟩⟩⟩
       ·
        clear hf hS; rintro ⟨q3, c3, L3⟩; intro a w hf hS; (try dsimp only [List.cons_append, List.nil_append] at hf)
        obtain ⟨hS, ⟨hM1, hM3⟩⟩ := hS
        refine t_normal (c_seq (c_region ?_))
        refine sR hf hS (rd_ldN hf ag32 sz32) ?_; clear hf; intro a hf
        refine mN hf hS ?_; clear hf; intro a hf
        refine sS hf hS sz32 ?_
        clear hf hS; intro a w hf hS
        refine aN hf hS ?_; clear hf; intro a hf
        refine done_l (t_normal (c_ret ?_))
        refine eC hf hS ag32 sz32 ?_
        exact ⟨_, _, L1, _, _, L2, _, _, L3, rfl, ⟨hE1, hE2, hE3⟩, ⟨hD1, hD2, hD3⟩, ⟨hM1, hM3⟩, hS.subA⟩

end Go.Proofs.YtcflbdpjoanbgaaGreat
