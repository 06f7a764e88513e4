/-
  Walked: Pla.
  Conditions: none.
-/
import Derived.Test.YtcflbdpjoanbgaaGreatRMay1
namespace Go.Proofs.YtcflbdpjoanbgaaGreat
open Go Go.Sl
set_option linter.unusedVariables false
set_option linter.unusedSimpArgs false

theorem RPlain_c (kd fr tn op fo : Int) (ky : List UInt8) (bk : Int) (es : List EntT) (qe : Option Addr) (ce : Nat) (ds : List DigT) (qd : Option Addr) (cd : Nat) (ms : List MemT) (qm : Option Addr) (cm : Nat) {W : World} {R : List HP} {w : World} (hS : Sat W (R) w)  : Calls Tryz.prog 7 [.agg #[.int .i64 kd, .int .i64 fr, .int .i64 tn, .int .i64 op, .int .i64 fo, .string (str ky), .int .i64 bk, .slice qe es.length ce, .slice qd ds.length cd, .slice qm ms.length cm]].toArray w (Ret fun v w' => v = .agg #[.int .i64 kd, .int .i64 fr, .int .i64 tn, .int .i64 (plI (hasP 0 kd) op), .int .i64 (plI (hasP 1 kd) fo), .string (str (plB (hasP 2 kd) ky)), .int .i64 (plI (hasP 3 kd) bk), slv (plS (hasP 4 kd) (qe, ce, es)), slv (plS (hasP 5 kd) (qd, cd, ds)), slv (plS (hasP 6 kd) (qm, cm, ms))] ∧ Sat W R w') := by
 refine fn_start 58 Tryz.func7 rfl rfl rfl ?_
 intro a hf
 refine c_seq (c_region ?_)
 refine step_l (st_box hf (Wn.none rfl) hS rfl rfl (by rfl) rfl rfl ?_)
 clear hf hS; intro b_m a w hf hS
 refine sA hf hS zr32 ?_
 clear hf hS; intro b_r a w hf hS
 refine done_l (t_normal (c_seq (c_region ?_)))
 refine fA hf hS fb32_0 ?_; clear hf; intro a hf
 refine sR hf hS (rd_ld hf ag3) ?_; clear hf; intro a hf
 refine step_l (st_call hf (Wn.none rfl) rfl rfl rfl fn19 (Has_c _ hS) rfl rfl ?_)
 clear hf hS; rintro v a w ⟨rfl, hS⟩ hf
 refine aN hf hS ?_; clear hf; intro a hf
 refine done_l (t_normal (c_seq (c_region ?_)))
 refine fA hf hS fb32_0 ?_; clear hf; intro a hf
 refine sR hf hS (rd_ld hf ag3) ?_; clear hf; intro a hf
 refine fA hf hS fb32_1 ?_; clear hf; intro a hf
 refine sR hf hS (rd_ld hf ag3) ?_; clear hf; intro a hf
 refine fA hf hS fb32_2 ?_; clear hf; intro a hf
 refine sR hf hS (rd_ld hf ag3) ?_; clear hf; intro a hf
 refine sR hf hS (rd_build hf rfl rfl zr32 (by rfl) pl32 (.cons rfl (by first | rfl) (by rfl) (by repeat (first | exact Put.nil | apply Put.cons | apply Put.succ)) (.cons rfl (by first | rfl) (by rfl) (by repeat (first | exact Put.nil | apply Put.cons | apply Put.succ)) (.cons rfl (by first | rfl) (by rfl) (by repeat (first | exact Put.nil | apply Put.cons | apply Put.succ)) .nil)))) ?_; clear hf; intro a hf
 refine sA hf hS zr32 ?_
 clear hf hS; intro b_o a w hf hS
 refine sS hf hS sz32 ?_
 clear hf hS; intro a w hf hS
 refine done_l (t_normal (c_seq (c_seq (c_region ?_))))
 refine mN hf hS ?_; clear hf; intro a hf
 refine sR hf hS (rd_and hf rfl rfl rfl (and_parts kd 0 1 (by decide) (by decide))) ?_; clear hf; intro a hf
 refine sR hf hS (rd_neq hf rfl rfl rfl) ?_; clear hf; intro a hf
 refine done_l (t_normal ?_)
 have hj17 := Keep.ofA hf [(18, 20)]
 refine c_joinK (n := 58) hj17 [] (fun w => Sat W (Blk b_m [.int .i64 kd, .int .i64 fr, .int .i64 tn, .int .i64 op, .int .i64 fo, .string (str ky), .int .i64 bk, .slice qe es.length ce, .slice qd ds.length cd, .slice qm ms.length cm] 32 :: Blk b_o [.int .i64 kd, .int .i64 fr, .int .i64 tn, .int .i64 (plI (hasP 0 kd) op), .int .i64 0, .string ⟨#[]⟩, .int .i64 0, .slice none 0 0, .slice none 0 0, .slice none 0 0] 32 :: Blk b_r [.int .i64 0, .int .i64 0, .int .i64 0, .int .i64 0, .int .i64 0, .string ⟨#[]⟩, .int .i64 0, .slice none 0 0, .slice none 0 0, .slice none 0 0] 32 :: R) w) ?_ ?_
 ·
  refine c_split hf rfl ?_ ?_
  ·
   intro hc
   have h1 := has_t (by decide) hc
   refine c_region ?_
   refine fA hf hS fb32_3 ?_; clear hf; intro a hf
   refine sR hf hS (rd_ld hf ag2) ?_; clear hf; intro a hf
   refine fA hf hS fb32_3 ?_; clear hf; intro a hf
   refine sS hf hS sz2 ?_
   clear hf hS; intro a w hf hS
   refine done_l ?_
   refine t_normal ⟨(hf.backA hj17), (by rw [h1]; exact hS.subA)⟩
  ·
   intro hc
   have h1 := has_f (by decide) hc
   refine c_skip ?_
   refine t_normal ⟨(hf.backA hj17), (by rw [h1]; exact hS.subA)⟩
 ·
  clear hf hS; intro a w hf hS; (try dsimp only [List.cons_append, List.nil_append] at hf)
  refine t_normal (c_seq (c_seq (c_region ?_)))
  refine mN hf hS ?_; clear hf; intro a hf
  refine sR hf hS (rd_and hf rfl rfl rfl (and_parts kd 1 2 (by decide) (by decide))) ?_; clear hf; intro a hf
  refine sR hf hS (rd_neq hf rfl rfl rfl) ?_; clear hf; intro a hf
  refine done_l (t_normal ?_)
  have hj23 := Keep.ofA hf [(24, 26)]
  refine c_joinK (n := 58) hj23 [] (fun w => Sat W (Blk b_m [.int .i64 kd, .int .i64 fr, .int .i64 tn, .int .i64 op, .int .i64 fo, .string (str ky), .int .i64 bk, .slice qe es.length ce, .slice qd ds.length cd, .slice qm ms.length cm] 32 :: Blk b_o [.int .i64 kd, .int .i64 fr, .int .i64 tn, .int .i64 (plI (hasP 0 kd) op), .int .i64 (plI (hasP 1 kd) fo), .string ⟨#[]⟩, .int .i64 0, .slice none 0 0, .slice none 0 0, .slice none 0 0] 32 :: Blk b_r [.int .i64 0, .int .i64 0, .int .i64 0, .int .i64 0, .int .i64 0, .string ⟨#[]⟩, .int .i64 0, .slice none 0 0, .slice none 0 0, .slice none 0 0] 32 :: R) w) ?_ ?_
  ·
   refine c_split hf rfl ?_ ?_
   ·
    intro hc
    have h1 := has_t (by decide) hc
    refine c_region ?_
    refine fA hf hS fb32_4 ?_; clear hf; intro a hf
    refine sR hf hS (rd_ld hf ag3) ?_; clear hf; intro a hf
    refine fA hf hS fb32_4 ?_; clear hf; intro a hf
    refine sS hf hS sz3 ?_
    clear hf hS; intro a w hf hS
    refine done_l ?_
    refine t_normal ⟨(hf.backA hj23), (by rw [h1]; exact hS.subA)⟩
   ·
    intro hc
    have h1 := has_f (by decide) hc
    refine c_skip ?_
    refine t_normal ⟨(hf.backA hj23), (by rw [h1]; exact hS.subA)⟩
  ·
   clear hf hS; intro a w hf hS; (try dsimp only [List.cons_append, List.nil_append] at hf)
   refine t_normal (c_seq (c_seq (c_region ?_)))
   refine mN hf hS ?_; clear hf; intro a hf
   refine sR hf hS (rd_and hf rfl rfl rfl (and_parts kd 2 4 (by decide) (by decide))) ?_; clear hf; intro a hf
   refine sR hf hS (rd_neq hf rfl rfl rfl) ?_; clear hf; intro a hf
   refine done_l (t_normal ?_)
   have hj29 := Keep.ofA hf [(30, 32)]
   refine c_joinK (n := 58) hj29 [] (fun w => Sat W (Blk b_m [.int .i64 kd, .int .i64 fr, .int .i64 tn, .int .i64 op, .int .i64 fo, .string (str ky), .int .i64 bk, .slice qe es.length ce, .slice qd ds.length cd, .slice qm ms.length cm] 32 :: Blk b_o [.int .i64 kd, .int .i64 fr, .int .i64 tn, .int .i64 (plI (hasP 0 kd) op), .int .i64 (plI (hasP 1 kd) fo), .string (str (plB (hasP 2 kd) ky)), .int .i64 0, .slice none 0 0, .slice none 0 0, .slice none 0 0] 32 :: Blk b_r [.int .i64 0, .int .i64 0, .int .i64 0, .int .i64 0, .int .i64 0, .string ⟨#[]⟩, .int .i64 0, .slice none 0 0, .slice none 0 0, .slice none 0 0] 32 :: R) w) ?_ ?_
   ·
    refine c_split hf rfl ?_ ?_
    ·
     intro hc
     have h1 := has_t (by decide) hc
     refine c_region ?_
     refine fA hf hS fb32_5 ?_; clear hf; intro a hf
     refine sR hf hS (rd_ld hf ag9) ?_; clear hf; intro a hf
     refine fA hf hS fb32_5 ?_; clear hf; intro a hf
     refine sS hf hS sz9 ?_
     clear hf hS; intro a w hf hS
     refine done_l ?_
     refine t_normal ⟨(hf.backA hj29), (by rw [h1]; exact hS.subA)⟩
    ·
     intro hc
     have h1 := has_f (by decide) hc
     refine c_skip ?_
     refine t_normal ⟨(hf.backA hj29), (by rw [h1]; exact hS.subA)⟩
   ·
    clear hf hS; intro a w hf hS; (try dsimp only [List.cons_append, List.nil_append] at hf)
    refine t_normal (c_seq (c_seq (c_region ?_)))
    refine mN hf hS ?_; clear hf; intro a hf
    refine sR hf hS (rd_and hf rfl rfl rfl (and_parts kd 3 8 (by decide) (by decide))) ?_; clear hf; intro a hf
    refine sR hf hS (rd_neq hf rfl rfl rfl) ?_; clear hf; intro a hf
    refine done_l (t_normal ?_)
    have hj35 := Keep.ofA hf [(36, 38)]
    refine c_joinK (n := 58) hj35 [] (fun w => Sat W (Blk b_m [.int .i64 kd, .int .i64 fr, .int .i64 tn, .int .i64 op, .int .i64 fo, .string (str ky), .int .i64 bk, .slice qe es.length ce, .slice qd ds.length cd, .slice qm ms.length cm] 32 :: Blk b_o [.int .i64 kd, .int .i64 fr, .int .i64 tn, .int .i64 (plI (hasP 0 kd) op), .int .i64 (plI (hasP 1 kd) fo), .string (str (plB (hasP 2 kd) ky)), .int .i64 (plI (hasP 3 kd) bk), .slice none 0 0, .slice none 0 0, .slice none 0 0] 32 :: Blk b_r [.int .i64 0, .int .i64 0, .int .i64 0, .int .i64 0, .int .i64 0, .string ⟨#[]⟩, .int .i64 0, .slice none 0 0, .slice none 0 0, .slice none 0 0] 32 :: R) w) ?_ ?_
    ·
     refine c_split hf rfl ?_ ?_
     ·
      intro hc
      have h1 := has_t (by decide) hc
      refine c_region ?_
      refine fA hf hS fb32_6 ?_; clear hf; intro a hf
      refine sR hf hS (rd_ld hf ag3) ?_; clear hf; intro a hf
      refine fA hf hS fb32_6 ?_; clear hf; intro a hf
      refine sS hf hS sz3 ?_
      clear hf hS; intro a w hf hS
      refine done_l ?_
      refine t_normal ⟨(hf.backA hj35), (by rw [h1]; exact hS.subA)⟩
     ·
      intro hc
      have h1 := has_f (by decide) hc
      refine c_skip ?_
      refine t_normal ⟨(hf.backA hj35), (by rw [h1]; exact hS.subA)⟩
    ·
     clear hf hS; intro a w hf hS; (try dsimp only [List.cons_append, List.nil_append] at hf)
     refine t_normal (c_seq (c_seq (c_region ?_)))
     refine mN hf hS ?_; clear hf; intro a hf
     refine sR hf hS (rd_and hf rfl rfl rfl (and_parts kd 4 16 (by decide) (by decide))) ?_; clear hf; intro a hf
     refine sR hf hS (rd_neq hf rfl rfl rfl) ?_; clear hf; intro a hf
     refine done_l (t_normal ?_)
     have hj41 := Keep.ofA hf [(42, 44)]
     refine c_joinK (n := 58) hj41 [] (fun w => Sat W (Blk b_m [.int .i64 kd, .int .i64 fr, .int .i64 tn, .int .i64 op, .int .i64 fo, .string (str ky), .int .i64 bk, .slice qe es.length ce, .slice qd ds.length cd, .slice qm ms.length cm] 32 :: Blk b_o [.int .i64 kd, .int .i64 fr, .int .i64 tn, .int .i64 (plI (hasP 0 kd) op), .int .i64 (plI (hasP 1 kd) fo), .string (str (plB (hasP 2 kd) ky)), .int .i64 (plI (hasP 3 kd) bk), slv (plS (hasP 4 kd) (qe, ce, es)), .slice none 0 0, .slice none 0 0] 32 :: Blk b_r [.int .i64 0, .int .i64 0, .int .i64 0, .int .i64 0, .int .i64 0, .string ⟨#[]⟩, .int .i64 0, .slice none 0 0, .slice none 0 0, .slice none 0 0] 32 :: R) w) ?_ ?_
     ·
      refine c_split hf rfl ?_ ?_
      ·
       intro hc
       have h1 := has_t (by decide) hc
       refine c_region ?_
       refine fA hf hS fb32_7 ?_; clear hf; intro a hf
       refine sR hf hS (rd_ld hf ag28) ?_; clear hf; intro a hf
       refine fA hf hS fb32_7 ?_; clear hf; intro a hf
       refine sS hf hS sz28 ?_
       clear hf hS; intro a w hf hS
       refine done_l ?_
       refine t_normal ⟨(hf.backA hj41), (by rw [h1]; exact hS.subA)⟩
      ·
       intro hc
       have h1 := has_f (by decide) hc
       refine c_skip ?_
       refine t_normal ⟨(hf.backA hj41), (by rw [h1]; exact hS.subA)⟩
     ·
      clear hf hS; intro a w hf hS; (try dsimp only [List.cons_append, List.nil_append] at hf)
      refine t_normal (c_seq (c_seq (c_region ?_)))
      refine mN hf hS ?_; clear hf; intro a hf
      refine sR hf hS (rd_and hf rfl rfl rfl (and_parts kd 5 32 (by decide) (by decide))) ?_; clear hf; intro a hf
      refine sR hf hS (rd_neq hf rfl rfl rfl) ?_; clear hf; intro a hf
      refine done_l (t_normal ?_)
      have hj47 := Keep.ofA hf [(48, 50)]
      refine c_joinK (n := 58) hj47 [] (fun w => Sat W (Blk b_m [.int .i64 kd, .int .i64 fr, .int .i64 tn, .int .i64 op, .int .i64 fo, .string (str ky), .int .i64 bk, .slice qe es.length ce, .slice qd ds.length cd, .slice qm ms.length cm] 32 :: Blk b_o [.int .i64 kd, .int .i64 fr, .int .i64 tn, .int .i64 (plI (hasP 0 kd) op), .int .i64 (plI (hasP 1 kd) fo), .string (str (plB (hasP 2 kd) ky)), .int .i64 (plI (hasP 3 kd) bk), slv (plS (hasP 4 kd) (qe, ce, es)), slv (plS (hasP 5 kd) (qd, cd, ds)), .slice none 0 0] 32 :: Blk b_r [.int .i64 0, .int .i64 0, .int .i64 0, .int .i64 0, .int .i64 0, .string ⟨#[]⟩, .int .i64 0, .slice none 0 0, .slice none 0 0, .slice none 0 0] 32 :: R) w) ?_ ?_
      ·
       refine c_split hf rfl ?_ ?_
       ·
        intro hc
        have h1 := has_t (by decide) hc
        refine c_region ?_
        refine fA hf hS fb32_8 ?_; clear hf; intro a hf
        refine sR hf hS (rd_ld hf ag29) ?_; clear hf; intro a hf
        refine fA hf hS fb32_8 ?_; clear hf; intro a hf
        refine sS hf hS sz29 ?_
        clear hf hS; intro a w hf hS
        refine done_l ?_
        refine t_normal ⟨(hf.backA hj47), (by rw [h1]; exact hS.subA)⟩
       ·
        intro hc
        have h1 := has_f (by decide) hc
        refine c_skip ?_
        refine t_normal ⟨(hf.backA hj47), (by rw [h1]; exact hS.subA)⟩
      ·
       clear hf hS; intro a w hf hS; (try dsimp only [List.cons_append, List.nil_append] at hf)
       refine t_normal (c_seq (c_seq (c_region ?_)))
       refine mN hf hS ?_; clear hf; intro a hf
       refine sR hf hS (rd_and hf rfl rfl rfl (and_parts kd 6 64 (by decide) (by decide))) ?_; clear hf; intro a hf
       refine sR hf hS (rd_neq hf rfl rfl rfl) ?_; clear hf; intro a hf
       refine done_l (t_normal ?_)
       have hj53 := Keep.ofA hf [(54, 56)]
       refine c_joinK (n := 58) hj53 [] (fun w => Sat W (Blk b_m [.int .i64 kd, .int .i64 fr, .int .i64 tn, .int .i64 op, .int .i64 fo, .string (str ky), .int .i64 bk, .slice qe es.length ce, .slice qd ds.length cd, .slice qm ms.length cm] 32 :: Blk b_o [.int .i64 kd, .int .i64 fr, .int .i64 tn, .int .i64 (plI (hasP 0 kd) op), .int .i64 (plI (hasP 1 kd) fo), .string (str (plB (hasP 2 kd) ky)), .int .i64 (plI (hasP 3 kd) bk), slv (plS (hasP 4 kd) (qe, ce, es)), slv (plS (hasP 5 kd) (qd, cd, ds)), slv (plS (hasP 6 kd) (qm, cm, ms))] 32 :: Blk b_r [.int .i64 0, .int .i64 0, .int .i64 0, .int .i64 0, .int .i64 0, .string ⟨#[]⟩, .int .i64 0, .slice none 0 0, .slice none 0 0, .slice none 0 0] 32 :: R) w) ?_ ?_
       ·
        refine c_split hf rfl ?_ ?_
        ·
         intro hc
         have h1 := has_t (by decide) hc
         refine c_region ?_
         refine fA hf hS fb32_9 ?_; clear hf; intro a hf
         refine sR hf hS (rd_ld hf ag30) ?_; clear hf; intro a hf
         refine fA hf hS fb32_9 ?_; clear hf; intro a hf
         refine sS hf hS sz30 ?_
         clear hf hS; intro a w hf hS
         refine done_l ?_
         refine t_normal ⟨(hf.backA hj53), (by rw [h1]; exact hS.subA)⟩
        ·
         intro hc
         have h1 := has_f (by decide) hc
         refine c_skip ?_
         refine t_normal ⟨(hf.backA hj53), (by rw [h1]; exact hS.subA)⟩
       ·
        clear hf hS; intro a w hf hS; (try dsimp only [List.cons_append, List.nil_append] at hf)
        refine t_normal (c_seq (c_region ?_))
        refine sR hf hS (rd_ldN hf ag32 sz32) ?_; clear hf; intro a hf
        refine sS hf hS sz32 ?_
        clear hf hS; intro a w hf hS
        refine done_l (t_normal (c_ret ?_))
        refine e_res1 hf.defers rfl (res_cellN hf rfl ag32 sz32 hS (by repeat (first | exact Sel.head | apply Sel.tail)) (by repeat (first | exact Seg.nil | apply Seg.cons | apply Seg.succ)) .nil) ?_
        refine ⟨?_, hS.subA⟩
        clear hf hS
        rfl

end Go.Proofs.YtcflbdpjoanbgaaGreat
