/-
  Walked: Pla.
  Conditions: none.
-/
import Derived.Test.YtcflbdpjoanbgaaGreatMay1
namespace Go.Proofs.YtcflbdpjoanbgaaGreat
open Go Go.Sl
set_option linter.unusedVariables false
set_option linter.unusedSimpArgs false

theorem Plain_c (kd fr tn op fo : Int) (ky : List UInt8) (bk : Int) (es : List EntT) (qe : Option Addr) (ce : Nat) (ds : List DigT) (qd : Option Addr) (cd : Nat) (ms : List MemT) (qm : Option Addr) (cm : Nat) {W : World} {R : List HP} {w : World} (hS : Sat W (R) w)  : Calls Tryz.prog 46 [.agg #[.int .i64 kd, .int .i64 fr, .int .i64 tn, .int .i64 op, .int .i64 fo, .string (str ky), .int .i64 bk, .slice qe es.length ce, .slice qd ds.length cd, .slice qm ms.length cm]].toArray w (Ret fun v w' => v = .agg #[.int .i64 kd, .int .i64 fr, .int .i64 tn, .int .i64 (plI (hasP 0 kd) op), .int .i64 (plI (hasP 1 kd) fo), .string (str (plB (hasP 2 kd) ky)), .int .i64 (plI (hasP 3 kd) bk), slv (plS (hasP 4 kd) (qe, ce, es)), slv (plS (hasP 5 kd) (qd, cd, ds)), slv (plS (hasP 6 kd) (qm, cm, ms))] ∧ Sat W R w') := by
 refine fn_start 58 Tryz.func46 rfl rfl rfl ?_
 intro a hf
 refine c_seq (c_region ?_)
 refine step_l (st_box hf (Wn.none rfl) hS rfl rfl (by rfl) rfl rfl ?_)
 clear hf hS; intro b_m a w hf hS
 refine sA hf hS zr32 ?_
 clear hf hS; intro b_r a w hf hS
 refine done_l (t_normal (c_seq (c_region ?_)))
 refine fA hf hS fb32_0 ?_; clear hf; intro a hf
 refine sR hf hS (rd_ld hf ag3) ?_; clear hf; intro a hf
 refine step_l (st_call hf (Wn.none rfl) rfl rfl rfl fn59 (Parts_c _ hS) rfl rfl ?_)
 clear hf hS; rintro v a w ⟨rfl, hS⟩ hf
 refine aN hf hS ?_; clear hf; intro a hf
 refine done_l (t_normal (c_seq (c_region ?_)))
 refine fA hf hS fb32_0 ?_; clear hf; intro a hf
 refine sR hf hS (rd_ld hf ag3) ?_; clear hf; intro a hf
 refine fA hf hS fb32_1 ?_; clear hf; intro a hf
 refine sR hf hS (rd_ld hf ag3) ?_; clear hf; intro a hf
 refine fA hf hS fb32_2 ?_; clear hf; intro a hf
 refine sR hf hS (rd_ld hf ag3) ?_; clear hf; intro a hf
 refine sR hf hS (rd_build hf rfl rfl zr32 (by rfl) pl32 (.cons rfl (by first | rfl) (by rfl) (by repeat (first | exact Put.nil | apply Put.cons | apply Put.succ)) (.cons rfl (by first | rfl) (by rfl) (by repeat (first | exact Put.nil | apply Put.cons | apply Put.succ)) (.cons rfl (by first | rfl) (by rfl) (by repeat (first | exact Put.nil | apply Put.cons | apply Put.succ)) .nil)))) ?_; clear hf; intro a hf
 refine sA hf hS zr32 ?_
 clear hf hS; intro b_o a w hf hS
 refine sS hf hS sz32 ?_
 clear hf hS; intro a w hf hS
 refine done_l (t_normal (c_seq (c_seq (c_region ?_))))
 refine mN hf hS ?_; clear hf; intro a hf
 refine sR hf hS (rd_and hf rfl rfl rfl (and_parts kd 0 1 (by decide) (by decide))) ?_; clear hf; intro a hf
 refine sR hf hS (rd_neq hf rfl rfl rfl) ?_; clear hf; intro a hf
 refine done_l (t_normal ?_)
 have hj17 := Keep.ofA hf [(18, 20)]
 refine c_joinK (n := 58) hj17 [] (fun w => Sat W (Blk b_m [.int .i64 kd, .int .i64 fr, .int .i64 tn, .int .i64 op, .int .i64 fo, .string (str ky), .int .i64 bk, .slice qe es.length ce, .slice qd ds.length cd, .slice qm ms.length cm] 32 :: Blk b_o [.int .i64 kd, .int .i64 fr, .int .i64 tn, .int .i64 (plI (hasP 0 kd) op), .int .i64 0, .string ⟨#[]⟩, .int .i64 0, .slice none 0 0, .slice none 0 0, .slice none 0 0] 32 :: Blk b_r [.int .i64 0, .int .i64 0, .int .i64 0, .int .i64 0, .int .i64 0, .string ⟨#[]⟩, .int .i64 0, .slice none 0 0, .slice none 0 0, .slice none 0 0] 32 :: R) w) ?_ ?_
 ·
  refine c_split hf rfl ?_ ?_
  ·
   intro hc
   have h1 := has_t (by decide) hc
   refine c_region ?_
   refine fA hf hS fb32_3 ?_; clear hf; intro a hf
   refine sR hf hS (rd_ld hf ag2) ?_; clear hf; intro a hf
   refine fA hf hS fb32_3 ?_; clear hf; intro a hf
   refine sS hf hS sz2 ?_
   clear hf hS; intro a w hf hS
   refine done_l ?_
   refine t_normal ⟨(hf.backA hj17), (by rw [h1]; exact hS.subA)⟩
  ·
   intro hc
   have h1 := has_f (by decide) hc
   refine c_skip ?_
   refine t_normal ⟨(hf.backA hj17), (by rw [h1]; exact hS.subA)⟩
 ·
  clear hf hS; intro a w hf hS; (try dsimp only [List.cons_append, List.nil_append] at hf)
  refine t_normal (c_seq (c_seq (c_region ?_)))
  refine mN hf hS ?_; clear hf; intro a hf
  refine sR hf hS (rd_and hf rfl rfl rfl (and_parts kd 1 2 (by decide) (by decide))) ?_; clear hf; intro a hf
  refine sR hf hS (rd_neq hf rfl rfl rfl) ?_; clear hf; intro a hf
  refine done_l (t_normal ?_)
  have hj23 := Keep.ofA hf [(24, 26)]
  refine c_joinK (n := 58) hj23 [] (fun w => Sat W (Blk b_m [.int .i64 kd, .int .i64 fr, .int .i64 tn, .int .i64 op, .int .i64 fo, .string (str ky), .int .i64 bk, .slice qe es.length ce, .slice qd ds.length cd, .slice qm ms.length cm] 32 :: Blk b_o [.int .i64 kd, .int .i64 fr, .int .i64 tn, .int .i64 (plI (hasP 0 kd) op), .int .i64 (plI (hasP 1 kd) fo), .string ⟨#[]⟩, .int .i64 0, .slice none 0 0, .slice none 0 0, .slice none 0 0] 32 :: Blk b_r [.int .i64 0, .int .i64 0, .int .i64 0, .int .i64 0, .int .i64 0, .string ⟨#[]⟩, .int .i64 0, .slice none 0 0, .slice none 0 0, .slice none 0 0] 32 :: R) w) ?_ ?_
  ·
   refine c_split hf rfl ?_ ?_
   ·
    intro hc
    have h1 := has_t (by decide) hc
    refine c_region ?_
    refine fA hf hS fb32_4 ?_; clear hf; intro a hf
    refine sR hf hS (rd_ld hf ag3) ?_; clear hf; intro a hf
    refine fA hf hS fb32_4 ?_; clear hf; intro a hf
    refine sS hf hS sz3 ?_
    clear hf hS; intro a w hf hS
    refine done_l ?_
    refine t_normal ⟨(hf.backA hj23), (by rw [h1]; exact hS.subA)⟩
   ·
    intro hc
    have h1 := has_f (by decide) hc
    refine c_skip ?_
    refine t_normal ⟨(hf.backA hj23), (by rw [h1]; exact hS.subA)⟩
  ·
   clear hf hS; intro a w hf hS; (try dsimp only [List.cons_append, List.nil_append] at hf)
   refine t_normal (c_seq (c_seq (c_region ?_)))
   refine mN hf hS ?_; clear hf; intro a hf
   refine sR hf hS (rd_and hf rfl rfl rfl (and_parts kd 2 4 (by decide) (by decide))) ?_; clear hf; intro a hf
   refine sR hf hS (rd_neq hf rfl rfl rfl) ?_; clear hf; intro a hf
   refine done_l (t_normal ?_)
   have hj29 := Keep.ofA hf [(30, 32)]
   refine c_joinK (n := 58) hj29 [] (fun w => Sat W (Blk b_m [.int .i64 kd, .int .i64 fr, .int .i64 tn, .int .i64 op, .int .i64 fo, .string (str ky), .int .i64 bk, .slice qe es.length ce, .slice qd ds.length cd, .slice qm ms.length cm] 32 :: Blk b_o [.int .i64 kd, .int .i64 fr, .int .i64 tn, .int .i64 (plI (hasP 0 kd) op), .int .i64 (plI (hasP 1 kd) fo), .string (str (plB (hasP 2 kd) ky)), .int .i64 0, .slice none 0 0, .slice none 0 0, .slice none 0 0] 32 :: Blk b_r [.int .i64 0, .int .i64 0, .int .i64 0, .int .i64 0, .int .i64 0, .string ⟨#[]⟩, .int .i64 0, .slice none 0 0, .slice none 0 0, .slice none 0 0] 32 :: R) w) ?_ ?_
   ·
    refine c_split hf rfl ?_ ?_
    ·
     intro hc
     have h1 := has_t (by decide) hc
     refine c_region ?_
     refine fA hf hS fb32_5 ?_; clear hf; intro a hf
     refine sR hf hS (rd_ld hf ag9) ?_; clear hf; intro a hf
     refine fA hf hS fb32_5 ?_; clear hf; intro a hf
     refine sS hf hS sz9 ?_
     clear hf hS; intro a w hf hS
     refine done_l ?_
     refine t_normal ⟨(hf.backA hj29), (by rw [h1]; exact hS.subA)⟩
    ·
     intro hc
     have h1 := has_f (by decide) hc
     refine c_skip ?_
     refine t_normal ⟨(hf.backA hj29), (by rw [h1]; exact hS.subA)⟩
   ·
    clear hf hS; intro a w hf hS; (try dsimp only [List.cons_append, List.nil_append] at hf)
    refine t_normal (c_seq (c_seq (c_region ?_)))
    refine mN hf hS ?_; clear hf; intro a hf
    refine sR hf hS (rd_and hf rfl rfl rfl (and_parts kd 3 8 (by decide) (by decide))) ?_; clear hf; intro a hf
    refine sR hf hS (rd_neq hf rfl rfl rfl) ?_; clear hf; intro a hf
    refine done_l (t_normal ?_)
    have hj35 := Keep.ofA hf [(36, 38)]
    refine c_joinK (n := 58) hj35 [] (fun w => Sat W (Blk b_m [.int .i64 kd, .int .i64 fr, .int .i64 tn, .int .i64 op, .int .i64 fo, .string (str ky), .int .i64 bk, .slice qe es.length ce, .slice qd ds.length cd, .slice qm ms.length cm] 32 :: Blk b_o [.int .i64 kd, .int .i64 fr, .int .i64 tn, .int .i64 (plI (hasP 0 kd) op), .int .i64 (plI (hasP 1 kd) fo), .string (str (plB (hasP 2 kd) ky)), .int .i64 (plI (hasP 3 kd) bk), .slice none 0 0, .slice none 0 0, .slice none 0 0] 32 :: Blk b_r [.int .i64 0, .int .i64 0, .int .i64 0, .int .i64 0, .int .i64 0, .string ⟨#[]⟩, .int .i64 0, .slice none 0 0, .slice none 0 0, .slice none 0 0] 32 :: R) w) ?_ ?_
    ·
     refine c_split hf rfl ?_ ?_
     ·
      intro hc
      have h1 := has_t (by decide) hc
      refine c_region ?_
      refine fA hf hS fb32_6 ?_; clear hf; intro a hf
      refine sR hf hS (rd_ld hf ag3) ?_; clear hf; intro a hf
      refine fA hf hS fb32_6 ?_; clear hf; intro a hf
      refine sS hf hS sz3 ?_
      clear hf hS; intro a w hf hS
      refine done_l ?_
      refine t_normal ⟨(hf.backA hj35), (by rw [h1]; exact hS.subA)⟩
     ·
      intro hc
      have h1 := has_f (by decide) hc
      refine c_skip ?_
      refine t_normal ⟨(hf.backA hj35), (by rw [h1]; exact hS.subA)⟩
    ·
     clear hf hS; intro a w hf hS; (try dsimp only [List.cons_append, List.nil_append] at hf)
     refine t_normal (c_seq (c_seq (c_region ?_)))
     refine mN hf hS ?_; clear hf; intro a hf
     refine sR hf hS (rd_and hf rfl rfl rfl (and_parts kd 4 16 (by decide) (by decide))) ?_; clear hf; intro a hf
     refine sR hf hS (rd_neq hf rfl rfl rfl) ?_; clear hf; intro a hf
     refine done_l (t_normal ?_)
     have hj41 := Keep.ofA hf [(42, 44)]
     refine c_joinK (n := 58) hj41 [] (fun w => Sat W (Blk b_m [.int .i64 kd, .int .i64 fr, .int .i64 tn, .int .i64 op, .int .i64 fo, .string (str ky), .int .i64 bk, .slice qe es.length ce, .slice qd ds.length cd, .slice qm ms.length cm] 32 :: Blk b_o [.int .i64 kd, .int .i64 fr, .int .i64 tn, .int .i64 (plI (hasP 0 kd) op), .int .i64 (plI (hasP 1 kd) fo), .string (str (plB (hasP 2 kd) ky)), .int .i64 (plI (hasP 3 kd) bk), slv (plS (hasP 4 kd) (qe, ce, es)), .slice none 0 0, .slice none 0 0] 32 :: Blk b_r [.int .i64 0, .int .i64 0, .int .i64 0, .int .i64 0, .int .i64 0, .string ⟨#[]⟩, .int .i64 0, .slice none 0 0, .slice none 0 0, .slice none 0 0] 32 :: R) w) ?_ ?_
     ·
      refine c_split hf rfl ?_ ?_
      ·
       intro hc
       have h1 := has_t (by decide) hc
       refine c_region ?_
       refine fA hf hS fb32_7 ?_; clear hf; intro a hf
       refine sR hf hS (rd_ld hf ag28) ?_; clear hf; intro a hf
       refine fA hf hS fb32_7 ?_; clear hf; intro a hf
       refine sS hf hS sz28 ?_
       clear hf hS; intro a w hf hS
       refine done_l ?_
       refine t_normal ⟨(hf.backA hj41), (by rw [h1]; exact hS.subA)⟩
      ·
       intro hc
       have h1 := has_f (by decide) hc
       refine c_skip ?_
       refine t_normal ⟨(hf.backA hj41), (by rw [h1]; exact hS.subA)⟩
     ·
      clear hf hS; intro a w hf hS; (try dsimp only [List.cons_append, List.nil_append] at hf)
      refine t_normal (c_seq (c_seq (c_region ?_)))
      refine mN hf hS ?_; clear hf; intro a hf
      refine sR hf hS (rd_and hf rfl rfl rfl (and_parts kd 5 32 (by decide) (by decide))) ?_; clear hf; intro a hf
      refine sR hf hS (rd_neq hf rfl rfl rfl) ?_; clear hf; intro a hf
      refine done_l (t_normal ?_)
      have hj47 := Keep.ofA hf [(48, 50)]
      refine c_joinK (n := 58) hj47 [] (fun w => Sat W (Blk b_m [.int .i64 kd, .int .i64 fr, .int .i64 tn, .int .i64 op, .int .i64 fo, .string (str ky), .int .i64 bk, .slice qe es.length ce, .slice qd ds.length cd, .slice qm ms.length cm] 32 :: Blk b_o [.int .i64 kd, .int .i64 fr, .int .i64 tn, .int .i64 (plI (hasP 0 kd) op), .int .i64 (plI (hasP 1 kd) fo), .string (str (plB (hasP 2 kd) ky)), .int .i64 (plI (hasP 3 kd) bk), slv (plS (hasP 4 kd) (qe, ce, es)), slv (plS (hasP 5 kd) (qd, cd, ds)), .slice none 0 0] 32 :: Blk b_r [.int .i64 0, .int .i64 0, .int .i64 0, .int .i64 0, .int .i64 0, .string ⟨#[]⟩, .int .i64 0, .slice none 0 0, .slice none 0 0, .slice none 0 0] 32 :: R) w) ?_ ?_
      ·
       refine c_split hf rfl ?_ ?_
       ·
        intro hc
        have h1 := has_t (by decide) hc
        refine c_region ?_
        refine fA hf hS fb32_8 ?_; clear hf; intro a hf
        refine sR hf hS (rd_ld hf ag29) ?_; clear hf; intro a hf
        refine fA hf hS fb32_8 ?_; clear hf; intro a hf
        refine sS hf hS sz29 ?_
        clear hf hS; intro a w hf hS
        refine done_l ?_
        refine t_normal ⟨(hf.backA hj47), (by rw [h1]; exact hS.subA)⟩
       ·
        intro hc
        have h1 := has_f (by decide) hc
        refine c_skip ?_
        refine t_normal ⟨(hf.backA hj47), (by rw [h1]; exact hS.subA)⟩
      ·
       clear hf hS; intro a w hf hS; (try dsimp only [List.cons_append, List.nil_append] at hf)
       refine t_normal (c_seq (c_seq (c_region ?_)))
       refine mN hf hS ?_; clear hf; intro a hf
       refine sR hf hS (rd_and hf rfl rfl rfl (and_parts kd 6 64 (by decide) (by decide))) ?_; clear hf; intro a hf
       refine sR hf hS (rd_neq hf rfl rfl rfl) ?_; clear hf; intro a hf
       refine done_l (t_normal ?_)
       have hj53 := Keep.ofA hf [(54, 56)]
       refine c_joinK (n := 58) hj53 [] (fun w => Sat W (Blk b_m [.int .i64 kd, .int .i64 fr, .int .i64 tn, .int .i64 op, .int .i64 fo, .string (str ky), .int .i64 bk, .slice qe es.length ce, .slice qd ds.length cd, .slice qm ms.length cm] 32 :: Blk b_o [.int .i64 kd, .int .i64 fr, .int .i64 tn, .int .i64 (plI (hasP 0 kd) op), .int .i64 (plI (hasP 1 kd) fo), .string (str (plB (hasP 2 kd) ky)), .int .i64 (plI (hasP 3 kd) bk), slv (plS (hasP 4 kd) (qe, ce, es)), slv (plS (hasP 5 kd) (qd, cd, ds)), slv (plS (hasP 6 kd) (qm, cm, ms))] 32 :: Blk b_r [.int .i64 0, .int .i64 0, .int .i64 0, .int .i64 0, .int .i64 0, .string ⟨#[]⟩, .int .i64 0, .slice none 0 0, .slice none 0 0, .slice none 0 0] 32 :: R) w) ?_ ?_
       ·
        refine c_split hf rfl ?_ ?_
        ·
         intro hc
         have h1 := has_t (by decide) hc
         refine c_region ?_
         refine fA hf hS fb32_9 ?_; clear hf; intro a hf
         refine sR hf hS (rd_ld hf ag30) ?_; clear hf; intro a hf
         refine fA hf hS fb32_9 ?_; clear hf; intro a hf
         refine sS hf hS sz30 ?_
         clear hf hS; intro a w hf hS
         refine done_l ?_
         refine t_normal ⟨(hf.backA hj53), (by rw [h1]; exact hS.subA)⟩
        ·
         intro hc
         have h1 := has_f (by decide) hc
         refine c_skip ?_
         refine t_normal ⟨(hf.backA hj53), (by rw [h1]; exact hS.subA)⟩
       ·
        clear hf hS; intro a w hf hS; (try dsimp only [List.cons_append, List.nil_append] at hf)
        refine t_normal (c_seq (c_region ?_))
        refine sR hf hS (rd_ldN hf ag32 sz32) ?_; clear hf; intro a hf
        refine sS hf hS sz32 ?_
        clear hf hS; intro a w hf hS
        refine done_l (t_normal (c_ret ?_))
        refine e_res1 hf.defers rfl (res_cellN hf rfl ag32 sz32 hS (by repeat (first | exact Sel.head | apply Sel.tail)) (by repeat (first | exact Seg.nil | apply Seg.cons | apply Seg.succ)) .nil) ?_
        refine ⟨?_, hS.subA⟩
        clear hf hS
        rfl

theorem May1_c (ky : List UInt8) (s0 s1 s2 s3 s4 s5 s6 s7 : Int) (xs : List ValT) (xq : Option Addr) (xc : Nat) {W : World} {R : List HP} {w : World} (hS : Sat W (R) w) (hv : ∀ w, Sat W R w → ValsAt w (xq, xc, xs)) : Calls Tryz.prog 62 [.agg #[.string (str ky), .int .i64 s0, .int .i64 s1, .int .i64 s2, .int .i64 s3, .int .i64 s4, .int .i64 s5, .int .i64 s6, .int .i64 s7, .slice xq xs.length xc]].toArray w (Ret fun v w' => v = .bool (!mayEnt (ky, [s0, s1, s2, s3, s4, s5, s6, s7], xs.map pVal)) ∧ Sat W R w') := by
 refine fn_start 6 Tryz.func62 rfl rfl rfl ?_
 intro a hf
 refine c_seq (c_region ?_)
 refine step_l (st_box hf (Wn.none rfl) hS rfl rfl (by rfl) rfl rfl ?_)
 clear hf hS; intro b_1 a w hf hS
 refine aN hf hS ?_; clear hf; intro a hf
 refine done_l (t_normal (c_seq (c_region ?_)))
 refine sR hf hS (rd_ldN hf ag58 sz58) ?_; clear hf; intro a hf
 refine step_l (st_call hf (Wn.none rfl) rfl rfl rfl fn63 (EMay_c _ _ _ _ _ _ _ _ _ _ _ _ hS (fun _ h => hv _ (h.subA))) rfl rfl ?_)
 clear hf hS; rintro v a w ⟨rfl, hS⟩ hf
 refine nT hf hS ?_; clear hf; intro a hf
 refine aN hf hS ?_; clear hf; intro a hf
 refine done_l (t_normal (c_ret ?_))
 refine eT hf ?_
 refine ⟨?_, hS.subA⟩
 clear hf hS
 rfl

theorem IxEntry_c (es : List EntT) (q : Option Addr) (c : Nat) {W : World} {R : List HP} {w : World} (hS : Sat W (R) w) (hv : ∀ w, Sat W R w → EntsAt w (q, c, es)) (hl : es.length ≤ 9223372036854775806) : Calls Tryz.prog 84 [.slice q es.length c, .func (.func 62) #[] #[]].toArray w (Ret fun v w' => ∃ r : Int, v = .int .i64 r ∧ decide (r ≥ 0) = !(es.map pEnt).all mayEnt ∧ Sat W R w') := by
 refine fn_start 19 Tryz.func84 rfl rfl rfl ?_
 intro a hf
 refine c_seq (c_region ?_)
 refine aN hf hS ?_; clear hf; intro a hf
 refine done_l (t_normal (c_seq (c_seq (c_region ?_))))
 refine mN hf hS ?_; clear hf; intro a hf
 refine sR hf hS (rd_len hf rfl rfl Tryz.underlying28) ?_; clear hf; intro a hf
 refine mN hf hS ?_; clear hf; intro a hf
 refine done_l (t_normal (c_block ?_))
 have hk0 := Keep.ofA hf [(4, 5), (8, 18)]
 refine c_loopK hk0 (α := Nat) (fun k => [(8, .int .i64 (k : Nat))]) (fun k w => Sat W (R) w ∧ k ≤ es.length ∧ ((es.map pEnt).take k).all mayEnt = true) (fun k => es.length - k) 0 ((hf.keep hk0).kb hf 8 rfl (by first | rfl | exact int_eq (by omega))) ⟨hS.subA, ⟨by omega, rfl⟩⟩ ?_
 clear hf hS; rintro k a w hf ⟨hS, ⟨hk, hok⟩⟩; (try dsimp only [List.cons_append, List.nil_append] at hf)
 refine c_seq (c_region ?_)
 refine sB hf hS (rd_lss hf rfl rfl rfl) ?_ ?_
 ·
  clear hf; intro hc1 a hf
  obtain ⟨x, hget⟩ := get_of_lt (l := es) (k := k) (by omega) rfl; obtain ⟨ad, rfl⟩ := (hv _ (hS.subA)).some (by omega); have h8 := ((hv _ (hS.subA)).in hget).1; have hvx := fun w h => ((hv w h).in hget).2; obtain ⟨ky, ⟨seen, ⟨xq, xc, xs⟩, _⟩, _⟩ := x; obtain ⟨s0, s1, s2, s3, s4, s5, s6, s7, rfl⟩ := len8 h8
  refine done_l (t_normal (c_seq ?_))
  refine c_true hf rfl ?_
  refine c_skip (t_normal (c_seq (c_block (c_seq (c_region ?_)))))
  iterate 2 ((first | refine mN hf hS ?_ | refine aN hf hS ?_); clear hf; intro a hf)
  refine done_l (t_normal (c_seq (c_region ?_)))
  iterate 3 (refine mN hf hS ?_; clear hf; intro a hf)
  refine sR hf hS ((by first | exact rd_indexAddrN hf rfl rfl rfl Tryz.underlying28 sz58 (by omega) | exact rd_indexAddr hf rfl rfl rfl Tryz.underlying28 sz58 (by first | decide | omega) (by omega))) ?_; clear hf; intro a hf
  refine sR hf hS (rd_loadN hf rfl rfl ag58 sz58 (by intro _ h; exact (show AggAt _ _ _ [.string (str ky), .int .i64 s0, .int .i64 s1, .int .i64 s2, .int .i64 s3, .int .i64 s4, .int .i64 s5, .int .i64 s6, .int .i64 s7, .slice xq xs.length xc] from (hv _ (h.subA)).el hget))) ?_; clear hf; intro a hf
  refine step_l (st_call hf (Wn.none rfl) rfl rfl rfl fn62 (May1_c ky s0 s1 s2 s3 s4 s5 s6 s7 xs xq xc hS (fun _ h => hvx _ (h.subA))) rfl rfl ?_)
  clear hf hS; rintro v a w ⟨rfl, hS⟩ hf
  first | refine split_dec (d := 16) hf rfl ?_ ?_ | refine split_bool (d := 16) hf rfl ?_ ?_
  ·
   clear hf; intro hc2 hf
   have hEN : mayEnt (ky, [s0, s1, s2, s3, s4, s5, s6, s7], xs.map pVal) = false := by simpa using hc2
   refine done_l (t_normal ?_)
   refine c_true hf rfl ?_
   refine c_seq (c_region ?_)
   iterate 2 ((first | refine mN hf hS ?_ | refine aN hf hS ?_); clear hf; intro a hf)
   refine done_l (t_normal (c_ret (b_ret (t_ret (t_ret (b_ret (t_ret ?_)))))))
   refine eT hf ?_
   exact ⟨_, rfl, by rw [all_no (map_get pEnt hget) hEN]; exact decide_eq_true (by omega), hS.subA⟩
  clear hf; intro hc2 hf
  have hEN : mayEnt (ky, [s0, s1, s2, s3, s4, s5, s6, s7], xs.map pVal) = true := by simpa using hc2
  refine done_l (t_normal ?_)
  refine c_false hf rfl ?_
  refine c_skip (b_normal (t_normal (c_region ?_)))
  refine sP hf hS ?_; clear hf; intro a hf
  refine mN hf hS ?_; clear hf; intro a hf
  refine done_l ?_
  refine t_normal ⟨k + 1, ((hf.backA hk0).kb hf 8 rfl (by first | rfl | exact int_eq (by omega))), ⟨hS.subA, ⟨by omega, all_step (map_get pEnt hget) hok hEN⟩⟩, by first | omega | (simp only []; omega)⟩
 clear hf; intro hc1 a hf
 obtain rfl : k = es.length := by omega
 refine done_l (t_normal (c_seq ?_))
 refine c_false hf rfl ?_
 refine c_exit (t_exit (t_exit (b_exit (t_normal (c_seq (c_region ?_))))))
 refine aN hf hS ?_; clear hf; intro a hf
 refine done_l (t_normal (c_ret ?_))
 refine eT hf ?_
 exact ⟨_, rfl, by rw [all_done hok]; rfl, hS.subA⟩

theorem CtEntry_c (es : List EntT) (q : Option Addr) (c : Nat) {W : World} {R : List HP} {w : World} (hS : Sat W (R) w) (hv : ∀ w, Sat W R w → EntsAt w (q, c, es)) (hl : es.length ≤ 9223372036854775806) : Calls Tryz.prog 61 [.slice q es.length c, .func (.func 62) #[] #[]].toArray w (Ret fun v w' => v = .bool (!(es.map pEnt).all mayEnt) ∧ Sat W R w') := by
 refine fn_start 9 Tryz.func61 rfl rfl rfl ?_
 intro a hf
 refine c_seq (c_region ?_)
 refine aN hf hS ?_; clear hf; intro a hf
 refine done_l (t_normal (c_seq (c_region ?_)))
 iterate 2 (refine mN hf hS ?_; clear hf; intro a hf)
 refine step_l (st_call hf (Wn.none rfl) rfl rfl rfl fn84 (IxEntry_c _ _ _ hS hv (by omega)) rfl rfl ?_)
 clear hf hS; rintro v a w ⟨r, rfl, hr, hS⟩ hf
 refine sR hf hS (rd_geq hf rfl rfl rfl) ?_; clear hf; intro a hf
 refine aN hf hS ?_; clear hf; intro a hf
 refine done_l (t_normal (c_ret ?_))
 refine eT hf ?_
 exact ⟨congrArg Value.bool hr, hS.subA⟩

theorem May2_c (ky : List UInt8) (s0 s1 s2 s3 s4 s5 s6 s7 : Int) (xs : List DotT) (xq : Option Addr) (xc : Nat) {W : World} {R : List HP} {w : World} (hS : Sat W (R) w) (hv : ∀ w, Sat W R w → DotsAt w (xq, xc, xs)) : Calls Tryz.prog 65 [.agg #[.string (str ky), .int .i64 s0, .int .i64 s1, .int .i64 s2, .int .i64 s3, .int .i64 s4, .int .i64 s5, .int .i64 s6, .int .i64 s7, .slice xq xs.length xc]].toArray w (Ret fun v w' => v = .bool (!mayDig (ky, [s0, s1, s2, s3, s4, s5, s6, s7], xs.map pDot)) ∧ Sat W R w') := by
 refine fn_start 6 Tryz.func65 rfl rfl rfl ?_
 intro a hf
 refine c_seq (c_region ?_)
 refine step_l (st_box hf (Wn.none rfl) hS rfl rfl (by rfl) rfl rfl ?_)
 clear hf hS; intro b_1 a w hf hS
 refine aN hf hS ?_; clear hf; intro a hf
 refine done_l (t_normal (c_seq (c_region ?_)))
 refine sR hf hS (rd_ldN hf ag61 sz61) ?_; clear hf; intro a hf
 refine step_l (st_call hf (Wn.none rfl) rfl rfl rfl fn66 (DMay_c _ _ _ _ _ _ _ _ _ _ _ _ hS (fun _ h => hv _ (h.subA))) rfl rfl ?_)
 clear hf hS; rintro v a w ⟨rfl, hS⟩ hf
 refine nT hf hS ?_; clear hf; intro a hf
 refine aN hf hS ?_; clear hf; intro a hf
 refine done_l (t_normal (c_ret ?_))
 refine eT hf ?_
 refine ⟨?_, hS.subA⟩
 clear hf hS
 rfl

theorem IxDigest_c (ds : List DigT) (q : Option Addr) (c : Nat) {W : World} {R : List HP} {w : World} (hS : Sat W (R) w) (hv : ∀ w, Sat W R w → DigsAt w (q, c, ds)) (hl : ds.length ≤ 9223372036854775806) : Calls Tryz.prog 86 [.slice q ds.length c, .func (.func 65) #[] #[]].toArray w (Ret fun v w' => ∃ r : Int, v = .int .i64 r ∧ decide (r ≥ 0) = !(ds.map pDig).all mayDig ∧ Sat W R w') := by
 refine fn_start 19 Tryz.func86 rfl rfl rfl ?_
 intro a hf
 refine c_seq (c_region ?_)
 refine aN hf hS ?_; clear hf; intro a hf
 refine done_l (t_normal (c_seq (c_seq (c_region ?_))))
 refine mN hf hS ?_; clear hf; intro a hf
 refine sR hf hS (rd_len hf rfl rfl Tryz.underlying29) ?_; clear hf; intro a hf
 refine mN hf hS ?_; clear hf; intro a hf
 refine done_l (t_normal (c_block ?_))
 have hk0 := Keep.ofA hf [(4, 5), (8, 18)]
 refine c_loopK hk0 (α := Nat) (fun k => [(8, .int .i64 (k : Nat))]) (fun k w => Sat W (R) w ∧ k ≤ ds.length ∧ ((ds.map pDig).take k).all mayDig = true) (fun k => ds.length - k) 0 ((hf.keep hk0).kb hf 8 rfl (by first | rfl | exact int_eq (by omega))) ⟨hS.subA, ⟨by omega, rfl⟩⟩ ?_
 clear hf hS; rintro k a w hf ⟨hS, ⟨hk, hok⟩⟩; (try dsimp only [List.cons_append, List.nil_append] at hf)
 refine c_seq (c_region ?_)
 refine sB hf hS (rd_lss hf rfl rfl rfl) ?_ ?_
 ·
  clear hf; intro hc1 a hf
  obtain ⟨x, hget⟩ := get_of_lt (l := ds) (k := k) (by omega) rfl; obtain ⟨ad, rfl⟩ := (hv _ (hS.subA)).some (by omega); have h8 := ((hv _ (hS.subA)).in hget).1; have hvx := fun w h => ((hv w h).in hget).2; obtain ⟨ky, seen, ⟨xq, xc, xs⟩, _⟩ := x; obtain ⟨s0, s1, s2, s3, s4, s5, s6, s7, rfl⟩ := len8 h8
  refine done_l (t_normal (c_seq ?_))
  refine c_true hf rfl ?_
  refine c_skip (t_normal (c_seq (c_block (c_seq (c_region ?_)))))
  iterate 2 ((first | refine mN hf hS ?_ | refine aN hf hS ?_); clear hf; intro a hf)
  refine done_l (t_normal (c_seq (c_region ?_)))
  iterate 3 (refine mN hf hS ?_; clear hf; intro a hf)
  refine sR hf hS ((by first | exact rd_indexAddrN hf rfl rfl rfl Tryz.underlying29 sz61 (by omega) | exact rd_indexAddr hf rfl rfl rfl Tryz.underlying29 sz61 (by first | decide | omega) (by omega))) ?_; clear hf; intro a hf
  refine sR hf hS (rd_loadN hf rfl rfl ag61 sz61 (by intro _ h; exact (show AggAt _ _ _ [.string (str ky), .int .i64 s0, .int .i64 s1, .int .i64 s2, .int .i64 s3, .int .i64 s4, .int .i64 s5, .int .i64 s6, .int .i64 s7, .slice xq xs.length xc] from (hv _ (h.subA)).el hget))) ?_; clear hf; intro a hf
  refine step_l (st_call hf (Wn.none rfl) rfl rfl rfl fn65 (May2_c ky s0 s1 s2 s3 s4 s5 s6 s7 xs xq xc hS (fun _ h => hvx _ (h.subA))) rfl rfl ?_)
  clear hf hS; rintro v a w ⟨rfl, hS⟩ hf
  first | refine split_dec (d := 16) hf rfl ?_ ?_ | refine split_bool (d := 16) hf rfl ?_ ?_
  ·
   clear hf; intro hc2 hf
   have hEN : mayDig (ky, [s0, s1, s2, s3, s4, s5, s6, s7], xs.map pDot) = false := by simpa using hc2
   refine done_l (t_normal ?_)
   refine c_true hf rfl ?_
   refine c_seq (c_region ?_)
   iterate 2 ((first | refine mN hf hS ?_ | refine aN hf hS ?_); clear hf; intro a hf)
   refine done_l (t_normal (c_ret (b_ret (t_ret (t_ret (b_ret (t_ret ?_)))))))
   refine eT hf ?_
   exact ⟨_, rfl, by rw [all_no (map_get pDig hget) hEN]; exact decide_eq_true (by omega), hS.subA⟩
  clear hf; intro hc2 hf
  have hEN : mayDig (ky, [s0, s1, s2, s3, s4, s5, s6, s7], xs.map pDot) = true := by simpa using hc2
  refine done_l (t_normal ?_)
  refine c_false hf rfl ?_
  refine c_skip (b_normal (t_normal (c_region ?_)))
  refine sP hf hS ?_; clear hf; intro a hf
  refine mN hf hS ?_; clear hf; intro a hf
  refine done_l ?_
  refine t_normal ⟨k + 1, ((hf.backA hk0).kb hf 8 rfl (by first | rfl | exact int_eq (by omega))), ⟨hS.subA, ⟨by omega, all_step (map_get pDig hget) hok hEN⟩⟩, by first | omega | (simp only []; omega)⟩
 clear hf; intro hc1 a hf
 obtain rfl : k = ds.length := by omega
 refine done_l (t_normal (c_seq ?_))
 refine c_false hf rfl ?_
 refine c_exit (t_exit (t_exit (b_exit (t_normal (c_seq (c_region ?_))))))
 refine aN hf hS ?_; clear hf; intro a hf
 refine done_l (t_normal (c_ret ?_))
 refine eT hf ?_
 exact ⟨_, rfl, by rw [all_done hok]; rfl, hS.subA⟩

theorem CtDigest_c (ds : List DigT) (q : Option Addr) (c : Nat) {W : World} {R : List HP} {w : World} (hS : Sat W (R) w) (hv : ∀ w, Sat W R w → DigsAt w (q, c, ds)) (hl : ds.length ≤ 9223372036854775806) : Calls Tryz.prog 64 [.slice q ds.length c, .func (.func 65) #[] #[]].toArray w (Ret fun v w' => v = .bool (!(ds.map pDig).all mayDig) ∧ Sat W R w') := by
 refine fn_start 9 Tryz.func64 rfl rfl rfl ?_
 intro a hf
 refine c_seq (c_region ?_)
 refine aN hf hS ?_; clear hf; intro a hf
 refine done_l (t_normal (c_seq (c_region ?_)))
 iterate 2 (refine mN hf hS ?_; clear hf; intro a hf)
 refine step_l (st_call hf (Wn.none rfl) rfl rfl rfl fn86 (IxDigest_c _ _ _ hS hv (by omega)) rfl rfl ?_)
 clear hf hS; rintro v a w ⟨r, rfl, hr, hS⟩ hf
 refine sR hf hS (rd_geq hf rfl rfl rfl) ?_; clear hf; intro a hf
 refine aN hf hS ?_; clear hf; intro a hf
 refine done_l (t_normal (c_ret ?_))
 refine eT hf ?_
 exact ⟨congrArg Value.bool hr, hS.subA⟩

theorem May3_c (dn dc : Int) {W : World} {R : List HP} {w : World} (hS : Sat W (R) w)  : Calls Tryz.prog 68 [.agg #[.int .i64 dn, .int .i64 dc]].toArray w (Ret fun v w' => v = .bool (!mayMem (dn, dc)) ∧ Sat W R w') := by
 refine fn_start 6 Tryz.func68 rfl rfl rfl ?_
 intro a hf
 refine c_seq (c_region ?_)
 refine step_l (st_box hf (Wn.none rfl) hS rfl rfl (by rfl) rfl rfl ?_)
 clear hf hS; intro b_1 a w hf hS
 refine aN hf hS ?_; clear hf; intro a hf
 refine done_l (t_normal (c_seq (c_region ?_)))
 refine sR hf hS (rd_ldN hf ag73 sz73) ?_; clear hf; intro a hf
 refine step_l (st_call hf (Wn.none rfl) rfl rfl rfl fn69 (MMay_c _ _ hS) rfl rfl ?_)
 clear hf hS; rintro v a w ⟨rfl, hS⟩ hf
 refine nT hf hS ?_; clear hf; intro a hf
 refine aN hf hS ?_; clear hf; intro a hf
 refine done_l (t_normal (c_ret ?_))
 refine eT hf ?_
 refine ⟨?_, hS.subA⟩
 clear hf hS
 rfl

theorem IxMember_c (ms : List MemT) (q : Option Addr) (c : Nat) {W : World} {R : List HP} {w : World} (hS : Sat W (R) w) (hv : ∀ w, Sat W R w → DotsAt w (q, c, ms)) (hl : ms.length ≤ 9223372036854775806) : Calls Tryz.prog 91 [.slice q ms.length c, .func (.func 68) #[] #[]].toArray w (Ret fun v w' => ∃ r : Int, v = .int .i64 r ∧ decide (r ≥ 0) = !(ms.map pDot).all mayMem ∧ Sat W R w') := by
 refine fn_start 19 Tryz.func91 rfl rfl rfl ?_
 intro a hf
 refine c_seq (c_region ?_)
 refine aN hf hS ?_; clear hf; intro a hf
 refine done_l (t_normal (c_seq (c_seq (c_region ?_))))
 refine mN hf hS ?_; clear hf; intro a hf
 refine sR hf hS (rd_len hf rfl rfl Tryz.underlying30) ?_; clear hf; intro a hf
 refine mN hf hS ?_; clear hf; intro a hf
 refine done_l (t_normal (c_block ?_))
 have hk0 := Keep.ofA hf [(4, 5), (8, 18)]
 refine c_loopK hk0 (α := Nat) (fun k => [(8, .int .i64 (k : Nat))]) (fun k w => Sat W (R) w ∧ k ≤ ms.length ∧ ((ms.map pDot).take k).all mayMem = true) (fun k => ms.length - k) 0 ((hf.keep hk0).kb hf 8 rfl (by first | rfl | exact int_eq (by omega))) ⟨hS.subA, ⟨by omega, rfl⟩⟩ ?_
 clear hf hS; rintro k a w hf ⟨hS, ⟨hk, hok⟩⟩; (try dsimp only [List.cons_append, List.nil_append] at hf)
 refine c_seq (c_region ?_)
 refine sB hf hS (rd_lss hf rfl rfl rfl) ?_ ?_
 ·
  clear hf; intro hc1 a hf
  obtain ⟨x, hget⟩ := get_of_lt (l := ms) (k := k) (by omega) rfl; obtain ⟨ad, rfl⟩ := (hv _ (hS.subA)).some (by omega); obtain ⟨dn, dc, _⟩ := x
  refine done_l (t_normal (c_seq ?_))
  refine c_true hf rfl ?_
  refine c_skip (t_normal (c_seq (c_block (c_seq (c_region ?_)))))
  iterate 2 ((first | refine mN hf hS ?_ | refine aN hf hS ?_); clear hf; intro a hf)
  refine done_l (t_normal (c_seq (c_region ?_)))
  iterate 3 (refine mN hf hS ?_; clear hf; intro a hf)
  refine sR hf hS ((by first | exact rd_indexAddrN hf rfl rfl rfl Tryz.underlying30 sz73 (by omega) | exact rd_indexAddr hf rfl rfl rfl Tryz.underlying30 sz73 (by first | decide | omega) (by omega))) ?_; clear hf; intro a hf
  refine sR hf hS (rd_loadN hf rfl rfl ag73 sz73 (by intro _ h; exact (show AggAt _ _ _ [.int .i64 dn, .int .i64 dc] from (hv _ (h.subA)).el hget))) ?_; clear hf; intro a hf
  refine step_l (st_call hf (Wn.none rfl) rfl rfl rfl fn68 (May3_c dn dc hS) rfl rfl ?_)
  clear hf hS; rintro v a w ⟨rfl, hS⟩ hf
  first | refine split_dec (d := 16) hf rfl ?_ ?_ | refine split_bool (d := 16) hf rfl ?_ ?_
  ·
   clear hf; intro hc2 hf
   have hEN : mayMem (dn, dc) = false := by simpa using hc2
   refine done_l (t_normal ?_)
   refine c_true hf rfl ?_
   refine c_seq (c_region ?_)
   iterate 2 ((first | refine mN hf hS ?_ | refine aN hf hS ?_); clear hf; intro a hf)
   refine done_l (t_normal (c_ret (b_ret (t_ret (t_ret (b_ret (t_ret ?_)))))))
   refine eT hf ?_
   exact ⟨_, rfl, by rw [all_no (map_get pDot hget) hEN]; exact decide_eq_true (by omega), hS.subA⟩
  clear hf; intro hc2 hf
  have hEN : mayMem (dn, dc) = true := by simpa using hc2
  refine done_l (t_normal ?_)
  refine c_false hf rfl ?_
  refine c_skip (b_normal (t_normal (c_region ?_)))
  refine sP hf hS ?_; clear hf; intro a hf
  refine mN hf hS ?_; clear hf; intro a hf
  refine done_l ?_
  refine t_normal ⟨k + 1, ((hf.backA hk0).kb hf 8 rfl (by first | rfl | exact int_eq (by omega))), ⟨hS.subA, ⟨by omega, all_step (map_get pDot hget) hok hEN⟩⟩, by first | omega | (simp only []; omega)⟩
 clear hf; intro hc1 a hf
 obtain rfl : k = ms.length := by omega
 refine done_l (t_normal (c_seq ?_))
 refine c_false hf rfl ?_
 refine c_exit (t_exit (t_exit (b_exit (t_normal (c_seq (c_region ?_))))))
 refine aN hf hS ?_; clear hf; intro a hf
 refine done_l (t_normal (c_ret ?_))
 refine eT hf ?_
 exact ⟨_, rfl, by rw [all_done hok]; rfl, hS.subA⟩

theorem CtMember_c (ms : List MemT) (q : Option Addr) (c : Nat) {W : World} {R : List HP} {w : World} (hS : Sat W (R) w) (hv : ∀ w, Sat W R w → DotsAt w (q, c, ms)) (hl : ms.length ≤ 9223372036854775806) : Calls Tryz.prog 67 [.slice q ms.length c, .func (.func 68) #[] #[]].toArray w (Ret fun v w' => v = .bool (!(ms.map pDot).all mayMem) ∧ Sat W R w') := by
 refine fn_start 9 Tryz.func67 rfl rfl rfl ?_
 intro a hf
 refine c_seq (c_region ?_)
 refine aN hf hS ?_; clear hf; intro a hf
 refine done_l (t_normal (c_seq (c_region ?_)))
 iterate 2 (refine mN hf hS ?_; clear hf; intro a hf)
 refine step_l (st_call hf (Wn.none rfl) rfl rfl rfl fn91 (IxMember_c _ _ _ hS hv (by omega)) rfl rfl ?_)
 clear hf hS; rintro v a w ⟨r, rfl, hr, hS⟩ hf
 refine sR hf hS (rd_geq hf rfl rfl rfl) ?_; clear hf; intro a hf
 refine aN hf hS ?_; clear hf; intro a hf
 refine done_l (t_normal (c_ret ?_))
 refine eT hf ?_
 exact ⟨congrArg Value.bool hr, hS.subA⟩

end Go.Proofs.YtcflbdpjoanbgaaGreat
