/-
  The statement MessageMay, walked.
  Conditions: none.
-/
import Derived.Test.YtglmimbfelakbaaOwn1
import Derived.Test.YtglmimbfelakbaaRSam1
namespace Go.Proofs.Ytglmimbfelakbaa
open Go Go.Sl
set_option linter.unusedVariables false
set_option linter.unusedSimpArgs false
theorem fn12 : fnB Try.prog 12 = true := by kernel_rfl
theorem fn13 : fnB Try.prog 13 = true := by kernel_rfl
theorem fn17 : fnB Try.prog 17 = true := by kernel_rfl
theorem fn8 : fnB Try.prog 8 = true := by kernel_rfl
theorem fn9 : fnB Try.prog 9 = true := by kernel_rfl
def fl_5_3_0 : List Flt := [⟨4, 5, 26, [.int .i64 0, .int .i64 0, .int .i64 0, .int .i64 0, .int .i64 0, .string ⟨#[]⟩, .int .i64 0, .slice none 0 0, .slice none 0 0, .slice none 0 0]⟩, ⟨5, 6, 26, [.int .i64 0, .int .i64 0, .int .i64 0, .int .i64 0, .int .i64 0, .string ⟨#[]⟩, .int .i64 0, .slice none 0 0, .slice none 0 0, .slice none 0 0]⟩]
set_option maxRecDepth 100000 in
set_option maxHeartbeats 4000000 in
theorem MessageMay_c (kd fr tn op fo : Int) (ky : List UInt8) (bk : Int) (es : List EntT) (qe : Option Addr) (ce : Nat) (ds : List DigT) (qd : Option Addr) (cd : Nat) (ms : List MemT) (qm : Option Addr) (cm : Nat) (kd2 fr2 tn2 op2 fo2 : Int) (ky2 : List UInt8) (bk2 : Int) (es2 : List EntT) (qe2 : Option Addr) (ce2 : Nat) (ds2 : List DigT) (qd2 : Option Addr) (cd2 : Nat) (ms2 : List MemT) (qm2 : Option Addr) (cm2 : Nat) {W : World} {R : List HP} {w : World} (hS : Sat W (R) w) (hve : ∀ w, Sat W R w → EntsAt w (qe, ce, es)) (hvd : ∀ w, Sat W R w → DigsAt w (qd, cd, ds)) (hvm : ∀ w, Sat W R w → DotsAt w (qm, cm, ms)) (hle : es.length ≤ 9223372036854775806) (hld : ds.length ≤ 9223372036854775806) (hlm : ms.length ≤ 9223372036854775806) (hve2 : ∀ w, Sat W R w → EntsAt w (qe2, ce2, es2)) (hvd2 : ∀ w, Sat W R w → DigsAt w (qd2, cd2, ds2)) (hvm2 : ∀ w, Sat W R w → DotsAt w (qm2, cm2, ms2)) (hle2 : es2.length ≤ 9223372036854775806) (hld2 : ds2.length ≤ 9223372036854775806) (hlm2 : ms2.length ≤ 9223372036854775806) : Calls Try.prog 5 [.agg #[.int .i64 kd, .int .i64 fr, .int .i64 tn, .int .i64 op, .int .i64 fo, .string (str ky), .int .i64 bk, .slice qe es.length ce, .slice qd ds.length cd, .slice qm ms.length cm], .agg #[.int .i64 kd2, .int .i64 fr2, .int .i64 tn2, .int .i64 op2, .int .i64 fo2, .string (str ky2), .int .i64 bk2, .slice qe2 es2.length ce2, .slice qd2 ds2.length cd2, .slice qm2 ms2.length cm2]].toArray w (Ret fun v w' => v = .bool true ∧ Sat W R w') := by
  refine fn_start 123 Try.func5 rfl rfl rfl ?_
  intro a hf
  have hyE1 := plS_at (Q := EntsAt _) (b := hasP 4 kd) (hve _ hS) (EntsAt.nil _); have hyD1 := plS_at (Q := DigsAt _) (b := hasP 5 kd) (hvd _ hS) (DigsAt.nil _); have hyM1 := plS_at (Q := DotsAt _) (b := hasP 6 kd) (hvm _ hS) (DotsAt.nil _)
  have hyE2 := plS_at (Q := EntsAt _) (b := hasP 4 kd) (hve _ hS) (EntsAt.nil _); have hyD2 := plS_at (Q := DigsAt _) (b := hasP 5 kd) (hvd _ hS) (DigsAt.nil _); have hyM2 := plS_at (Q := DotsAt _) (b := hasP 6 kd) (hvm _ hS) (DotsAt.nil _)
  obtain ⟨op', hop⟩ : ∃ x, plI (hasP 0 kd) op = x := ⟨_, rfl⟩; obtain ⟨fo', hfo⟩ : ∃ x, plI (hasP 1 kd) fo = x := ⟨_, rfl⟩; obtain ⟨ky', hky⟩ : ∃ x, plB (hasP 2 kd) ky = x := ⟨_, rfl⟩; obtain ⟨bk', hbk⟩ : ∃ x, plI (hasP 3 kd) bk = x := ⟨_, rfl⟩; obtain ⟨⟨qe', ce', es'⟩, hes⟩ : ∃ x, plS (hasP 4 kd) (qe, ce, es) = x := ⟨_, rfl⟩; obtain ⟨⟨qd', cd', ds'⟩, hds⟩ : ∃ x, plS (hasP 5 kd) (qd, cd, ds) = x := ⟨_, rfl⟩; obtain ⟨⟨qm', cm', ms'⟩, hms⟩ : ∃ x, plS (hasP 6 kd) (qm, cm, ms) = x := ⟨_, rfl⟩; have hpl := plP_eq (fr := fr) (tn := tn) hop hfo hky hbk hes hds hms; dsimp only at hpl; have hve' : ∀ w, Sat W R w → EntsAt w (qe', ce', es') := (by intro w h; rw [← hes]; exact plS_at (hve w h) (EntsAt.nil w)); have hvd' : ∀ w, Sat W R w → DigsAt w (qd', cd', ds') := (by intro w h; rw [← hds]; exact plS_at (hvd w h) (DigsAt.nil w)); have hvm' : ∀ w, Sat W R w → DotsAt w (qm', cm', ms') := (by intro w h; rw [← hms]; exact plS_at (hvm w h) (DotsAt.nil w)); have hE0 : hasP 4 kd = false → es'.length = 0 := plS_len0 hes
  refine c_seq ?_
  refine c_region ?_
  refine step_l (st_box hf (Wn.none rfl) hS rfl rfl (by rfl) rfl rfl ?_)
  clear hf hS; intro b_m a w hf hS
  refine step_l (st_box hf (Wn.none rfl) hS rfl rfl (by rfl) rfl rfl ?_)
  clear hf hS; intro b_n a w hf hS
  refine step_l (st_rd hf (Wn.none rfl) (rd_assign hf rfl rfl) hS rfl rfl ?_)
  clear hf; intro a hf
  refine done_l ?_
  refine t_normal ?_
  refine c_seq ?_
  refine c_seq ?_
  refine c_region ?_
  refine step_l (st_rd hf (Wn.none rfl) (rd_loadN hf rfl rfl ag26 sz26 (by intro _ h; exact loadN_of h (by repeat (first | exact Sel.head | apply Sel.tail)) (by repeat (first | exact Seg.nil | apply Seg.cons | apply Seg.succ)) )) hS rfl rfl ?_)
  clear hf; intro a hf
  refine step_l (st_call hf (Wn.none rfl) rfl rfl rfl fn8 (light_c _ _ _ _ _ _ _ _ _ _ _ _ _ _ _ _  hS (fun _ h => hve _ (h.sub (by repeat (first | exact Sub.refl | exact Sub.none | exact Sub.behind | (apply Sub.cons; (focus ((repeat (first | exact Sel.head | apply Sel.tail)); done))) | apply Sub.skip)))) (fun _ h => hvd _ (h.sub (by repeat (first | exact Sub.refl | exact Sub.none | exact Sub.behind | (apply Sub.cons; (focus ((repeat (first | exact Sel.head | apply Sel.tail)); done))) | apply Sub.skip)))) (fun _ h => hvm _ (h.sub (by repeat (first | exact Sub.refl | exact Sub.none | exact Sub.behind | (apply Sub.cons; (focus ((repeat (first | exact Sel.head | apply Sel.tail)); done))) | apply Sub.skip)))) (by omega) (by omega) (by omega)) rfl rfl ?_)
  clear hf hS; rintro v a w ⟨bb3, rfl, hbb3, hS⟩ hf
  first | refine split_dec (d := 8) hf rfl ?_ ?_ | refine split_bool (d := 8) hf rfl ?_ ?_
  · clear hf; intro hc4 hf
    first
    | (first | exact Bool.noConfusion hc4 | exact absurd rfl hc4; done)
    | (
      refine step_l (st_rd hf (Wn.none rfl) (rd_not hf rfl rfl) hS rfl rfl ?_)
      clear hf; intro a hf
      refine step_l (st_rd hf (Wn.none rfl) (rd_move hf rfl rfl) hS rfl rfl ?_)
      clear hf; intro a hf
      refine step_l (st_rd hf (Wn.some hf rfl rfl rfl rfl) (rd_loadN hf rfl rfl ag26 sz26 (by intro _ h; exact loadN_of h (by repeat (first | exact Sel.head | apply Sel.tail)) (by repeat (first | exact Seg.nil | apply Seg.cons | apply Seg.succ)) )) hS rfl rfl ?_)
      clear hf; intro a hf
      refine step_l (st_call hf (Wn.some hf rfl rfl rfl rfl) rfl rfl rfl fn8 (light_c _ _ _ _ _ _ _ _ _ _ _ _ _ _ _ _  hS (fun _ h => hve2 _ (h.sub (by repeat (first | exact Sub.refl | exact Sub.none | exact Sub.behind | (apply Sub.cons; (focus ((repeat (first | exact Sel.head | apply Sel.tail)); done))) | apply Sub.skip)))) (fun _ h => hvd2 _ (h.sub (by repeat (first | exact Sub.refl | exact Sub.none | exact Sub.behind | (apply Sub.cons; (focus ((repeat (first | exact Sel.head | apply Sel.tail)); done))) | apply Sub.skip)))) (fun _ h => hvm2 _ (h.sub (by repeat (first | exact Sub.refl | exact Sub.none | exact Sub.behind | (apply Sub.cons; (focus ((repeat (first | exact Sel.head | apply Sel.tail)); done))) | apply Sub.skip)))) (by omega) (by omega) (by omega)) rfl rfl ?_)
      clear hf hS; rintro v a w ⟨bb5, rfl, hbb5, hS⟩ hf
      first | refine split_dec (d := 12) hf rfl ?_ ?_ | refine split_bool (d := 12) hf rfl ?_ ?_
      · clear hf; intro hc6 hf
        first
        | (first | exact Bool.noConfusion hc6 | exact absurd rfl hc6; done)
        | (
          refine step_l (st_rd hf (Wn.some hf rfl rfl rfl rfl) (rd_not hf rfl rfl) hS rfl rfl ?_)
          clear hf; intro a hf
          refine step_l (st_rd hf (Wn.none rfl) (rd_pick_f hf rfl rfl rfl) hS rfl rfl ?_)
          clear hf; intro a hf
          refine done_l ?_
          refine t_normal ?_
          refine c_false hf rfl ?_
          refine c_skip ?_
          refine t_normal ?_
          refine c_seq ?_
          refine any_begin (S := Sat W (Blk b_m [.int .i64 kd, .int .i64 fr, .int .i64 tn, .int .i64 op, .int .i64 fo, .string (str ky), .int .i64 bk, .slice qe es.length ce, .slice qd ds.length cd, .slice qm ms.length cm] 26 :: R)) mixed (hS.drew.sub (by repeat (first | exact Sub.refl | exact Sub.none | exact Sub.behind | (apply Sub.cons; (focus ((repeat (first | exact Sel.head | apply Sel.tail)); done))) | apply Sub.skip))) ?_
          have hT : Sat W (Blk b_m [.int .i64 kd, .int .i64 fr, .int .i64 tn, .int .i64 op, .int .i64 fo, .string (str ky), .int .i64 bk, .slice qe es.length ce, .slice qd ds.length cd, .slice qm ms.length cm] 26 :: R) _ := hS.drew.sub (by repeat (first | exact Sub.refl | exact Sub.none | exact Sub.behind | (apply Sub.cons; (focus ((repeat (first | exact Sel.head | apply Sel.tail)); done))) | apply Sub.skip))
          replace hS := hS.drew
          refine any_take (i := 0) hf rfl (by kernel_rfl) (by kernel_rfl) (by kernel_rfl) (fun _ _ _ h => h) (Wn.none rfl) (rd_loadN hf rfl rfl ag26 sz26 (by intro _ h; exact loadN_of h (by repeat (first | exact Sel.head | apply Sel.tail)) (by repeat (first | exact Seg.nil | apply Seg.cons | apply Seg.succ)) )) hT rfl rfl ?_
          clear hf; intro a hf
          refine any_take (i := 2) hf rfl (by kernel_rfl) (by kernel_rfl) (by kernel_rfl) (fun _ _ _ h => h) (Wn.none rfl) (rd_loadN hf rfl rfl ag26 sz26 (by intro _ h; exact loadN_of h (by repeat (first | exact Sel.head | apply Sel.tail)) (by repeat (first | exact Seg.nil | apply Seg.cons | apply Seg.succ)) )) hT rfl rfl ?_
          clear hf; intro a hf
          refine float_first (fs := fl_5_3_0) (F := 3) (i := 1) (Rs := R) rfl (by unfold fl_5_3_0; exact (.cons rfl rfl rfl zr26 (by rfl) rfl rfl (.cons rfl rfl rfl zr26 (by rfl) rfl rfl .nil))) (by decide) (by rfl) (by kernel_rfl) rfl hf hS (by repeat (first | exact Pre.nil | apply Pre.cons)) (fun os w h => h.sub (by repeat (first | exact Sub.refl | exact Sub.none | exact Sub.behind | (apply Sub.cons; (focus ((repeat (first | exact Sel.head | apply Sel.tail)); done))) | apply Sub.skip))) ?_
          clear hf hS hT; intro os a w ho hf hS; simp only [List.cons_append, List.nil_append] at hf hS
          have hT : Sat W (Blk b_m [.int .i64 kd, .int .i64 fr, .int .i64 tn, .int .i64 op, .int .i64 fo, .string (str ky), .int .i64 bk, .slice qe es.length ce, .slice qd ds.length cd, .slice qm ms.length cm] 26 :: R) _ := hS.sub (by repeat (first | exact Sub.refl | exact Sub.none | exact Sub.behind | (apply Sub.cons; (focus ((repeat (first | exact Sel.head | apply Sel.tail)); done))) | apply Sub.skip))
          refine st_call hf (Wn.none rfl) rfl rfl rfl fn13 (Pln_c _ _ _ _ _ _ _ _ _ _ _ _ _ _ _ _  hS (fun _ h => hve _ (h.sub (by repeat (first | exact Sub.refl | exact Sub.none | exact Sub.behind | (apply Sub.cons; (focus ((repeat (first | exact Sel.head | apply Sel.tail)); done))) | apply Sub.skip)))) (fun _ h => hvd _ (h.sub (by repeat (first | exact Sub.refl | exact Sub.none | exact Sub.behind | (apply Sub.cons; (focus ((repeat (first | exact Sel.head | apply Sel.tail)); done))) | apply Sub.skip)))) (fun _ h => hvm _ (h.sub (by repeat (first | exact Sub.refl | exact Sub.none | exact Sub.behind | (apply Sub.cons; (focus ((repeat (first | exact Sel.head | apply Sel.tail)); done))) | apply Sub.skip))))) rfl rfl ?_
          clear hf hS; rintro v a w ⟨q1, c1, L1, q2, c2, L2, q3, c3, L3, rfl, hL1, hL2, hL3, hS⟩ hf; have hp1 : (⟨kd, fr, tn, plI (hasP 0 kd) op, plI (hasP 1 kd) fo, plB (hasP 2 kd) ky, plI (hasP 3 kd) bk, L1.map pEnt, L2.map pDig, L3.map pDot⟩ : PMsg) = plP (⟨kd, fr, tn, op, fo, ky, bk, es.map pEnt, ds.map pDig, ms.map pDot⟩ : PMsg) := (by unfold plP; rw [hL1, hL2, hL3]); have hpp1 : plP (⟨kd, fr, tn, plI (hasP 0 kd) op, plI (hasP 1 kd) fo, plB (hasP 2 kd) ky, plI (hasP 3 kd) bk, L1.map pEnt, L2.map pDig, L3.map pDot⟩ : PMsg) = plP (⟨kd, fr, tn, op, fo, ky, bk, es.map pEnt, ds.map pDig, ms.map pDot⟩ : PMsg) := (by rw [hp1, plP_plP]); have hLE1 := hL1.trans (plS_map pEnt _ (qe, ce, es)).symm; have hLD1 := hL2.trans (plS_map pDig _ (qd, cd, ds)).symm; have hLM1 := map_len (hL3.trans (plS_map pDot _ (qm, cm, ms)).symm); have hq1 := map_len (hL1.trans (plS_map pEnt _ (qe, ce, es)).symm); have hq2 := map_len (hL2.trans (plS_map pDig _ (qd, cd, ds)).symm); have hq3 := map_len (hL3.trans (plS_map pDot _ (qm, cm, ms)).symm); rw [hes] at hq1; rw [hds] at hq2; rw [hms] at hq3; dsimp only at hq1 hq2 hq3
          replace hT := hS.sub' hT (by repeat (first | exact Sub.refl | exact Sub.none | exact Sub.behind | (apply Sub.cons; (focus ((repeat (first | exact Sel.head | apply Sel.tail)); done))) | apply Sub.skip))
          refine ⟨hT, ?_⟩
          refine float_next (fs := fl_5_3_0) (F := 2) (i := 3) (Rs := R) rfl (by unfold fl_5_3_0; exact (.cons rfl rfl rfl zr26 (by rfl) rfl rfl (.cons rfl rfl rfl zr26 (by rfl) rfl rfl .nil))) (by decide) ho hf (by repeat (first | exact Pre.nil | apply Pre.cons)) hS (by repeat (first | exact Pre.nil | apply Pre.cons)) (by rfl) (by kernel_rfl) (fun os w h => h.sub (by repeat (first | exact Sub.refl | exact Sub.none | exact Sub.behind | (apply Sub.cons; (focus ((repeat (first | exact Sel.head | apply Sel.tail)); done))) | apply Sub.skip))) ?_
          clear hf hS hT ho; intro os a w ho hf hS; simp only [List.cons_append, List.nil_append] at hf hS
          have hT : Sat W (Blk b_m [.int .i64 kd, .int .i64 fr, .int .i64 tn, .int .i64 op, .int .i64 fo, .string (str ky), .int .i64 bk, .slice qe es.length ce, .slice qd ds.length cd, .slice qm ms.length cm] 26 :: R) _ := hS.sub (by repeat (first | exact Sub.refl | exact Sub.none | exact Sub.behind | (apply Sub.cons; (focus ((repeat (first | exact Sel.head | apply Sel.tail)); done))) | apply Sub.skip))
          refine st_call hf (Wn.none rfl) rfl rfl rfl fn14 (RPlain_c _ _ _ _ _ _ _ _ _ _ _ _ _ _ _ _  hS) rfl rfl ?_
          clear hf hS; rintro v a w ⟨rfl, hS⟩ hf; rw [hop, hfo, hky, hbk, hes, hds, hms] at hf; dsimp only [slv] at hf
          replace hT := hS.sub' hT (by repeat (first | exact Sub.refl | exact Sub.none | exact Sub.behind | (apply Sub.cons; (focus ((repeat (first | exact Sel.head | apply Sel.tail)); done))) | apply Sub.skip))
          refine ⟨hT, ?_⟩
          refine float_last (fs := fl_5_3_0) (F := 1) (Rs := R) (by unfold fl_5_3_0; exact (.cons rfl rfl rfl zr26 (by rfl) rfl rfl (.cons rfl rfl rfl zr26 (by rfl) rfl rfl .nil))) (by decide) ho hf (by repeat (first | exact Pre.nil | apply Pre.cons)) hS (by repeat (first | exact Pre.nil | apply Pre.cons)) (by rfl) (by kernel_rfl) (fun os w h => h.sub (by repeat (first | exact Sub.refl | exact Sub.none | exact Sub.behind | (apply Sub.cons; (focus ((repeat (first | exact Sel.head | apply Sel.tail)); done))) | apply Sub.skip))) ?_
          clear hf hS hT ho; intro bs a w hb hf hS; obtain ⟨b_p, b_q, rfl⟩ := len_2 hb; clear hb; simp only [fl_5_3_0, fslots, fpcs, List.map_cons, List.map_nil, List.cons_append, List.nil_append] at hf hS
          have hT : Sat W (Blk b_m [.int .i64 kd, .int .i64 fr, .int .i64 tn, .int .i64 op, .int .i64 fo, .string (str ky), .int .i64 bk, .slice qe es.length ce, .slice qd ds.length cd, .slice qm ms.length cm] 26 :: R) _ := hS.sub (by repeat (first | exact Sub.refl | exact Sub.none | exact Sub.behind | (apply Sub.cons; (focus ((repeat (first | exact Sel.head | apply Sel.tail)); done))) | apply Sub.skip))
          refine any_one (i := 6) rfl (by kernel_rfl) (st_store hf (Wn.none rfl) hS rfl rfl rfl (by rfl) sz26 (by rfl) (by rfl) (by repeat (first | exact Sel.head | apply Sel.tail)) (by repeat (first | exact Put.nil | apply Put.cons | apply Put.succ)) rfl ?_)
          clear hf hS; intro a w hf hS
          replace hT := hS.sub' hT (by repeat (first | exact Sub.refl | exact Sub.none | exact Sub.behind | (apply Sub.cons; (focus ((repeat (first | exact Sel.head | apply Sel.tail)); done))) | apply Sub.skip))
          refine ⟨hT, ?_⟩
          refine any_one (i := 7) rfl (by kernel_rfl) (st_store hf (Wn.none rfl) hS rfl rfl rfl (by rfl) sz26 (by rfl) (by rfl) (by repeat (first | exact Sel.head | apply Sel.tail)) (by repeat (first | exact Put.nil | apply Put.cons | apply Put.succ)) rfl ?_)
          clear hf hS; intro a w hf hS
          replace hT := hS.sub' hT (by repeat (first | exact Sub.refl | exact Sub.none | exact Sub.behind | (apply Sub.cons; (focus ((repeat (first | exact Sel.head | apply Sel.tail)); done))) | apply Sub.skip))
          refine ⟨hT, ?_⟩
          refine any_done (by kernel_rfl) ?_
          refine t_normal ?_
          refine c_seq ?_
          refine c_seq ?_
          refine c_region ?_
          refine step_l (st_rd hf (Wn.none rfl) (rd_fieldAddrB hf rfl rfl fb26_0 rfl) hS rfl rfl ?_)
          clear hf; intro a hf
          refine step_l (st_rd hf (Wn.none rfl) (rd_load1 hf rfl rfl ag3 (by intro _ h; first | exact h.cell (by repeat (first | exact Sel.head | apply Sel.tail)) (by rfl))) hS rfl rfl ?_)
          clear hf; intro a hf
          refine step_l (st_rd hf (Wn.none rfl) (rd_fieldAddrB hf rfl rfl fb26_0 rfl) hS rfl rfl ?_)
          clear hf; intro a hf
          refine step_l (st_rd hf (Wn.none rfl) (rd_load1 hf rfl rfl ag3 (by intro _ h; first | exact h.cell (by repeat (first | exact Sel.head | apply Sel.tail)) (by rfl))) hS rfl rfl ?_)
          clear hf; intro a hf
          refine step_l (st_rdB hf (Wn.none rfl) (rd_neq hf rfl rfl rfl) hS rfl rfl ?_ ?_)
          · clear hf; intro hc9 a hf
            exact absurd (by first | rfl | exact hop | exact hfo | exact hky | exact hbk) hc9
          clear hf; intro hc9 a hf
          first
          | (first | exact Bool.noConfusion hc9 | exact absurd rfl hc9; done)
          | (
            refine step_l (st_rd hf (Wn.none rfl) (rd_move hf rfl rfl) hS rfl rfl ?_)
            clear hf; intro a hf
            refine step_l (st_rd hf (Wn.some hf rfl rfl rfl rfl) (rd_fieldAddrB hf rfl rfl fb26_1 rfl) hS rfl rfl ?_)
            clear hf; intro a hf
            refine step_l (st_rd hf (Wn.some hf rfl rfl rfl rfl) (rd_load1 hf rfl rfl ag3 (by intro _ h; first | exact h.cell (by repeat (first | exact Sel.head | apply Sel.tail)) (by rfl))) hS rfl rfl ?_)
            clear hf; intro a hf
            refine step_l (st_rd hf (Wn.some hf rfl rfl rfl rfl) (rd_fieldAddrB hf rfl rfl fb26_1 rfl) hS rfl rfl ?_)
            clear hf; intro a hf
            refine step_l (st_rd hf (Wn.some hf rfl rfl rfl rfl) (rd_load1 hf rfl rfl ag3 (by intro _ h; first | exact h.cell (by repeat (first | exact Sel.head | apply Sel.tail)) (by rfl))) hS rfl rfl ?_)
            clear hf; intro a hf
            refine step_l (st_rdB hf (Wn.some hf rfl rfl rfl rfl) (rd_neq hf rfl rfl rfl) hS rfl rfl ?_ ?_)
            · clear hf; intro hc10 a hf
              exact absurd (by first | rfl | exact hop | exact hfo | exact hky | exact hbk) hc10
            clear hf; intro hc10 a hf
            first
            | (first | exact Bool.noConfusion hc10 | exact absurd rfl hc10; done)
            | (
              refine step_l (st_rd hf (Wn.none rfl) (rd_pick_f hf rfl rfl rfl) hS rfl rfl ?_)
              clear hf; intro a hf
              refine step_l (st_rd hf (Wn.none rfl) (rd_move hf rfl rfl) hS rfl rfl ?_)
              clear hf; intro a hf
              refine step_l (st_rd hf (Wn.some hf rfl rfl rfl rfl) (rd_fieldAddrB hf rfl rfl fb26_2 rfl) hS rfl rfl ?_)
              clear hf; intro a hf
              refine step_l (st_rd hf (Wn.some hf rfl rfl rfl rfl) (rd_load1 hf rfl rfl ag3 (by intro _ h; first | exact h.cell (by repeat (first | exact Sel.head | apply Sel.tail)) (by rfl))) hS rfl rfl ?_)
              clear hf; intro a hf
              refine step_l (st_rd hf (Wn.some hf rfl rfl rfl rfl) (rd_fieldAddrB hf rfl rfl fb26_2 rfl) hS rfl rfl ?_)
              clear hf; intro a hf
              refine step_l (st_rd hf (Wn.some hf rfl rfl rfl rfl) (rd_load1 hf rfl rfl ag3 (by intro _ h; first | exact h.cell (by repeat (first | exact Sel.head | apply Sel.tail)) (by rfl))) hS rfl rfl ?_)
              clear hf; intro a hf
              refine step_l (st_rdB hf (Wn.some hf rfl rfl rfl rfl) (rd_neq hf rfl rfl rfl) hS rfl rfl ?_ ?_)
              · clear hf; intro hc11 a hf
                exact absurd (by first | rfl | exact hop | exact hfo | exact hky | exact hbk) hc11
              clear hf; intro hc11 a hf
              first
              | (first | exact Bool.noConfusion hc11 | exact absurd rfl hc11; done)
              | (
                refine step_l (st_rd hf (Wn.none rfl) (rd_pick_f hf rfl rfl rfl) hS rfl rfl ?_)
                clear hf; intro a hf
                refine step_l (st_rd hf (Wn.none rfl) (rd_move hf rfl rfl) hS rfl rfl ?_)
                clear hf; intro a hf
                refine step_l (st_rd hf (Wn.some hf rfl rfl rfl rfl) (rd_fieldAddrB hf rfl rfl fb26_3 rfl) hS rfl rfl ?_)
                clear hf; intro a hf
                refine step_l (st_rd hf (Wn.some hf rfl rfl rfl rfl) (rd_load1 hf rfl rfl ag2 (by intro _ h; first | exact h.cell (by repeat (first | exact Sel.head | apply Sel.tail)) (by rfl))) hS rfl rfl ?_)
                clear hf; intro a hf
                refine step_l (st_rd hf (Wn.some hf rfl rfl rfl rfl) (rd_fieldAddrB hf rfl rfl fb26_3 rfl) hS rfl rfl ?_)
                clear hf; intro a hf
                refine step_l (st_rd hf (Wn.some hf rfl rfl rfl rfl) (rd_load1 hf rfl rfl ag2 (by intro _ h; first | exact h.cell (by repeat (first | exact Sel.head | apply Sel.tail)) (by rfl))) hS rfl rfl ?_)
                clear hf; intro a hf
                refine step_l (st_rdB hf (Wn.some hf rfl rfl rfl rfl) (rd_neq hf rfl rfl rfl) hS rfl rfl ?_ ?_)
                · clear hf; intro hc12 a hf
                  exact absurd (by first | rfl | exact hop | exact hfo | exact hky | exact hbk) hc12
                clear hf; intro hc12 a hf
                first
                | (first | exact Bool.noConfusion hc12 | exact absurd rfl hc12; done)
                | (
                  refine step_l (st_rd hf (Wn.none rfl) (rd_pick_f hf rfl rfl rfl) hS rfl rfl ?_)
                  clear hf; intro a hf
                  refine step_l (st_rd hf (Wn.none rfl) (rd_move hf rfl rfl) hS rfl rfl ?_)
                  clear hf; intro a hf
                  refine step_l (st_rd hf (Wn.some hf rfl rfl rfl rfl) (rd_fieldAddrB hf rfl rfl fb26_4 rfl) hS rfl rfl ?_)
                  clear hf; intro a hf
                  refine step_l (st_rd hf (Wn.some hf rfl rfl rfl rfl) (rd_load1 hf rfl rfl ag3 (by intro _ h; first | exact h.cell (by repeat (first | exact Sel.head | apply Sel.tail)) (by rfl))) hS rfl rfl ?_)
                  clear hf; intro a hf
                  refine step_l (st_rd hf (Wn.some hf rfl rfl rfl rfl) (rd_fieldAddrB hf rfl rfl fb26_4 rfl) hS rfl rfl ?_)
                  clear hf; intro a hf
                  refine step_l (st_rd hf (Wn.some hf rfl rfl rfl rfl) (rd_load1 hf rfl rfl ag3 (by intro _ h; first | exact h.cell (by repeat (first | exact Sel.head | apply Sel.tail)) (by rfl))) hS rfl rfl ?_)
                  clear hf; intro a hf
                  refine step_l (st_rdB hf (Wn.some hf rfl rfl rfl rfl) (rd_neq hf rfl rfl rfl) hS rfl rfl ?_ ?_)
                  · clear hf; intro hc13 a hf
                    exact absurd (by first | rfl | exact hop | exact hfo | exact hky | exact hbk) hc13
                  clear hf; intro hc13 a hf
                  first
                  | (first | exact Bool.noConfusion hc13 | exact absurd rfl hc13; done)
                  | (
                    refine step_l (st_rd hf (Wn.none rfl) (rd_pick_f hf rfl rfl rfl) hS rfl rfl ?_)
                    clear hf; intro a hf
                    refine step_l (st_rd hf (Wn.none rfl) (rd_move hf rfl rfl) hS rfl rfl ?_)
                    clear hf; intro a hf
                    refine step_l (st_rd hf (Wn.some hf rfl rfl rfl rfl) (rd_fieldAddrB hf rfl rfl fb26_5 rfl) hS rfl rfl ?_)
                    clear hf; intro a hf
                    refine step_l (st_rd hf (Wn.some hf rfl rfl rfl rfl) (rd_load1 hf rfl rfl ag9 (by intro _ h; first | exact h.cell (by repeat (first | exact Sel.head | apply Sel.tail)) (by rfl))) hS rfl rfl ?_)
                    clear hf; intro a hf
                    refine step_l (st_rd hf (Wn.some hf rfl rfl rfl rfl) (rd_fieldAddrB hf rfl rfl fb26_5 rfl) hS rfl rfl ?_)
                    clear hf; intro a hf
                    refine step_l (st_rd hf (Wn.some hf rfl rfl rfl rfl) (rd_load1 hf rfl rfl ag9 (by intro _ h; first | exact h.cell (by repeat (first | exact Sel.head | apply Sel.tail)) (by rfl))) hS rfl rfl ?_)
                    clear hf; intro a hf
                    refine step_l (st_rdB hf (Wn.some hf rfl rfl rfl rfl) (rd_neqS hf rfl rfl rfl) hS rfl rfl ?_ ?_)
                    · clear hf; intro hc14 a hf
                      exact absurd (by first | rfl | exact hop | exact hfo | exact hky | exact hbk) hc14
                    clear hf; intro hc14 a hf
                    first
                    | (first | exact Bool.noConfusion hc14 | exact absurd rfl hc14; done)
                    | (
                      refine step_l (st_rd hf (Wn.none rfl) (rd_pick_f hf rfl rfl rfl) hS rfl rfl ?_)
                      clear hf; intro a hf
                      refine step_l (st_rd hf (Wn.none rfl) (rd_move hf rfl rfl) hS rfl rfl ?_)
                      clear hf; intro a hf
                      refine step_l (st_rd hf (Wn.some hf rfl rfl rfl rfl) (rd_fieldAddrB hf rfl rfl fb26_6 rfl) hS rfl rfl ?_)
                      clear hf; intro a hf
                      refine step_l (st_rd hf (Wn.some hf rfl rfl rfl rfl) (rd_load1 hf rfl rfl ag3 (by intro _ h; first | exact h.cell (by repeat (first | exact Sel.head | apply Sel.tail)) (by rfl))) hS rfl rfl ?_)
                      clear hf; intro a hf
                      refine step_l (st_rd hf (Wn.some hf rfl rfl rfl rfl) (rd_fieldAddrB hf rfl rfl fb26_6 rfl) hS rfl rfl ?_)
                      clear hf; intro a hf
                      refine step_l (st_rd hf (Wn.some hf rfl rfl rfl rfl) (rd_load1 hf rfl rfl ag3 (by intro _ h; first | exact h.cell (by repeat (first | exact Sel.head | apply Sel.tail)) (by rfl))) hS rfl rfl ?_)
                      clear hf; intro a hf
                      refine step_l (st_rdB hf (Wn.some hf rfl rfl rfl rfl) (rd_neq hf rfl rfl rfl) hS rfl rfl ?_ ?_)
                      · clear hf; intro hc15 a hf
                        exact absurd (by first | rfl | exact hop | exact hfo | exact hky | exact hbk) hc15
                      clear hf; intro hc15 a hf
                      first
                      | (first | exact Bool.noConfusion hc15 | exact absurd rfl hc15; done)
                      | (
                        refine step_l (st_rd hf (Wn.none rfl) (rd_pick_f hf rfl rfl rfl) hS rfl rfl ?_)
                        clear hf; intro a hf
                        refine step_l (st_rd hf (Wn.none rfl) (rd_move hf rfl rfl) hS rfl rfl ?_)
                        clear hf; intro a hf
                        refine step_l (st_rd hf (Wn.some hf rfl rfl rfl rfl) (rd_fieldAddrB hf rfl rfl fb26_7 rfl) hS rfl rfl ?_)
                        clear hf; intro a hf
                        refine step_l (st_rd hf (Wn.some hf rfl rfl rfl rfl) (rd_load1 hf rfl rfl ag22 (by intro _ h; first | exact h.cell (by repeat (first | exact Sel.head | apply Sel.tail)) (by rfl))) hS rfl rfl ?_)
                        clear hf; intro a hf
                        refine step_l (st_rd hf (Wn.some hf rfl rfl rfl rfl) (rd_len hf rfl rfl Try.underlying22) hS rfl rfl ?_)
                        clear hf; intro a hf
                        refine step_l (st_rd hf (Wn.some hf rfl rfl rfl rfl) (rd_fieldAddrB hf rfl rfl fb26_7 rfl) hS rfl rfl ?_)
                        clear hf; intro a hf
                        refine step_l (st_rd hf (Wn.some hf rfl rfl rfl rfl) (rd_load1 hf rfl rfl ag22 (by intro _ h; first | exact h.cell (by repeat (first | exact Sel.head | apply Sel.tail)) (by rfl))) hS rfl rfl ?_)
                        clear hf; intro a hf
                        refine step_l (st_rd hf (Wn.some hf rfl rfl rfl rfl) (rd_len hf rfl rfl Try.underlying22) hS rfl rfl ?_)
                        clear hf; intro a hf
                        refine step_l (st_rdB hf (Wn.some hf rfl rfl rfl rfl) (rd_neq hf rfl rfl rfl) hS rfl rfl ?_ ?_)
                        · clear hf; intro hc16 a hf
                          exact absurd (by omega) hc16
                        clear hf; intro hc16 a hf
                        first
                        | (first | exact Bool.noConfusion hc16 | exact absurd rfl hc16; done)
                        | (
                          refine step_l (st_rd hf (Wn.none rfl) (rd_pick_f hf rfl rfl rfl) hS rfl rfl ?_)
                          clear hf; intro a hf
                          refine step_l (st_rd hf (Wn.none rfl) (rd_move hf rfl rfl) hS rfl rfl ?_)
                          clear hf; intro a hf
                          refine step_l (st_rd hf (Wn.some hf rfl rfl rfl rfl) (rd_fieldAddrB hf rfl rfl fb26_8 rfl) hS rfl rfl ?_)
                          clear hf; intro a hf
                          refine step_l (st_rd hf (Wn.some hf rfl rfl rfl rfl) (rd_load1 hf rfl rfl ag23 (by intro _ h; first | exact h.cell (by repeat (first | exact Sel.head | apply Sel.tail)) (by rfl))) hS rfl rfl ?_)
                          clear hf; intro a hf
                          refine step_l (st_rd hf (Wn.some hf rfl rfl rfl rfl) (rd_len hf rfl rfl Try.underlying23) hS rfl rfl ?_)
                          clear hf; intro a hf
                          refine step_l (st_rd hf (Wn.some hf rfl rfl rfl rfl) (rd_fieldAddrB hf rfl rfl fb26_8 rfl) hS rfl rfl ?_)
                          clear hf; intro a hf
                          refine step_l (st_rd hf (Wn.some hf rfl rfl rfl rfl) (rd_load1 hf rfl rfl ag23 (by intro _ h; first | exact h.cell (by repeat (first | exact Sel.head | apply Sel.tail)) (by rfl))) hS rfl rfl ?_)
                          clear hf; intro a hf
                          refine step_l (st_rd hf (Wn.some hf rfl rfl rfl rfl) (rd_len hf rfl rfl Try.underlying23) hS rfl rfl ?_)
                          clear hf; intro a hf
                          refine step_l (st_rdB hf (Wn.some hf rfl rfl rfl rfl) (rd_neq hf rfl rfl rfl) hS rfl rfl ?_ ?_)
                          · clear hf; intro hc17 a hf
                            exact absurd (by omega) hc17
                          clear hf; intro hc17 a hf
                          first
                          | (first | exact Bool.noConfusion hc17 | exact absurd rfl hc17; done)
                          | (
                            refine step_l (st_rd hf (Wn.none rfl) (rd_pick_f hf rfl rfl rfl) hS rfl rfl ?_)
                            clear hf; intro a hf
                            refine step_l (st_rd hf (Wn.none rfl) (rd_move hf rfl rfl) hS rfl rfl ?_)
                            clear hf; intro a hf
                            refine step_l (st_rd hf (Wn.some hf rfl rfl rfl rfl) (rd_fieldAddrB hf rfl rfl fb26_9 rfl) hS rfl rfl ?_)
                            clear hf; intro a hf
                            refine step_l (st_rd hf (Wn.some hf rfl rfl rfl rfl) (rd_load1 hf rfl rfl ag24 (by intro _ h; first | exact h.cell (by repeat (first | exact Sel.head | apply Sel.tail)) (by rfl))) hS rfl rfl ?_)
                            clear hf; intro a hf
                            refine step_l (st_rd hf (Wn.some hf rfl rfl rfl rfl) (rd_len hf rfl rfl Try.underlying24) hS rfl rfl ?_)
                            clear hf; intro a hf
                            refine step_l (st_rd hf (Wn.some hf rfl rfl rfl rfl) (rd_fieldAddrB hf rfl rfl fb26_9 rfl) hS rfl rfl ?_)
                            clear hf; intro a hf
                            refine step_l (st_rd hf (Wn.some hf rfl rfl rfl rfl) (rd_load1 hf rfl rfl ag24 (by intro _ h; first | exact h.cell (by repeat (first | exact Sel.head | apply Sel.tail)) (by rfl))) hS rfl rfl ?_)
                            clear hf; intro a hf
                            refine step_l (st_rd hf (Wn.some hf rfl rfl rfl rfl) (rd_len hf rfl rfl Try.underlying24) hS rfl rfl ?_)
                            clear hf; intro a hf
                            refine step_l (st_rdB hf (Wn.some hf rfl rfl rfl rfl) (rd_neq hf rfl rfl rfl) hS rfl rfl ?_ ?_)
                            · clear hf; intro hc18 a hf
                              exact absurd (by omega) hc18
                            clear hf; intro hc18 a hf
                            first
                            | (first | exact Bool.noConfusion hc18 | exact absurd rfl hc18; done)
                            | (
                              refine step_l (st_rd hf (Wn.none rfl) (rd_pick_f hf rfl rfl rfl) hS rfl rfl ?_)
                              clear hf; intro a hf
                              refine done_l ?_
                              refine t_normal ?_
                              refine c_false hf rfl ?_
                              refine c_skip ?_
                              refine t_normal ?_
                              refine c_seq ?_
                              refine any_begin mixed hS.drew ?_
                              replace hS := hS.drew
                              have hT := hS
                              refine any_take (i := 0) hf rfl (by kernel_rfl) (by kernel_rfl) (by kernel_rfl) (fun _ _ _ h => h) (Wn.none rfl) (rd_loadN hf rfl rfl ag26 sz26 (by intro _ h; exact loadN_of h (by repeat (first | exact Sel.head | apply Sel.tail)) (by repeat (first | exact Seg.nil | apply Seg.cons | apply Seg.succ)) )) hT rfl rfl ?_
                              clear hf; intro a hf
                              refine any_take (i := 2) hf rfl (by kernel_rfl) (by kernel_rfl) (by kernel_rfl) (fun _ _ _ h => h) (Wn.none rfl) (rd_loadN hf rfl rfl ag26 sz26 (by intro _ h; exact loadN_of h (by repeat (first | exact Sel.head | apply Sel.tail)) (by repeat (first | exact Seg.nil | apply Seg.cons | apply Seg.succ)) )) hT rfl rfl ?_
                              clear hf; intro a hf
                              refine any_one (i := 1) rfl (by kernel_rfl) (st_call hf (Wn.none rfl) rfl rfl rfl fn15 (May_c _ _ _ _ _ _ _ _ _ _ _ _ _ _ _ _ hS (fun _ h => hve _ (h.sub (by repeat (first | exact Sub.refl | exact Sub.none | exact Sub.behind | (apply Sub.cons; (focus ((repeat (first | exact Sel.head | apply Sel.tail)); done))) | apply Sub.skip)))) (fun _ h => hvd _ (h.sub (by repeat (first | exact Sub.refl | exact Sub.none | exact Sub.behind | (apply Sub.cons; (focus ((repeat (first | exact Sel.head | apply Sel.tail)); done))) | apply Sub.skip)))) (fun _ h => hvm _ (h.sub (by repeat (first | exact Sub.refl | exact Sub.none | exact Sub.behind | (apply Sub.cons; (focus ((repeat (first | exact Sel.head | apply Sel.tail)); done))) | apply Sub.skip)))) (by omega) (by omega) (by omega)) rfl rfl ?_)
                              clear hf hS; rintro v a w ⟨rfl, hS⟩ hf
                              replace hT := hS.sub' hT (by repeat (first | exact Sub.refl | exact Sub.none | exact Sub.behind | (apply Sub.cons; (focus ((repeat (first | exact Sel.head | apply Sel.tail)); done))) | apply Sub.skip))
                              refine ⟨hT, ?_⟩
                              refine any_one (i := 3) rfl (by kernel_rfl) (st_call hf (Wn.none rfl) rfl rfl rfl fn16 (RMay_c _ _ _ _ _ _ _ _ _ _ _ _ _ _ _ _ hS (fun _ h => hve _ (h.sub (by repeat (first | exact Sub.refl | exact Sub.none | exact Sub.behind | (apply Sub.cons; (focus ((repeat (first | exact Sel.head | apply Sel.tail)); done))) | apply Sub.skip)))) (fun _ h => hvd _ (h.sub (by repeat (first | exact Sub.refl | exact Sub.none | exact Sub.behind | (apply Sub.cons; (focus ((repeat (first | exact Sel.head | apply Sel.tail)); done))) | apply Sub.skip)))) (fun _ h => hvm _ (h.sub (by repeat (first | exact Sub.refl | exact Sub.none | exact Sub.behind | (apply Sub.cons; (focus ((repeat (first | exact Sel.head | apply Sel.tail)); done))) | apply Sub.skip)))) (by omega) (by omega) (by omega)) rfl rfl ?_)
                              clear hf hS; rintro v a w ⟨rfl, hS⟩ hf
                              replace hT := hS.sub' hT (by repeat (first | exact Sub.refl | exact Sub.none | exact Sub.behind | (apply Sub.cons; (focus ((repeat (first | exact Sel.head | apply Sel.tail)); done))) | apply Sub.skip))
                              refine ⟨hT, ?_⟩
                              refine any_takeB (i := 4) hf rfl (by kernel_rfl) (by kernel_rfl) (by kernel_rfl) (fun _ _ _ _ h => h) (Wn.none rfl) (rd_eqlBool hf rfl rfl rfl Try.underlying4) hT rfl rfl ?_ ?_
                              · clear hf; intro hc19 a hf
                                first
                                | (first | exact Bool.noConfusion hc19 | exact absurd rfl hc19; done)
                                | (
                                  refine any_take (i := 5) hf rfl (by kernel_rfl) (by kernel_rfl) (by kernel_rfl) (fun _ _ _ h => h) (Wn.none rfl) (rd_move hf rfl rfl) hT rfl rfl ?_
                                  clear hf; intro a hf
                                  refine any_take (i := 6) hf rfl (by kernel_rfl) (by kernel_rfl) (by kernel_rfl) (fun _ _ _ h => h) (Wn.some hf rfl rfl rfl rfl) (rd_loadN hf rfl rfl ag26 sz26 (by intro _ h; exact loadN_of h (by repeat (first | exact Sel.head | apply Sel.tail)) (by repeat (first | exact Seg.nil | apply Seg.cons | apply Seg.succ)) )) hT rfl rfl ?_
                                  clear hf; intro a hf
                                  refine any_take (i := 8) hf rfl (by kernel_rfl) (by kernel_rfl) (by kernel_rfl) (fun _ _ _ h => h) (Wn.some hf rfl rfl rfl rfl) (rd_loadN hf rfl rfl ag26 sz26 (by intro _ h; exact loadN_of h (by repeat (first | exact Sel.head | apply Sel.tail)) (by repeat (first | exact Seg.nil | apply Seg.cons | apply Seg.succ)) )) hT rfl rfl ?_
                                  clear hf; intro a hf
                                  refine any_one (i := 7) rfl (by kernel_rfl) (st_call hf (Wn.some hf rfl rfl rfl rfl) rfl rfl rfl fn13 (Pln_c _ _ _ _ _ _ _ _ _ _ _ _ _ _ _ _  hS (fun _ h => hve _ (h.sub (by repeat (first | exact Sub.refl | exact Sub.none | exact Sub.behind | (apply Sub.cons; (focus ((repeat (first | exact Sel.head | apply Sel.tail)); done))) | apply Sub.skip)))) (fun _ h => hvd _ (h.sub (by repeat (first | exact Sub.refl | exact Sub.none | exact Sub.behind | (apply Sub.cons; (focus ((repeat (first | exact Sel.head | apply Sel.tail)); done))) | apply Sub.skip)))) (fun _ h => hvm _ (h.sub (by repeat (first | exact Sub.refl | exact Sub.none | exact Sub.behind | (apply Sub.cons; (focus ((repeat (first | exact Sel.head | apply Sel.tail)); done))) | apply Sub.skip))))) rfl rfl ?_)
                                  clear hf hS; rintro v a w ⟨q4, c4, L4, q5, c5, L5, q6, c6, L6, rfl, hL4, hL5, hL6, hS⟩ hf; have hp2 : (⟨kd, fr, tn, plI (hasP 0 kd) op, plI (hasP 1 kd) fo, plB (hasP 2 kd) ky, plI (hasP 3 kd) bk, L4.map pEnt, L5.map pDig, L6.map pDot⟩ : PMsg) = plP (⟨kd, fr, tn, op, fo, ky, bk, es.map pEnt, ds.map pDig, ms.map pDot⟩ : PMsg) := (by unfold plP; rw [hL4, hL5, hL6]); have hpp2 : plP (⟨kd, fr, tn, plI (hasP 0 kd) op, plI (hasP 1 kd) fo, plB (hasP 2 kd) ky, plI (hasP 3 kd) bk, L4.map pEnt, L5.map pDig, L6.map pDot⟩ : PMsg) = plP (⟨kd, fr, tn, op, fo, ky, bk, es.map pEnt, ds.map pDig, ms.map pDot⟩ : PMsg) := (by rw [hp2, plP_plP]); have hLE2 := hL4.trans (plS_map pEnt _ (qe, ce, es)).symm; have hLD2 := hL5.trans (plS_map pDig _ (qd, cd, ds)).symm; have hLM2 := map_len (hL6.trans (plS_map pDot _ (qm, cm, ms)).symm)
                                  replace hT := hS.sub' hT (by repeat (first | exact Sub.refl | exact Sub.none | exact Sub.behind | (apply Sub.cons; (focus ((repeat (first | exact Sel.head | apply Sel.tail)); done))) | apply Sub.skip))
                                  refine ⟨hT, ?_⟩
                                  refine any_one (i := 9) rfl (by kernel_rfl) (st_call hf (Wn.some hf rfl rfl rfl rfl) rfl rfl rfl fn17 (RMSame_c _ _ _ _ _ _ _ _ _ _ _ _ _ _ _ _ _ _ _ _ _ _ _ _ _ _ _ _ _ _ _ _  hS (fun _ h => h.entR (x := (q4, c4, L4)) (by repeat (first | exact Sel.head | apply Sel.tail)) hyE2 hLE2) (fun _ h => h.digR (x := (q5, c5, L5)) (by repeat (first | exact Sel.head | apply Sel.tail)) hyD2 hLD2) (fun _ h => h.memR (by repeat (first | exact Sel.head | apply Sel.tail)) hyM2 hLM2) (fun _ h => hve _ (h.sub (by repeat (first | exact Sub.refl | exact Sub.none | exact Sub.behind | (apply Sub.cons; (focus ((repeat (first | exact Sel.head | apply Sel.tail)); done))) | apply Sub.skip)))) (fun _ h => hvd _ (h.sub (by repeat (first | exact Sub.refl | exact Sub.none | exact Sub.behind | (apply Sub.cons; (focus ((repeat (first | exact Sel.head | apply Sel.tail)); done))) | apply Sub.skip)))) (fun _ h => hvm _ (h.sub (by repeat (first | exact Sub.refl | exact Sub.none | exact Sub.behind | (apply Sub.cons; (focus ((repeat (first | exact Sel.head | apply Sel.tail)); done))) | apply Sub.skip))))) rfl rfl ?_)
                                  clear hf hS; rintro v a w ⟨rfl, hS⟩ hf
                                  replace hT := hS.sub' hT (by repeat (first | exact Sub.refl | exact Sub.none | exact Sub.behind | (apply Sub.cons; (focus ((repeat (first | exact Sel.head | apply Sel.tail)); done))) | apply Sub.skip))
                                  refine ⟨hT, ?_⟩
                                  first | refine split_dec (d := 103) hf rfl ?_ ?_ | refine split_bool (d := 103) hf rfl ?_ ?_
                                  · clear hf; intro hc20 hf
                                    first
                                    | (first | exact Bool.noConfusion hc20 | exact absurd rfl hc20; done)
                                    | (
                                      refine any_take (i := 10) hf rfl (by kernel_rfl) (by kernel_rfl) (by kernel_rfl) (fun _ _ _ h => h) (Wn.none rfl) (rd_pick_t hf rfl rfl rfl) hT rfl rfl ?_
                                      clear hf; intro a hf
                                      refine any_take (i := 11) hf rfl (by kernel_rfl) (by kernel_rfl) (by kernel_rfl) (fun _ _ _ h => h) (Wn.none rfl) (rd_move hf rfl rfl) hT rfl rfl ?_
                                      clear hf; intro a hf
                                      refine any_take (i := 12) hf rfl (by kernel_rfl) (by kernel_rfl) (by kernel_rfl) (fun _ _ _ h => h) (Wn.some hf rfl rfl rfl rfl) (rd_loadN hf rfl rfl ag26 sz26 (by intro _ h; exact loadN_of h (by repeat (first | exact Sel.head | apply Sel.tail)) (by repeat (first | exact Seg.nil | apply Seg.cons | apply Seg.succ)) )) hT rfl rfl ?_
                                      clear hf; intro a hf
                                      refine any_take (i := 13) hf rfl (by kernel_rfl) (by kernel_rfl) (by kernel_rfl) (fun _ _ _ h => h) (Wn.some hf rfl rfl rfl rfl) (rd_loadN hf rfl rfl ag26 sz26 (by intro _ h; exact loadN_of h (by repeat (first | exact Sel.head | apply Sel.tail)) (by repeat (first | exact Seg.nil | apply Seg.cons | apply Seg.succ)) )) hT rfl rfl ?_
                                      clear hf; intro a hf
                                      refine any_take (i := 15) hf rfl (by kernel_rfl) (by kernel_rfl) (by kernel_rfl) (fun _ _ _ h => h) (Wn.some hf rfl rfl rfl rfl) (rd_loadN hf rfl rfl ag26 sz26 (by intro _ h; exact loadN_of h (by repeat (first | exact Sel.head | apply Sel.tail)) (by repeat (first | exact Seg.nil | apply Seg.cons | apply Seg.succ)) )) hT rfl rfl ?_
                                      clear hf; intro a hf
                                      refine any_take (i := 16) hf rfl (by kernel_rfl) (by kernel_rfl) (by kernel_rfl) (fun _ _ _ h => h) (Wn.some hf rfl rfl rfl rfl) (rd_loadN hf rfl rfl ag26 sz26 (by intro _ h; exact loadN_of h (by repeat (first | exact Sel.head | apply Sel.tail)) (by repeat (first | exact Seg.nil | apply Seg.cons | apply Seg.succ)) )) hT rfl rfl ?_
                                      clear hf; intro a hf
                                      refine any_one (i := 14) rfl (by kernel_rfl) (st_call hf (Wn.some hf rfl rfl rfl rfl) rfl rfl rfl fn12 (MSame_c _ _ _ _ _ _ _ _ _ _ _ _ _ _ _ _ _ _ _ _ _ _ _ _ _ _ _ _ _ _ _ _  hS (fun _ h => hve _ (h.sub (by repeat (first | exact Sub.refl | exact Sub.none | exact Sub.behind | (apply Sub.cons; (focus ((repeat (first | exact Sel.head | apply Sel.tail)); done))) | apply Sub.skip)))) (fun _ h => hvd _ (h.sub (by repeat (first | exact Sub.refl | exact Sub.none | exact Sub.behind | (apply Sub.cons; (focus ((repeat (first | exact Sel.head | apply Sel.tail)); done))) | apply Sub.skip)))) (fun _ h => hvm _ (h.sub (by repeat (first | exact Sub.refl | exact Sub.none | exact Sub.behind | (apply Sub.cons; (focus ((repeat (first | exact Sel.head | apply Sel.tail)); done))) | apply Sub.skip)))) (fun _ h => hve2 _ (h.sub (by repeat (first | exact Sub.refl | exact Sub.none | exact Sub.behind | (apply Sub.cons; (focus ((repeat (first | exact Sel.head | apply Sel.tail)); done))) | apply Sub.skip)))) (fun _ h => hvd2 _ (h.sub (by repeat (first | exact Sub.refl | exact Sub.none | exact Sub.behind | (apply Sub.cons; (focus ((repeat (first | exact Sel.head | apply Sel.tail)); done))) | apply Sub.skip)))) (fun _ h => hvm2 _ (h.sub (by repeat (first | exact Sub.refl | exact Sub.none | exact Sub.behind | (apply Sub.cons; (focus ((repeat (first | exact Sel.head | apply Sel.tail)); done))) | apply Sub.skip))))) rfl rfl ?_)
                                      clear hf hS; rintro v a w ⟨rfl, hS⟩ hf
                                      replace hT := hS.sub' hT (by repeat (first | exact Sub.refl | exact Sub.none | exact Sub.behind | (apply Sub.cons; (focus ((repeat (first | exact Sel.head | apply Sel.tail)); done))) | apply Sub.skip))
                                      refine ⟨hT, ?_⟩
                                      refine any_one (i := 17) rfl (by kernel_rfl) (st_call hf (Wn.some hf rfl rfl rfl rfl) rfl rfl rfl fn17 (RMSame_c _ _ _ _ _ _ _ _ _ _ _ _ _ _ _ _ _ _ _ _ _ _ _ _ _ _ _ _ _ _ _ _  hS (fun _ h => hve _ (h.sub (by repeat (first | exact Sub.refl | exact Sub.none | exact Sub.behind | (apply Sub.cons; (focus ((repeat (first | exact Sel.head | apply Sel.tail)); done))) | apply Sub.skip)))) (fun _ h => hvd _ (h.sub (by repeat (first | exact Sub.refl | exact Sub.none | exact Sub.behind | (apply Sub.cons; (focus ((repeat (first | exact Sel.head | apply Sel.tail)); done))) | apply Sub.skip)))) (fun _ h => hvm _ (h.sub (by repeat (first | exact Sub.refl | exact Sub.none | exact Sub.behind | (apply Sub.cons; (focus ((repeat (first | exact Sel.head | apply Sel.tail)); done))) | apply Sub.skip)))) (fun _ h => hve2 _ (h.sub (by repeat (first | exact Sub.refl | exact Sub.none | exact Sub.behind | (apply Sub.cons; (focus ((repeat (first | exact Sel.head | apply Sel.tail)); done))) | apply Sub.skip)))) (fun _ h => hvd2 _ (h.sub (by repeat (first | exact Sub.refl | exact Sub.none | exact Sub.behind | (apply Sub.cons; (focus ((repeat (first | exact Sel.head | apply Sel.tail)); done))) | apply Sub.skip)))) (fun _ h => hvm2 _ (h.sub (by repeat (first | exact Sub.refl | exact Sub.none | exact Sub.behind | (apply Sub.cons; (focus ((repeat (first | exact Sel.head | apply Sel.tail)); done))) | apply Sub.skip))))) rfl rfl ?_)
                                      clear hf hS; rintro v a w ⟨rfl, hS⟩ hf
                                      replace hT := hS.sub' hT (by repeat (first | exact Sub.refl | exact Sub.none | exact Sub.behind | (apply Sub.cons; (focus ((repeat (first | exact Sel.head | apply Sel.tail)); done))) | apply Sub.skip))
                                      refine ⟨hT, ?_⟩
                                      refine any_takeB (i := 18) hf rfl (by kernel_rfl) (by kernel_rfl) (by kernel_rfl) (fun _ _ _ _ h => h) (Wn.some hf rfl rfl rfl rfl) (rd_eqlBool hf rfl rfl rfl Try.underlying4) hT rfl rfl ?_ ?_
                                      · clear hf; intro hc21 a hf
                                        first
                                        | (first | exact Bool.noConfusion hc21 | exact absurd rfl hc21; done)
                                        | (
                                          refine any_take (i := 19) hf rfl (by kernel_rfl) (by kernel_rfl) (by kernel_rfl) (fun _ _ _ h => h) (Wn.none rfl) (rd_pick_t hf rfl rfl rfl) hT rfl rfl ?_
                                          clear hf; intro a hf
                                          refine any_take (i := 20) hf rfl (by kernel_rfl) (by kernel_rfl) (by kernel_rfl) (fun _ _ _ h => h) (Wn.none rfl) (rd_move hf rfl rfl) hT rfl rfl ?_
                                          clear hf; intro a hf
                                          refine any_take (i := 21) hf rfl (by kernel_rfl) (by kernel_rfl) (by kernel_rfl) (fun _ _ _ h => h) (Wn.some hf rfl rfl rfl rfl) (rd_loadN hf rfl rfl ag26 sz26 (by intro _ h; exact loadN_of h (by repeat (first | exact Sel.head | apply Sel.tail)) (by repeat (first | exact Seg.nil | apply Seg.cons | apply Seg.succ)) )) hT rfl rfl ?_
                                          clear hf; intro a hf
                                          refine any_take (i := 22) hf rfl (by kernel_rfl) (by kernel_rfl) (by kernel_rfl) (fun _ _ _ h => h) (Wn.some hf rfl rfl rfl rfl) (rd_loadN hf rfl rfl ag26 sz26 (by intro _ h; exact loadN_of h (by repeat (first | exact Sel.head | apply Sel.tail)) (by repeat (first | exact Seg.nil | apply Seg.cons | apply Seg.succ)) )) hT rfl rfl ?_
                                          clear hf; intro a hf
                                          refine any_one (i := 23) rfl (by kernel_rfl) (st_call hf (Wn.some hf rfl rfl rfl rfl) rfl rfl rfl fn14 (RPlain_c _ _ _ _ _ _ _ _ _ _ _ _ _ _ _ _  hS) rfl rfl ?_)
                                          clear hf hS; rintro v a w ⟨rfl, hS⟩ hf; rw [hop, hfo, hky, hbk, hes, hds, hms] at hf; dsimp only [slv] at hf
                                          replace hT := hS.sub' hT (by repeat (first | exact Sub.refl | exact Sub.none | exact Sub.behind | (apply Sub.cons; (focus ((repeat (first | exact Sel.head | apply Sel.tail)); done))) | apply Sub.skip))
                                          refine ⟨hT, ?_⟩
                                          refine any_one (i := 24) rfl (by kernel_rfl) (st_call hf (Wn.some hf rfl rfl rfl rfl) rfl rfl rfl fn12 (MSame_c _ _ _ _ _ _ _ _ _ _ _ _ _ _ _ _ _ _ _ _ _ _ _ _ _ _ _ _ _ _ _ _  hS (fun _ h => hve _ (h.sub (by repeat (first | exact Sub.refl | exact Sub.none | exact Sub.behind | (apply Sub.cons; (focus ((repeat (first | exact Sel.head | apply Sel.tail)); done))) | apply Sub.skip)))) (fun _ h => hvd _ (h.sub (by repeat (first | exact Sub.refl | exact Sub.none | exact Sub.behind | (apply Sub.cons; (focus ((repeat (first | exact Sel.head | apply Sel.tail)); done))) | apply Sub.skip)))) (fun _ h => hvm _ (h.sub (by repeat (first | exact Sub.refl | exact Sub.none | exact Sub.behind | (apply Sub.cons; (focus ((repeat (first | exact Sel.head | apply Sel.tail)); done))) | apply Sub.skip)))) (fun _ h => hve' _ (h.sub (by repeat (first | exact Sub.refl | exact Sub.none | exact Sub.behind | (apply Sub.cons; (focus ((repeat (first | exact Sel.head | apply Sel.tail)); done))) | apply Sub.skip)))) (fun _ h => hvd' _ (h.sub (by repeat (first | exact Sub.refl | exact Sub.none | exact Sub.behind | (apply Sub.cons; (focus ((repeat (first | exact Sel.head | apply Sel.tail)); done))) | apply Sub.skip)))) (fun _ h => hvm' _ (h.sub (by repeat (first | exact Sub.refl | exact Sub.none | exact Sub.behind | (apply Sub.cons; (focus ((repeat (first | exact Sel.head | apply Sel.tail)); done))) | apply Sub.skip))))) rfl rfl ?_)
                                          clear hf hS; rintro v a w ⟨rfl, hS⟩ hf
                                          replace hT := hS.sub' hT (by repeat (first | exact Sub.refl | exact Sub.none | exact Sub.behind | (apply Sub.cons; (focus ((repeat (first | exact Sel.head | apply Sel.tail)); done))) | apply Sub.skip))
                                          refine ⟨hT, ?_⟩
                                          first | refine split_dec (d := 118) hf rfl ?_ ?_ | refine split_bool (d := 118) hf rfl ?_ ?_
                                          · clear hf; intro hc22 hf
                                            first
                                            | (first | exact Bool.noConfusion hc22 | exact absurd rfl hc22; done)
                                            | (
                                              refine any_take (i := 25) hf rfl (by kernel_rfl) (by kernel_rfl) (by kernel_rfl) (fun _ _ _ h => h) (Wn.none rfl) (rd_pick_t hf rfl rfl rfl) hT rfl rfl ?_
                                              clear hf; intro a hf
                                              refine any_take (i := 26) hf rfl (by kernel_rfl) (by kernel_rfl) (by kernel_rfl) (fun _ _ _ h => h) (Wn.none rfl) (rd_move hf rfl rfl) hT rfl rfl ?_
                                              clear hf; intro a hf
                                              refine any_one (i := 27) rfl (by kernel_rfl) (st_call hf (Wn.some hf rfl rfl rfl rfl) rfl rfl rfl fn9 (awake_c hS) rfl rfl ?_)
                                              clear hf hS; rintro v a w ⟨rfl, hS⟩ hf
                                              replace hT := hS.sub' hT (by repeat (first | exact Sub.refl | exact Sub.none | exact Sub.behind | (apply Sub.cons; (focus ((repeat (first | exact Sel.head | apply Sel.tail)); done))) | apply Sub.skip))
                                              refine ⟨hT, ?_⟩
                                              refine any_take (i := 28) hf rfl (by kernel_rfl) (by kernel_rfl) (by kernel_rfl) (fun _ _ _ h => h) (Wn.none rfl) (rd_pick_t hf rfl rfl rfl) hT rfl rfl ?_
                                              clear hf; intro a hf
                                              refine any_take (i := 29) hf rfl (by kernel_rfl) (by kernel_rfl) (by kernel_rfl) (fun _ _ _ h => h) (Wn.none rfl) (rd_assign hf rfl rfl) hT rfl rfl ?_
                                              clear hf; intro a hf
                                              refine any_done (by kernel_rfl) ?_
                                              refine t_normal ?_
                                              refine c_ret ?_
                                              refine e_res1 hf.defers rfl (res_tmp hf rfl .nil) ?_
                                              exact ⟨rfl, hS.sub (by repeat (first | exact Sub.refl | exact Sub.none | exact Sub.behind | (apply Sub.cons; (focus ((repeat (first | exact Sel.head | apply Sel.tail)); done))) | apply Sub.skip))⟩
                                              )
                                          clear hf; intro hc22 hf
                                          exact absurd (sameM_refl (by rw [← hpl, plP_plP])) (Bool.eq_false_iff.1 hc22)
                                          )
                                      clear hf; intro hc21 a hf
                                      first
                                      | (first | exact Bool.noConfusion hc21 | exact absurd rfl hc21; done)
                                      | (
                                        refine any_take (i := 19) hf rfl (by kernel_rfl) (by kernel_rfl) (by kernel_rfl) (fun _ _ _ h => h) (Wn.none rfl) (rd_pick_t hf rfl rfl rfl) hT rfl rfl ?_
                                        clear hf; intro a hf
                                        refine any_take (i := 20) hf rfl (by kernel_rfl) (by kernel_rfl) (by kernel_rfl) (fun _ _ _ h => h) (Wn.none rfl) (rd_move hf rfl rfl) hT rfl rfl ?_
                                        clear hf; intro a hf
                                        refine any_skip (i := 21) hf rfl (by kernel_rfl) (by kernel_rfl) (by kernel_rfl) (fun _ _ _ h => h) (Wn.some hf rfl rfl rfl rfl) hT rfl rfl ?_
                                        clear hf; intro a hf
                                        refine any_skip (i := 22) hf rfl (by kernel_rfl) (by kernel_rfl) (by kernel_rfl) (fun _ _ _ h => h) (Wn.some hf rfl rfl rfl rfl) hT rfl rfl ?_
                                        clear hf; intro a hf
                                        refine any_skip (i := 23) hf rfl (by kernel_rfl) (by kernel_rfl) (by kernel_rfl) (fun _ _ _ h => h) (Wn.some hf rfl rfl rfl rfl) hT rfl rfl ?_
                                        clear hf; intro a hf
                                        refine any_skip (i := 24) hf rfl (by kernel_rfl) (by kernel_rfl) (by kernel_rfl) (fun _ _ _ h => h) (Wn.some hf rfl rfl rfl rfl) hT rfl rfl ?_
                                        clear hf; intro a hf
                                        refine any_take (i := 25) hf rfl (by kernel_rfl) (by kernel_rfl) (by kernel_rfl) (fun _ _ _ h => h) (Wn.none rfl) (rd_pick_f hf rfl rfl rfl) hT rfl rfl ?_
                                        clear hf; intro a hf
                                        refine any_take (i := 26) hf rfl (by kernel_rfl) (by kernel_rfl) (by kernel_rfl) (fun _ _ _ h => h) (Wn.none rfl) (rd_move hf rfl rfl) hT rfl rfl ?_
                                        clear hf; intro a hf
                                        refine any_skip (i := 27) hf rfl (by kernel_rfl) (by kernel_rfl) (by kernel_rfl) (fun _ _ _ h => h) (Wn.some hf rfl rfl rfl rfl) hT rfl rfl ?_
                                        clear hf; intro a hf
                                        refine any_take (i := 28) hf rfl (by kernel_rfl) (by kernel_rfl) (by kernel_rfl) (fun _ _ _ h => h) (Wn.none rfl) (rd_pick_f hf rfl rfl rfl) hT rfl rfl ?_
                                        clear hf; intro a hf
                                        refine any_take (i := 29) hf rfl (by kernel_rfl) (by kernel_rfl) (by kernel_rfl) (fun _ _ _ h => h) (Wn.none rfl) (rd_assign hf rfl rfl) hT rfl rfl ?_
                                        clear hf; intro a hf
                                        refine any_done (by kernel_rfl) ?_
                                        refine t_normal ?_
                                        refine c_ret ?_
                                        refine e_res1 hf.defers rfl (res_tmp hf rfl .nil) ?_
                                        exact ⟨rfl, hS.sub (by repeat (first | exact Sub.refl | exact Sub.none | exact Sub.behind | (apply Sub.cons; (focus ((repeat (first | exact Sel.head | apply Sel.tail)); done))) | apply Sub.skip))⟩
                                        )
                                      )
                                  clear hf; intro hc20 hf
                                  exact absurd (sameM_refl hpp2) (Bool.eq_false_iff.1 hc20)
                                  )
                              clear hf; intro hc19 a hf
                              first
                              | (first | exact Bool.noConfusion hc19 | exact absurd rfl hc19; done)
                              | (
                                refine any_take (i := 5) hf rfl (by kernel_rfl) (by kernel_rfl) (by kernel_rfl) (fun _ _ _ h => h) (Wn.none rfl) (rd_move hf rfl rfl) hT rfl rfl ?_
                                clear hf; intro a hf
                                refine any_skip (i := 6) hf rfl (by kernel_rfl) (by kernel_rfl) (by kernel_rfl) (fun _ _ _ h => h) (Wn.some hf rfl rfl rfl rfl) hT rfl rfl ?_
                                clear hf; intro a hf
                                refine any_skip (i := 7) hf rfl (by kernel_rfl) (by kernel_rfl) (by kernel_rfl) (fun _ _ _ h => h) (Wn.some hf rfl rfl rfl rfl) hT rfl rfl ?_
                                clear hf; intro a hf
                                refine any_skip (i := 8) hf rfl (by kernel_rfl) (by kernel_rfl) (by kernel_rfl) (fun _ _ _ h => h) (Wn.some hf rfl rfl rfl rfl) hT rfl rfl ?_
                                clear hf; intro a hf
                                refine any_skip (i := 9) hf rfl (by kernel_rfl) (by kernel_rfl) (by kernel_rfl) (fun _ _ _ h => h) (Wn.some hf rfl rfl rfl rfl) hT rfl rfl ?_
                                clear hf; intro a hf
                                refine any_take (i := 10) hf rfl (by kernel_rfl) (by kernel_rfl) (by kernel_rfl) (fun _ _ _ h => h) (Wn.none rfl) (rd_pick_f hf rfl rfl rfl) hT rfl rfl ?_
                                clear hf; intro a hf
                                refine any_take (i := 11) hf rfl (by kernel_rfl) (by kernel_rfl) (by kernel_rfl) (fun _ _ _ h => h) (Wn.none rfl) (rd_move hf rfl rfl) hT rfl rfl ?_
                                clear hf; intro a hf
                                refine any_skip (i := 12) hf rfl (by kernel_rfl) (by kernel_rfl) (by kernel_rfl) (fun _ _ _ h => h) (Wn.some hf rfl rfl rfl rfl) hT rfl rfl ?_
                                clear hf; intro a hf
                                refine any_skip (i := 13) hf rfl (by kernel_rfl) (by kernel_rfl) (by kernel_rfl) (fun _ _ _ h => h) (Wn.some hf rfl rfl rfl rfl) hT rfl rfl ?_
                                clear hf; intro a hf
                                refine any_skip (i := 14) hf rfl (by kernel_rfl) (by kernel_rfl) (by kernel_rfl) (fun _ _ _ h => h) (Wn.some hf rfl rfl rfl rfl) hT rfl rfl ?_
                                clear hf; intro a hf
                                refine any_skip (i := 15) hf rfl (by kernel_rfl) (by kernel_rfl) (by kernel_rfl) (fun _ _ _ h => h) (Wn.some hf rfl rfl rfl rfl) hT rfl rfl ?_
                                clear hf; intro a hf
                                refine any_skip (i := 16) hf rfl (by kernel_rfl) (by kernel_rfl) (by kernel_rfl) (fun _ _ _ h => h) (Wn.some hf rfl rfl rfl rfl) hT rfl rfl ?_
                                clear hf; intro a hf
                                refine any_skip (i := 17) hf rfl (by kernel_rfl) (by kernel_rfl) (by kernel_rfl) (fun _ _ _ h => h) (Wn.some hf rfl rfl rfl rfl) hT rfl rfl ?_
                                clear hf; intro a hf
                                refine any_skip (i := 18) hf rfl (by kernel_rfl) (by kernel_rfl) (by kernel_rfl) (fun _ _ _ h => h) (Wn.some hf rfl rfl rfl rfl) hT rfl rfl ?_
                                clear hf; intro a hf
                                refine any_take (i := 19) hf rfl (by kernel_rfl) (by kernel_rfl) (by kernel_rfl) (fun _ _ _ h => h) (Wn.none rfl) (rd_pick_f hf rfl rfl rfl) hT rfl rfl ?_
                                clear hf; intro a hf
                                refine any_take (i := 20) hf rfl (by kernel_rfl) (by kernel_rfl) (by kernel_rfl) (fun _ _ _ h => h) (Wn.none rfl) (rd_move hf rfl rfl) hT rfl rfl ?_
                                clear hf; intro a hf
                                refine any_skip (i := 21) hf rfl (by kernel_rfl) (by kernel_rfl) (by kernel_rfl) (fun _ _ _ h => h) (Wn.some hf rfl rfl rfl rfl) hT rfl rfl ?_
                                clear hf; intro a hf
                                refine any_skip (i := 22) hf rfl (by kernel_rfl) (by kernel_rfl) (by kernel_rfl) (fun _ _ _ h => h) (Wn.some hf rfl rfl rfl rfl) hT rfl rfl ?_
                                clear hf; intro a hf
                                refine any_skip (i := 23) hf rfl (by kernel_rfl) (by kernel_rfl) (by kernel_rfl) (fun _ _ _ h => h) (Wn.some hf rfl rfl rfl rfl) hT rfl rfl ?_
                                clear hf; intro a hf
                                refine any_skip (i := 24) hf rfl (by kernel_rfl) (by kernel_rfl) (by kernel_rfl) (fun _ _ _ h => h) (Wn.some hf rfl rfl rfl rfl) hT rfl rfl ?_
                                clear hf; intro a hf
                                refine any_take (i := 25) hf rfl (by kernel_rfl) (by kernel_rfl) (by kernel_rfl) (fun _ _ _ h => h) (Wn.none rfl) (rd_pick_f hf rfl rfl rfl) hT rfl rfl ?_
                                clear hf; intro a hf
                                refine any_take (i := 26) hf rfl (by kernel_rfl) (by kernel_rfl) (by kernel_rfl) (fun _ _ _ h => h) (Wn.none rfl) (rd_move hf rfl rfl) hT rfl rfl ?_
                                clear hf; intro a hf
                                refine any_skip (i := 27) hf rfl (by kernel_rfl) (by kernel_rfl) (by kernel_rfl) (fun _ _ _ h => h) (Wn.some hf rfl rfl rfl rfl) hT rfl rfl ?_
                                clear hf; intro a hf
                                refine any_take (i := 28) hf rfl (by kernel_rfl) (by kernel_rfl) (by kernel_rfl) (fun _ _ _ h => h) (Wn.none rfl) (rd_pick_f hf rfl rfl rfl) hT rfl rfl ?_
                                clear hf; intro a hf
                                refine any_take (i := 29) hf rfl (by kernel_rfl) (by kernel_rfl) (by kernel_rfl) (fun _ _ _ h => h) (Wn.none rfl) (rd_assign hf rfl rfl) hT rfl rfl ?_
                                clear hf; intro a hf
                                refine any_done (by kernel_rfl) ?_
                                refine t_normal ?_
                                refine c_ret ?_
                                refine e_res1 hf.defers rfl (res_tmp hf rfl .nil) ?_
                                exact ⟨rfl, hS.sub (by repeat (first | exact Sub.refl | exact Sub.none | exact Sub.behind | (apply Sub.cons; (focus ((repeat (first | exact Sel.head | apply Sel.tail)); done))) | apply Sub.skip))⟩
                                )
                              )
                            )
                          )
                        )
                      )
                    )
                  )
                )
              )
            )
          )
      clear hf; intro hc6 hf
      first
      | (first | exact Bool.noConfusion hc6 | exact absurd rfl hc6; done)
      | (
        refine step_l (st_rd hf (Wn.some hf rfl rfl rfl rfl) (rd_not hf rfl rfl) hS rfl rfl ?_)
        clear hf; intro a hf
        refine step_l (st_rd hf (Wn.none rfl) (rd_pick_f hf rfl rfl rfl) hS rfl rfl ?_)
        clear hf; intro a hf
        refine done_l ?_
        refine t_normal ?_
        refine c_true hf rfl ?_
        refine c_seq ?_
        refine c_region ?_
        refine step_l (st_call hf (Wn.none rfl) rfl rfl rfl fn9 (awake_c hS) rfl rfl ?_)
        clear hf hS; rintro v a w ⟨rfl, hS⟩ hf
        refine step_l (st_rd hf (Wn.none rfl) (rd_assign hf rfl rfl) hS rfl rfl ?_)
        clear hf; intro a hf
        refine done_l ?_
        refine t_normal ?_
        refine c_ret ?_
        refine t_ret ?_
        refine e_res1 hf.defers rfl (res_tmp hf rfl .nil) ?_
        exact ⟨rfl, hS.sub (by repeat (first | exact Sub.refl | exact Sub.none | exact Sub.behind | (apply Sub.cons; (focus ((repeat (first | exact Sel.head | apply Sel.tail)); done))) | apply Sub.skip))⟩
        )
      )
  clear hf; intro hc4 hf
  first
  | (first | exact Bool.noConfusion hc4 | exact absurd rfl hc4; done)
  | (
    refine step_l (st_rd hf (Wn.none rfl) (rd_not hf rfl rfl) hS rfl rfl ?_)
    clear hf; intro a hf
    refine step_l (st_rd hf (Wn.none rfl) (rd_move hf rfl rfl) hS rfl rfl ?_)
    clear hf; intro a hf
    refine step_l (st_skip hf (Wn.some hf rfl rfl rfl rfl) rfl rfl ?_)
    clear hf; intro a hf
    refine step_l (st_skip hf (Wn.some hf rfl rfl rfl rfl) rfl rfl ?_)
    clear hf; intro a hf
    refine step_l (st_skip hf (Wn.some hf rfl rfl rfl rfl) rfl rfl ?_)
    clear hf; intro a hf
    refine step_l (st_rd hf (Wn.none rfl) (rd_pick_t hf rfl rfl rfl) hS rfl rfl ?_)
    clear hf; intro a hf
    refine done_l ?_
    refine t_normal ?_
    refine c_true hf rfl ?_
    refine c_seq ?_
    refine c_region ?_
    refine step_l (st_call hf (Wn.none rfl) rfl rfl rfl fn9 (awake_c hS) rfl rfl ?_)
    clear hf hS; rintro v a w ⟨rfl, hS⟩ hf
    refine step_l (st_rd hf (Wn.none rfl) (rd_assign hf rfl rfl) hS rfl rfl ?_)
    clear hf; intro a hf
    refine done_l ?_
    refine t_normal ?_
    refine c_ret ?_
    refine t_ret ?_
    refine e_res1 hf.defers rfl (res_tmp hf rfl .nil) ?_
    exact ⟨rfl, hS.sub (by repeat (first | exact Sub.refl | exact Sub.none | exact Sub.behind | (apply Sub.cons; (focus ((repeat (first | exact Sel.head | apply Sel.tail)); done))) | apply Sub.skip))⟩
    )

end Go.Proofs.Ytglmimbfelakbaa
