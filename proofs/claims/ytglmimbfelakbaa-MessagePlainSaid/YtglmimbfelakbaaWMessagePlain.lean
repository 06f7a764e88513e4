/-
  The statement MessagePlain, walked.
  Conditions: none.
-/
import Derived.Test.YtglmimbfelakbaaOwn1
namespace Go.Proofs.Ytglmimbfelakbaa
open Go Go.Sl
set_option linter.unusedVariables false
set_option linter.unusedSimpArgs false
theorem fn12 : fnB Try.prog 12 = true := by kernel_rfl
theorem fn13 : fnB Try.prog 13 = true := by kernel_rfl
theorem fn8 : fnB Try.prog 8 = true := by kernel_rfl
theorem fn9 : fnB Try.prog 9 = true := by kernel_rfl
set_option maxRecDepth 100000 in
set_option maxHeartbeats 4000000 in
theorem MessagePlain_c (kd fr tn op fo : Int) (ky : List UInt8) (bk : Int) (es : List EntT) (qe : Option Addr) (ce : Nat) (ds : List DigT) (qd : Option Addr) (cd : Nat) (ms : List MemT) (qm : Option Addr) (cm : Nat) {W : World} {R : List HP} {w : World} (hS : Sat W (R) w) (hve : ∀ w, Sat W R w → EntsAt w (qe, ce, es)) (hvd : ∀ w, Sat W R w → DigsAt w (qd, cd, ds)) (hvm : ∀ w, Sat W R w → DotsAt w (qm, cm, ms)) (hle : es.length ≤ 9223372036854775806) (hld : ds.length ≤ 9223372036854775806) (hlm : ms.length ≤ 9223372036854775806) : Calls Try.prog 6 [.agg #[.int .i64 kd, .int .i64 fr, .int .i64 tn, .int .i64 op, .int .i64 fo, .string (str ky), .int .i64 bk, .slice qe es.length ce, .slice qd ds.length cd, .slice qm ms.length cm]].toArray w (Ret fun v w' => v = .bool true ∧ Sat W R w') := by
  refine fn_start 55 Try.func6 rfl rfl rfl ?_
  intro a hf
  have hyE1 := plS_at (Q := EntsAt _) (b := hasP 4 kd) (hve _ hS) (EntsAt.nil _); have hyD1 := plS_at (Q := DigsAt _) (b := hasP 5 kd) (hvd _ hS) (DigsAt.nil _); have hyM1 := plS_at (Q := DotsAt _) (b := hasP 6 kd) (hvm _ hS) (DotsAt.nil _)
  refine c_seq ?_
  refine c_region ?_
  refine step_l (st_box hf (Wn.none rfl) hS rfl rfl (by rfl) rfl rfl ?_)
  clear hf hS; intro b_m a w hf hS
  refine step_l (st_rd hf (Wn.none rfl) (rd_assign hf rfl rfl) hS rfl rfl ?_)
  clear hf; intro a hf
  refine done_l ?_
  refine t_normal ?_
  refine c_seq ?_
  refine c_seq ?_
  refine c_region ?_
  refine step_l (st_rd hf (Wn.none rfl) (rd_loadN hf rfl rfl ag26 sz26 (by intro _ h; exact loadN_of h (by repeat (first | exact Sel.head | apply Sel.tail)) (by repeat (first | exact Seg.nil | apply Seg.cons | apply Seg.succ)) )) hS rfl rfl ?_)
  clear hf; intro a hf
  refine step_l (st_call hf (Wn.none rfl) rfl rfl rfl fn8 (light_c _ _ _ _ _ _ _ _ _ _ _ _ _ _ _ _  hS (fun _ h => hve _ (h.sub (by repeat (first | exact Sub.refl | exact Sub.none | exact Sub.behind | (apply Sub.cons; (focus ((repeat (first | exact Sel.head | apply Sel.tail)); done))) | apply Sub.skip)))) (fun _ h => hvd _ (h.sub (by repeat (first | exact Sub.refl | exact Sub.none | exact Sub.behind | (apply Sub.cons; (focus ((repeat (first | exact Sel.head | apply Sel.tail)); done))) | apply Sub.skip)))) (fun _ h => hvm _ (h.sub (by repeat (first | exact Sub.refl | exact Sub.none | exact Sub.behind | (apply Sub.cons; (focus ((repeat (first | exact Sel.head | apply Sel.tail)); done))) | apply Sub.skip)))) (by omega) (by omega) (by omega)) rfl rfl ?_)
  clear hf hS; rintro v a w ⟨bb2, rfl, hbb2, hS⟩ hf
  first | refine split_dec (d := 9) hf rfl ?_ ?_ | refine split_bool (d := 9) hf rfl ?_ ?_
  · clear hf; intro hc3 hf
    first
    | (first | exact Bool.noConfusion hc3 | exact absurd rfl hc3; done)
    | (
      refine step_l (st_rd hf (Wn.none rfl) (rd_not hf rfl rfl) hS rfl rfl ?_)
      clear hf; intro a hf
      refine done_l ?_
      refine t_normal ?_
      refine c_false hf rfl ?_
      refine c_skip ?_
      refine t_normal ?_
      refine c_seq ?_
      refine c_region ?_
      refine step_l (st_rd hf (Wn.none rfl) (rd_loadN hf rfl rfl ag26 sz26 (by intro _ h; exact loadN_of h (by repeat (first | exact Sel.head | apply Sel.tail)) (by repeat (first | exact Seg.nil | apply Seg.cons | apply Seg.succ)) )) hS rfl rfl ?_)
      clear hf; intro a hf
      refine step_l (st_call hf (Wn.none rfl) rfl rfl rfl fn13 (Pln_c _ _ _ _ _ _ _ _ _ _ _ _ _ _ _ _  hS (fun _ h => hve _ (h.sub (by repeat (first | exact Sub.refl | exact Sub.none | exact Sub.behind | (apply Sub.cons; (focus ((repeat (first | exact Sel.head | apply Sel.tail)); done))) | apply Sub.skip)))) (fun _ h => hvd _ (h.sub (by repeat (first | exact Sub.refl | exact Sub.none | exact Sub.behind | (apply Sub.cons; (focus ((repeat (first | exact Sel.head | apply Sel.tail)); done))) | apply Sub.skip)))) (fun _ h => hvm _ (h.sub (by repeat (first | exact Sub.refl | exact Sub.none | exact Sub.behind | (apply Sub.cons; (focus ((repeat (first | exact Sel.head | apply Sel.tail)); done))) | apply Sub.skip))))) rfl rfl ?_)
      clear hf hS; rintro v a w ⟨q1, c1, L1, q2, c2, L2, q3, c3, L3, rfl, hL1, hL2, hL3, hS⟩ hf; have hp1 : (⟨kd, fr, tn, plI (hasP 0 kd) op, plI (hasP 1 kd) fo, plB (hasP 2 kd) ky, plI (hasP 3 kd) bk, L1.map pEnt, L2.map pDig, L3.map pDot⟩ : PMsg) = plP (⟨kd, fr, tn, op, fo, ky, bk, es.map pEnt, ds.map pDig, ms.map pDot⟩ : PMsg) := (by unfold plP; rw [hL1, hL2, hL3]); have hpp1 : plP (⟨kd, fr, tn, plI (hasP 0 kd) op, plI (hasP 1 kd) fo, plB (hasP 2 kd) ky, plI (hasP 3 kd) bk, L1.map pEnt, L2.map pDig, L3.map pDot⟩ : PMsg) = plP (⟨kd, fr, tn, op, fo, ky, bk, es.map pEnt, ds.map pDig, ms.map pDot⟩ : PMsg) := (by rw [hp1, plP_plP]); have hLE1 := hL1.trans (plS_map pEnt _ (qe, ce, es)).symm; have hLD1 := hL2.trans (plS_map pDig _ (qd, cd, ds)).symm; have hLM1 := map_len (hL3.trans (plS_map pDot _ (qm, cm, ms)).symm); have hn1 := hyE1.len; have hn2 := hyD1.len; have hn3 := hyM1.len; have hm1 := map_len hLE1; have hm2 := map_len hLD1; (try dsimp only at hn1); (try dsimp only at hm1); (try dsimp only at hm2); (try dsimp only at hLM1); have hv1 := hS.entR (x := (q1, c1, L1)) (by repeat (first | exact Sel.head | apply Sel.tail)) hyE1 hLE1; have hv2 := hS.digR (x := (q2, c2, L2)) (by repeat (first | exact Sel.head | apply Sel.tail)) hyD1 hLD1; have hv3 : DotsAt _ (q3, c3, L3) := hS.memR (by repeat (first | exact Sel.head | apply Sel.tail)) hyM1 hLM1; have hyE2 := plS_at (Q := EntsAt _) (b := hasP 4 kd) hv1 (EntsAt.nil _); have hyD2 := plS_at (Q := DigsAt _) (b := hasP 5 kd) hv2 (DigsAt.nil _); have hyM2 := plS_at (Q := DotsAt _) (b := hasP 6 kd) hv3 (DotsAt.nil _); have hl1 := hv1.len; have hl2 := hv2.len; have hl3 := hv3.len; have hen := enc_pl hpp1; have hma : mayM (⟨kd, fr, tn, op, fo, ky, bk, es.map pEnt, ds.map pDig, ms.map pDot⟩ : PMsg) = mayM (⟨kd, fr, tn, plI (hasP 0 kd) op, plI (hasP 1 kd) fo, plB (hasP 2 kd) ky, plI (hasP 3 kd) bk, L1.map pEnt, L2.map pDig, L3.map pDot⟩ : PMsg) := (by rw [hp1, mayM_pl])
      refine step_l (st_alloc hf (Wn.none rfl) hS rfl zr26 (by rfl) rfl rfl ?_)
      clear hf hS; intro b_p a w hf hS
      refine step_l (st_store hf (Wn.none rfl) hS rfl rfl rfl (by rfl) sz26 (by rfl) (by rfl) (by repeat (first | exact Sel.head | apply Sel.tail)) (by repeat (first | exact Put.nil | apply Put.cons | apply Put.succ)) rfl ?_)
      clear hf hS; intro a w hf hS
      refine done_l ?_
      refine t_normal ?_
      refine c_seq ?_
      refine c_region ?_
      refine step_l (st_rd hf (Wn.none rfl) (rd_loadN hf rfl rfl ag26 sz26 (by intro _ h; exact loadN_of h (by repeat (first | exact Sel.head | apply Sel.tail)) (by repeat (first | exact Seg.nil | apply Seg.cons | apply Seg.succ)) )) hS rfl rfl ?_)
      clear hf; intro a hf
      refine step_l (st_call hf (Wn.none rfl) rfl rfl rfl fn10 (Enc_c _ _ _ _ _ _ _ _ _ _ _ _ _ _ _ _   hS (fun _ h => hve _ (h.sub (by repeat (first | exact Sub.refl | exact Sub.none | exact Sub.behind | (apply Sub.cons; (focus ((repeat (first | exact Sel.head | apply Sel.tail)); done))) | apply Sub.skip)))) (fun _ h => hvd _ (h.sub (by repeat (first | exact Sub.refl | exact Sub.none | exact Sub.behind | (apply Sub.cons; (focus ((repeat (first | exact Sel.head | apply Sel.tail)); done))) | apply Sub.skip)))) (fun _ h => hvm _ (h.sub (by repeat (first | exact Sub.refl | exact Sub.none | exact Sub.behind | (apply Sub.cons; (focus ((repeat (first | exact Sel.head | apply Sel.tail)); done))) | apply Sub.skip)))) (by omega) (by omega) (by omega)) rfl rfl ?_)
      clear hf hS; rintro v a w ⟨qe_5, cape_5, rfl, hS⟩ hf
      refine step_l (st_rd hf (Wn.none rfl) (rd_move hf rfl rfl) hS rfl rfl ?_)
      clear hf; intro a hf
      refine step_l (st_rd hf (Wn.none rfl) (rd_extract hf rfl rfl rfl) hS rfl rfl ?_)
      clear hf; intro a hf
      refine step_l (st_rd hf (Wn.none rfl) (rd_extract hf rfl rfl rfl) hS rfl rfl ?_)
      clear hf; intro a hf
      refine step_l (st_rd hf (Wn.none rfl) (rd_assign hf rfl rfl) hS rfl rfl ?_)
      clear hf; intro a hf
      refine step_l (st_rd hf (Wn.none rfl) (rd_assign hf rfl rfl) hS rfl rfl ?_)
      clear hf; intro a hf
      refine done_l ?_
      refine t_normal ?_
      refine c_seq ?_
      refine c_region ?_
      refine step_l (st_rd hf (Wn.none rfl) (rd_loadN hf rfl rfl ag26 sz26 (by intro _ h; exact loadN_of h (by repeat (first | exact Sel.head | apply Sel.tail)) (by repeat (first | exact Seg.nil | apply Seg.cons | apply Seg.succ)) )) hS rfl rfl ?_)
      clear hf; intro a hf
      refine step_l (st_call hf (Wn.none rfl) rfl rfl rfl fn10 (Enc_c _ _ _ _ _ _ _ _ _ _ _ _ _ _ _ _  hS (fun _ h => h.entR (x := (q1, c1, L1)) (by repeat (first | exact Sel.head | apply Sel.tail)) hyE1 hLE1) (fun _ h => h.digR (x := (q2, c2, L2)) (by repeat (first | exact Sel.head | apply Sel.tail)) hyD1 hLD1) (fun _ h => h.memR (by repeat (first | exact Sel.head | apply Sel.tail)) hyM1 hLM1) (by omega) (by omega) (by omega)) rfl rfl ?_)
      clear hf hS; rintro v a w ⟨qe_6, cape_6, rfl, hS⟩ hf
      refine step_l (st_rd hf (Wn.none rfl) (rd_move hf rfl rfl) hS rfl rfl ?_)
      clear hf; intro a hf
      refine step_l (st_rd hf (Wn.none rfl) (rd_extract hf rfl rfl rfl) hS rfl rfl ?_)
      clear hf; intro a hf
      refine step_l (st_rd hf (Wn.none rfl) (rd_extract hf rfl rfl rfl) hS rfl rfl ?_)
      clear hf; intro a hf
      refine step_l (st_rd hf (Wn.none rfl) (rd_assign hf rfl rfl) hS rfl rfl ?_)
      clear hf; intro a hf
      refine step_l (st_rd hf (Wn.none rfl) (rd_assign hf rfl rfl) hS rfl rfl ?_)
      clear hf; intro a hf
      refine done_l ?_
      refine t_normal ?_
      refine c_seq ?_
      refine any_begin mixed hS.drew ?_
      replace hS := hS.drew
      have hT := hS
      refine any_take (i := 0) hf rfl (by kernel_rfl) (by kernel_rfl) (by kernel_rfl) (fun _ _ _ h => h) (Wn.none rfl) (rd_loadN hf rfl rfl ag26 sz26 (by intro _ h; exact loadN_of h (by repeat (first | exact Sel.head | apply Sel.tail)) (by repeat (first | exact Seg.nil | apply Seg.cons | apply Seg.succ)) )) hT rfl rfl ?_
      clear hf; intro a hf
      refine any_take (i := 2) hf rfl (by kernel_rfl) (by kernel_rfl) (by kernel_rfl) (fun _ _ _ h => h) (Wn.none rfl) (rd_loadN hf rfl rfl ag26 sz26 (by intro _ h; exact loadN_of h (by repeat (first | exact Sel.head | apply Sel.tail)) (by repeat (first | exact Seg.nil | apply Seg.cons | apply Seg.succ)) )) hT rfl rfl ?_
      clear hf; intro a hf
      refine any_one (i := 1) rfl (by kernel_rfl) (st_call hf (Wn.none rfl) rfl rfl rfl fn15 (May_c _ _ _ _ _ _ _ _ _ _ _ _ _ _ _ _ hS (fun _ h => hve _ (h.sub (by repeat (first | exact Sub.refl | exact Sub.none | exact Sub.behind | (apply Sub.cons; (focus ((repeat (first | exact Sel.head | apply Sel.tail)); done))) | apply Sub.skip)))) (fun _ h => hvd _ (h.sub (by repeat (first | exact Sub.refl | exact Sub.none | exact Sub.behind | (apply Sub.cons; (focus ((repeat (first | exact Sel.head | apply Sel.tail)); done))) | apply Sub.skip)))) (fun _ h => hvm _ (h.sub (by repeat (first | exact Sub.refl | exact Sub.none | exact Sub.behind | (apply Sub.cons; (focus ((repeat (first | exact Sel.head | apply Sel.tail)); done))) | apply Sub.skip)))) (by omega) (by omega) (by omega)) rfl rfl ?_)
      clear hf hS; rintro v a w ⟨rfl, hS⟩ hf
      replace hT := hS.sub' hT (by repeat (first | exact Sub.refl | exact Sub.none | exact Sub.behind | (apply Sub.cons; (focus ((repeat (first | exact Sel.head | apply Sel.tail)); done))) | apply Sub.skip))
      refine ⟨hT, ?_⟩
      refine any_one (i := 3) rfl (by kernel_rfl) (st_call hf (Wn.none rfl) rfl rfl rfl fn15 (May_c _ _ _ _ _ _ _ _ _ _ _ _ _ _ _ _  hS (fun _ h => h.entR (x := (q1, c1, L1)) (by repeat (first | exact Sel.head | apply Sel.tail)) hyE1 hLE1) (fun _ h => h.digR (x := (q2, c2, L2)) (by repeat (first | exact Sel.head | apply Sel.tail)) hyD1 hLD1) (fun _ h => h.memR (by repeat (first | exact Sel.head | apply Sel.tail)) hyM1 hLM1) (by omega) (by omega) (by omega)) rfl rfl ?_)
      clear hf hS; rintro v a w ⟨rfl, hS⟩ hf
      replace hT := hS.sub' hT (by repeat (first | exact Sub.refl | exact Sub.none | exact Sub.behind | (apply Sub.cons; (focus ((repeat (first | exact Sel.head | apply Sel.tail)); done))) | apply Sub.skip))
      refine ⟨hT, ?_⟩
      refine any_takeB (i := 4) hf rfl (by kernel_rfl) (by kernel_rfl) (by kernel_rfl) (fun _ _ _ _ h => h) (Wn.none rfl) (rd_eqlBool hf rfl rfl rfl Try.underlying4) hT rfl rfl ?_ ?_
      · clear hf; intro hc7 a hf
        first
        | (first | exact Bool.noConfusion hc7 | exact absurd rfl hc7; done)
        | (
          refine any_take (i := 5) hf rfl (by kernel_rfl) (by kernel_rfl) (by kernel_rfl) (fun _ _ _ h => h) (Wn.none rfl) (rd_move hf rfl rfl) hT rfl rfl ?_
          clear hf; intro a hf
          refine any_take (i := 6) hf rfl (by kernel_rfl) (by kernel_rfl) (by kernel_rfl) (fun _ _ _ h => h) (Wn.some hf rfl rfl rfl rfl) (rd_loadN hf rfl rfl ag26 sz26 (by intro _ h; exact loadN_of h (by repeat (first | exact Sel.head | apply Sel.tail)) (by repeat (first | exact Seg.nil | apply Seg.cons | apply Seg.succ)) )) hT rfl rfl ?_
          clear hf; intro a hf
          refine any_take (i := 7) hf rfl (by kernel_rfl) (by kernel_rfl) (by kernel_rfl) (fun _ _ _ h => h) (Wn.some hf rfl rfl rfl rfl) (rd_loadN hf rfl rfl ag26 sz26 (by intro _ h; exact loadN_of h (by repeat (first | exact Sel.head | apply Sel.tail)) (by repeat (first | exact Seg.nil | apply Seg.cons | apply Seg.succ)) )) hT rfl rfl ?_
          clear hf; intro a hf
          refine any_one (i := 8) rfl (by kernel_rfl) (st_call hf (Wn.some hf rfl rfl rfl rfl) rfl rfl rfl fn12 (MSame_c _ _ _ _ _ _ _ _ _ _ _ _ _ _ _ _ _ _ _ _ _ _ _ _ _ _ _ _ _ _ _ _  hS (fun _ h => hve _ (h.sub (by repeat (first | exact Sub.refl | exact Sub.none | exact Sub.behind | (apply Sub.cons; (focus ((repeat (first | exact Sel.head | apply Sel.tail)); done))) | apply Sub.skip)))) (fun _ h => hvd _ (h.sub (by repeat (first | exact Sub.refl | exact Sub.none | exact Sub.behind | (apply Sub.cons; (focus ((repeat (first | exact Sel.head | apply Sel.tail)); done))) | apply Sub.skip)))) (fun _ h => hvm _ (h.sub (by repeat (first | exact Sub.refl | exact Sub.none | exact Sub.behind | (apply Sub.cons; (focus ((repeat (first | exact Sel.head | apply Sel.tail)); done))) | apply Sub.skip)))) (fun _ h => h.entR (x := (q1, c1, L1)) (by repeat (first | exact Sel.head | apply Sel.tail)) hyE1 hLE1) (fun _ h => h.digR (x := (q2, c2, L2)) (by repeat (first | exact Sel.head | apply Sel.tail)) hyD1 hLD1) (fun _ h => h.memR (by repeat (first | exact Sel.head | apply Sel.tail)) hyM1 hLM1)) rfl rfl ?_)
          clear hf hS; rintro v a w ⟨rfl, hS⟩ hf
          replace hT := hS.sub' hT (by repeat (first | exact Sub.refl | exact Sub.none | exact Sub.behind | (apply Sub.cons; (focus ((repeat (first | exact Sel.head | apply Sel.tail)); done))) | apply Sub.skip))
          refine ⟨hT, ?_⟩
          first | refine split_dec (d := 32) hf rfl ?_ ?_ | refine split_bool (d := 32) hf rfl ?_ ?_
          · clear hf; intro hc8 hf
            first
            | (first | exact Bool.noConfusion hc8 | exact absurd rfl hc8; done)
            | (
              refine any_take (i := 9) hf rfl (by kernel_rfl) (by kernel_rfl) (by kernel_rfl) (fun _ _ _ h => h) (Wn.none rfl) (rd_pick_t hf rfl rfl rfl) hT rfl rfl ?_
              clear hf; intro a hf
              refine any_take (i := 10) hf rfl (by kernel_rfl) (by kernel_rfl) (by kernel_rfl) (fun _ _ _ h => h) (Wn.none rfl) (rd_move hf rfl rfl) hT rfl rfl ?_
              clear hf; intro a hf
              refine any_take (i := 11) hf rfl (by kernel_rfl) (by kernel_rfl) (by kernel_rfl) (fun _ _ _ h => h) (Wn.some hf rfl rfl rfl rfl) (rd_move hf rfl rfl) hT rfl rfl ?_
              clear hf; intro a hf
              refine any_take (i := 12) hf rfl (by kernel_rfl) (by kernel_rfl) (by kernel_rfl) (fun _ _ _ h => h) (Wn.some hf rfl rfl rfl rfl) (rd_move hf rfl rfl) hT rfl rfl ?_
              clear hf; intro a hf
              refine any_takeB (i := 13) hf rfl (by kernel_rfl) (by kernel_rfl) (by kernel_rfl) (fun _ _ _ _ h => h) (Wn.some hf rfl rfl rfl rfl) (rd_eql hf rfl rfl rfl) hT rfl rfl ?_ ?_
              · clear hf; intro hc9 a hf
                first
                | (first | exact Bool.noConfusion hc9 | exact absurd rfl hc9; done)
                | (
                  refine any_take (i := 14) hf rfl (by kernel_rfl) (by kernel_rfl) (by kernel_rfl) (fun _ _ _ h => h) (Wn.none rfl) (rd_pick_t hf rfl rfl rfl) hT rfl rfl ?_
                  clear hf; intro a hf
                  refine any_take (i := 15) hf rfl (by kernel_rfl) (by kernel_rfl) (by kernel_rfl) (fun _ _ _ h => h) (Wn.none rfl) (rd_move hf rfl rfl) hT rfl rfl ?_
                  clear hf; intro a hf
                  refine any_take (i := 16) hf rfl (by kernel_rfl) (by kernel_rfl) (by kernel_rfl) (fun _ _ _ h => h) (Wn.some hf rfl rfl rfl rfl) (rd_move hf rfl rfl) hT rfl rfl ?_
                  clear hf; intro a hf
                  refine any_take (i := 17) hf rfl (by kernel_rfl) (by kernel_rfl) (by kernel_rfl) (fun _ _ _ h => h) (Wn.some hf rfl rfl rfl rfl) (rd_str hf rfl rfl Try.underlying29 Try.underlying9 Try.underlying5 (by intro _ h; first | exact h.slOfRw (by repeat (first | exact Sel.head | apply Sel.tail)) | exact h.slOfBlkPre (by repeat (first | exact Sel.head | apply Sel.tail)) (bvs_len1 _))) hT rfl rfl ?_
                  clear hf; intro a hf
                  refine any_take (i := 18) hf rfl (by kernel_rfl) (by kernel_rfl) (by kernel_rfl) (fun _ _ _ h => h) (Wn.some hf rfl rfl rfl rfl) (rd_move hf rfl rfl) hT rfl rfl ?_
                  clear hf; intro a hf
                  refine any_take (i := 19) hf rfl (by kernel_rfl) (by kernel_rfl) (by kernel_rfl) (fun _ _ _ h => h) (Wn.some hf rfl rfl rfl rfl) (rd_str hf rfl rfl Try.underlying29 Try.underlying9 Try.underlying5 (by intro _ h; first | exact h.slOfRw (by repeat (first | exact Sel.head | apply Sel.tail)) | exact h.slOfBlkPre (by repeat (first | exact Sel.head | apply Sel.tail)) (bvs_len1 _))) hT rfl rfl ?_
                  clear hf; intro a hf
                  refine any_takeB (i := 20) hf rfl (by kernel_rfl) (by kernel_rfl) (by kernel_rfl) (fun _ _ _ _ h => h) (Wn.some hf rfl rfl rfl rfl) (rd_eqlS hf rfl rfl rfl) hT rfl rfl ?_ ?_
                  · clear hf; intro hc10 a hf
                    first
                    | (first | exact Bool.noConfusion hc10 | exact absurd rfl hc10; done)
                    | (
                      refine any_take (i := 21) hf rfl (by kernel_rfl) (by kernel_rfl) (by kernel_rfl) (fun _ _ _ h => h) (Wn.none rfl) (rd_pick_t hf rfl rfl rfl) hT rfl rfl ?_
                      clear hf; intro a hf
                      refine any_take (i := 22) hf rfl (by kernel_rfl) (by kernel_rfl) (by kernel_rfl) (fun _ _ _ h => h) (Wn.none rfl) (rd_move hf rfl rfl) hT rfl rfl ?_
                      clear hf; intro a hf
                      refine any_take (i := 23) hf rfl (by kernel_rfl) (by kernel_rfl) (by kernel_rfl) (fun _ _ _ h => h) (Wn.some hf rfl rfl rfl rfl) (rd_loadN hf rfl rfl ag26 sz26 (by intro _ h; exact loadN_of h (by repeat (first | exact Sel.head | apply Sel.tail)) (by repeat (first | exact Seg.nil | apply Seg.cons | apply Seg.succ)) )) hT rfl rfl ?_
                      clear hf; intro a hf
                      refine any_take (i := 25) hf rfl (by kernel_rfl) (by kernel_rfl) (by kernel_rfl) (fun _ _ _ h => h) (Wn.some hf rfl rfl rfl rfl) (rd_loadN hf rfl rfl ag26 sz26 (by intro _ h; exact loadN_of h (by repeat (first | exact Sel.head | apply Sel.tail)) (by repeat (first | exact Seg.nil | apply Seg.cons | apply Seg.succ)) )) hT rfl rfl ?_
                      clear hf; intro a hf
                      refine any_one (i := 24) rfl (by kernel_rfl) (st_call hf (Wn.some hf rfl rfl rfl rfl) rfl rfl rfl fn13 (Pln_c _ _ _ _ _ _ _ _ _ _ _ _ _ _ _ _  hS (fun _ h => h.entR (x := (q1, c1, L1)) (by repeat (first | exact Sel.head | apply Sel.tail)) hyE1 hLE1) (fun _ h => h.digR (x := (q2, c2, L2)) (by repeat (first | exact Sel.head | apply Sel.tail)) hyD1 hLD1) (fun _ h => h.memR (by repeat (first | exact Sel.head | apply Sel.tail)) hyM1 hLM1)) rfl rfl ?_)
                      clear hf hS; rintro v a w ⟨q4, c4, L4, q5, c5, L5, q6, c6, L6, rfl, hL4, hL5, hL6, hS⟩ hf; have hp2 : (⟨kd, fr, tn, plI (hasP 0 kd) (plI (hasP 0 kd) op), plI (hasP 1 kd) (plI (hasP 1 kd) fo), plB (hasP 2 kd) (plB (hasP 2 kd) ky), plI (hasP 3 kd) (plI (hasP 3 kd) bk), L4.map pEnt, L5.map pDig, L6.map pDot⟩ : PMsg) = plP (⟨kd, fr, tn, plI (hasP 0 kd) op, plI (hasP 1 kd) fo, plB (hasP 2 kd) ky, plI (hasP 3 kd) bk, L1.map pEnt, L2.map pDig, L3.map pDot⟩ : PMsg) := (by unfold plP; rw [hL4, hL5, hL6]); have hpp2 : plP (⟨kd, fr, tn, plI (hasP 0 kd) (plI (hasP 0 kd) op), plI (hasP 1 kd) (plI (hasP 1 kd) fo), plB (hasP 2 kd) (plB (hasP 2 kd) ky), plI (hasP 3 kd) (plI (hasP 3 kd) bk), L4.map pEnt, L5.map pDig, L6.map pDot⟩ : PMsg) = plP (⟨kd, fr, tn, plI (hasP 0 kd) op, plI (hasP 1 kd) fo, plB (hasP 2 kd) ky, plI (hasP 3 kd) bk, L1.map pEnt, L2.map pDig, L3.map pDot⟩ : PMsg) := (by rw [hp2, plP_plP]); have hLE2 := hL4.trans (plS_map pEnt _ (q1, c1, L1)).symm; have hLD2 := hL5.trans (plS_map pDig _ (q2, c2, L2)).symm; have hLM2 := map_len (hL6.trans (plS_map pDot _ (q3, c3, L3)).symm)
                      replace hT := hS.sub' hT (by repeat (first | exact Sub.refl | exact Sub.none | exact Sub.behind | (apply Sub.cons; (focus ((repeat (first | exact Sel.head | apply Sel.tail)); done))) | apply Sub.skip))
                      refine ⟨hT, ?_⟩
                      refine any_one (i := 26) rfl (by kernel_rfl) (st_call hf (Wn.some hf rfl rfl rfl rfl) rfl rfl rfl fn12 (MSame_c _ _ _ _ _ _ _ _ _ _ _ _ _ _ _ _ _ _ _ _ _ _ _ _ _ _ _ _ _ _ _ _  hS (fun _ h => h.entR (x := (q4, c4, L4)) (by repeat (first | exact Sel.head | apply Sel.tail)) hyE2 hLE2) (fun _ h => h.digR (x := (q5, c5, L5)) (by repeat (first | exact Sel.head | apply Sel.tail)) hyD2 hLD2) (fun _ h => h.memR (by repeat (first | exact Sel.head | apply Sel.tail)) hyM2 hLM2) (fun _ h => h.entR (x := (q1, c1, L1)) (by repeat (first | exact Sel.head | apply Sel.tail)) hyE1 hLE1) (fun _ h => h.digR (x := (q2, c2, L2)) (by repeat (first | exact Sel.head | apply Sel.tail)) hyD1 hLD1) (fun _ h => h.memR (by repeat (first | exact Sel.head | apply Sel.tail)) hyM1 hLM1)) rfl rfl ?_)
                      clear hf hS; rintro v a w ⟨rfl, hS⟩ hf
                      replace hT := hS.sub' hT (by repeat (first | exact Sub.refl | exact Sub.none | exact Sub.behind | (apply Sub.cons; (focus ((repeat (first | exact Sel.head | apply Sel.tail)); done))) | apply Sub.skip))
                      refine ⟨hT, ?_⟩
                      first | refine split_dec (d := 50) hf rfl ?_ ?_ | refine split_bool (d := 50) hf rfl ?_ ?_
                      · clear hf; intro hc11 hf
                        first
                        | (first | exact Bool.noConfusion hc11 | exact absurd rfl hc11; done)
                        | (
                          refine any_take (i := 27) hf rfl (by kernel_rfl) (by kernel_rfl) (by kernel_rfl) (fun _ _ _ h => h) (Wn.none rfl) (rd_pick_t hf rfl rfl rfl) hT rfl rfl ?_
                          clear hf; intro a hf
                          refine any_take (i := 28) hf rfl (by kernel_rfl) (by kernel_rfl) (by kernel_rfl) (fun _ _ _ h => h) (Wn.none rfl) (rd_move hf rfl rfl) hT rfl rfl ?_
                          clear hf; intro a hf
                          refine any_one (i := 29) rfl (by kernel_rfl) (st_call hf (Wn.some hf rfl rfl rfl rfl) rfl rfl rfl fn9 (awake_c hS) rfl rfl ?_)
                          clear hf hS; rintro v a w ⟨rfl, hS⟩ hf
                          replace hT := hS.sub' hT (by repeat (first | exact Sub.refl | exact Sub.none | exact Sub.behind | (apply Sub.cons; (focus ((repeat (first | exact Sel.head | apply Sel.tail)); done))) | apply Sub.skip))
                          refine ⟨hT, ?_⟩
                          refine any_take (i := 30) hf rfl (by kernel_rfl) (by kernel_rfl) (by kernel_rfl) (fun _ _ _ h => h) (Wn.none rfl) (rd_pick_t hf rfl rfl rfl) hT rfl rfl ?_
                          clear hf; intro a hf
                          refine any_take (i := 31) hf rfl (by kernel_rfl) (by kernel_rfl) (by kernel_rfl) (fun _ _ _ h => h) (Wn.none rfl) (rd_assign hf rfl rfl) hT rfl rfl ?_
                          clear hf; intro a hf
                          refine any_done (by kernel_rfl) ?_
                          refine t_normal ?_
                          refine c_ret ?_
                          refine e_res1 hf.defers rfl (res_tmp hf rfl .nil) ?_
                          exact ⟨rfl, hS.sub (by repeat (first | exact Sub.refl | exact Sub.none | exact Sub.behind | (apply Sub.cons; (focus ((repeat (first | exact Sel.head | apply Sel.tail)); done))) | apply Sub.skip))⟩
                          )
                      clear hf; intro hc11 hf
                      exact absurd (sameM_refl hpp2) (Bool.eq_false_iff.1 hc11)
                      )
                  clear hf; intro hc10 a hf
                  exact absurd hen.1.symm hc10
                  )
              clear hf; intro hc9 a hf
              exact absurd hen.2.symm hc9
              )
          clear hf; intro hc8 hf
          exact absurd (sameM_refl hpp1.symm) (Bool.eq_false_iff.1 hc8)
          )
      clear hf; intro hc7 a hf
      exact absurd hma hc7
      )
  clear hf; intro hc3 hf
  first
  | (first | exact Bool.noConfusion hc3 | exact absurd rfl hc3; done)
  | (
    refine step_l (st_rd hf (Wn.none rfl) (rd_not hf rfl rfl) hS rfl rfl ?_)
    clear hf; intro a hf
    refine done_l ?_
    refine t_normal ?_
    refine c_true hf rfl ?_
    refine c_seq ?_
    refine c_region ?_
    refine step_l (st_call hf (Wn.none rfl) rfl rfl rfl fn9 (awake_c hS) rfl rfl ?_)
    clear hf hS; rintro v a w ⟨rfl, hS⟩ hf
    refine step_l (st_rd hf (Wn.none rfl) (rd_assign hf rfl rfl) hS rfl rfl ?_)
    clear hf; intro a hf
    refine done_l ?_
    refine t_normal ?_
    refine c_ret ?_
    refine t_ret ?_
    refine e_res1 hf.defers rfl (res_tmp hf rfl .nil) ?_
    exact ⟨rfl, hS.sub (by repeat (first | exact Sub.refl | exact Sub.none | exact Sub.behind | (apply Sub.cons; (focus ((repeat (first | exact Sel.head | apply Sel.tail)); done))) | apply Sub.skip))⟩
    )

end Go.Proofs.Ytglmimbfelakbaa
