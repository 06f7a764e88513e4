/-
  The statement NetPlays, walked.
  Conditions: none.
-/
import Derived.Test.YtcflbdpjoanbgaaGreatPrt1
import Derived.Test.YtcflbdpjoanbgaaGreatREnc1
namespace Go.Proofs.YtcflbdpjoanbgaaGreat
open Go Go.Sl
set_option linter.unusedVariables false
set_option linter.unusedSimpArgs false
theorem ag27 : aggO Tryz.prog 27 = some true := by kernel_rfl
theorem fb27_0 : fieldB Tryz.prog 27 0 0 = true := by kernel_rfl
theorem fb27_1 : fieldB Tryz.prog 27 1 1 = true := by kernel_rfl
theorem fb27_2 : fieldB Tryz.prog 27 2 2 = true := by kernel_rfl
theorem fn10 : fnB Tryz.prog 10 = true := by kernel_rfl
theorem fn13 : fnB Tryz.prog 13 = true := by kernel_rfl
theorem fn14 : fnB Tryz.prog 14 = true := by kernel_rfl
theorem fn16 : fnB Tryz.prog 16 = true := by kernel_rfl
theorem fn17 : fnB Tryz.prog 17 = true := by kernel_rfl
theorem fn5 : fnB Tryz.prog 5 = true := by kernel_rfl
theorem fn6 : fnB Tryz.prog 6 = true := by kernel_rfl
theorem sz27 : (Tryz.prog.info? 27).map (·.size) = some 3 := by kernel_rfl
theorem zr27 : (Tryz.prog.info? 27).bind (·.zero) = some (.agg #[.int .i64 0, .int .i64 0, .slice none 0 0]) := by kernel_rfl
set_option maxRecDepth 100000 in
set_option maxHeartbeats 8000000 in
theorem NetPlays_c (l : List CallN) (ql : Option Addr) (cl : Nat) {W : World} {R : List HP} {w : World} (hS : Sat W (R) w) (hl9 : l.length ≤ 9223372036854775806) (hl : ∀ x ∈ l, ∀ w, Sat W R w → MsgsAt w x.2.2.1) (hvl : ∀ w, Sat W R w → SlAt w ql l.length 3 (l.flatMap callN)) : Calls Tryz.prog 3 [.slice ql l.length cl].toArray w (Ret fun v w' => v = .bool true ∧ Sat W R w') := by
 refine fn_start 206 Tryz.func3 rfl rfl rfl ?_
 intro a hf
 refine c_seq (c_region ?_)
 refine aN hf hS ?_; clear hf; intro a hf
 refine done_l (t_normal (c_seq (c_region ?_)))
 refine step_l (st_call hf (Wn.none rfl) rfl rfl rfl fn4 (NNew_c hS) rfl rfl ?_)
 clear hf hS; rintro v a w ⟨pn, rfl, hS⟩ hf
 refine aN hf hS ?_; clear hf; intro a hf
 refine done_l (t_normal (c_seq (c_seq (c_region ?_))))
 refine mN hf hS ?_; clear hf; intro a hf
 refine step_l (st_rdb hf (Wn.none rfl) (rd_eqlNilP hf rfl rfl rfl Tryz.underlying23) hS rfl rfl ?_ ?_)
 ·
  clear hf; intro hc1 a hf
  exact Bool.noConfusion hc1
 clear hf; intro hc1 a hf
 refine done_l (t_normal ?_)
 refine c_false hf rfl ?_
 refine c_skip (t_normal (c_seq (c_region ?_)))
 refine aN hf hS ?_; clear hf; intro a hf
 refine done_l (t_normal (c_seq (c_region ?_)))
 refine aN hf hS ?_; clear hf; intro a hf
 refine done_l (t_normal (c_seq (c_seq (c_region ?_))))
 refine aN hf hS ?_; clear hf; intro a hf
 refine done_l (t_normal (c_block ?_))
 have hk0 := Keep.ofA hf [(2, 2), (4, 19), (23, 193)]
 refine c_loopK hk0 (α := Nat × List MsgT × Option Addr × Nat × Int) (fun ⟨i, Ms, q, cap, lost⟩ => [(4, .slice q Ms.length cap), (5, .int .i64 lost), (6, .int .i64 (i : Nat))]) (fun ⟨i, Ms, q, cap, lost⟩ w => Sat W (Rw 32 10 q Ms.length cap (Ms.flatMap msgC) :: NetP 51 32 58 107 5 61 87 73 pn ((Ms).map pMsg) lost :: R) w ∧ i ≤ 60 ∧ (0 ≤ lost ∧ lost ≤ 8 * i) ∧ Ms.length ≤ 9 * i ∧ (∀ m ∈ Ms, plP (pMsg m) = pMsg m) ∧ (∀ m ∈ Ms, ∀ w, Sat W R w → MsgV w m)) (fun ⟨i, Ms, q, cap, lost⟩ => 60 - i) (0, [], none, 0, 0) ((((hf.keep hk0).kb hf 6 rfl (by first | rfl | exact int_eq (by omega))).kb hf 5 rfl (by first | rfl | exact int_eq (by omega))).kb hf 4 rfl (by first | rfl | exact int_eq (by omega))) ⟨(hS.rwNil 32 10).subA, ⟨by omega, by omega, by simp, fun m hm => (by cases hm), fun m hm => (by cases hm)⟩⟩ ?_
 clear hf hS; rintro ⟨i, Ms, q, cap, lost⟩ a w hf ⟨hS, ⟨hi, hlo, hml, hpp, hvv⟩⟩; (try dsimp only [List.cons_append, List.nil_append] at hf)
 refine c_seq (c_seq (c_region ?_))
 iterate 2 (refine mN hf hS ?_; clear hf; intro a hf)
 refine sR hf hS (rd_len hf rfl rfl Tryz.underlying22) ?_; clear hf; intro a hf
 refine sB hf hS (rd_lss hf rfl rfl rfl) ?_ ?_
 ·
  clear hf; intro hc2 a hf
  iterate 2 ((first | refine mN hf hS ?_ | refine step_l (st_rd hf (Wn.some hf rfl rfl rfl rfl) (rd_move hf rfl rfl) hS rfl rfl ?_)); clear hf; intro a hf)
  refine step_l (st_rdB hf (Wn.some hf rfl rfl rfl rfl) (rd_lss hf rfl rfl rfl) hS rfl rfl ?_ ?_)
  ·
   clear hf; intro hc3 a hf
   obtain ⟨x, hgc⟩ := get_of_lt (l := l) (k := i) (by omega) rfl; obtain ⟨adl, rfl⟩ := (hvl _ (hS.subA)).some (by omega); have hmsl := hl x (List.mem_of_getElem? hgc); obtain ⟨dc, ix, ⟨qL, cL, L⟩, _⟩ := x
   refine pT hf hS ?_; clear hf; intro a hf
   refine done_l (t_normal ?_)
   refine c_true hf rfl ?_
   refine c_skip (t_normal (c_seq (c_block (c_seq (c_region ?_)))))
   iterate 2 (refine mN hf hS ?_; clear hf; intro a hf)
   refine sR hf hS ((by first | exact rd_indexAddrN hf rfl rfl rfl Tryz.underlying22 sz27 (by omega) | exact rd_indexAddr hf rfl rfl rfl Tryz.underlying22 sz27 (by first | decide | omega) (by omega))) ?_; clear hf; intro a hf
   refine sR hf hS (rd_loadN hf rfl rfl ag27 sz27 (by intro _ h; exact (show AggAt _ _ _ [.int .i64 dc, .int .i64 ix, .slice qL L.length cL] from SlAt.elem (cells := callN) (hvl _ (h.subA)) (fun _ => rfl) hgc))) ?_; clear hf; intro a hf
   refine sA hf hS zr27 ?_
   clear hf hS; intro b_c a w hf hS
   refine sS hf hS sz27 ?_
   clear hf hS; intro a w hf hS
   refine done_l (t_normal (c_seq (c_seq (c_region ?_))))
   refine fA hf hS fb27_0 ?_; clear hf; intro a hf
   refine sR hf hS (rd_ld hf ag3) ?_; clear hf; intro a hf
   refine done_l (t_normal (c_block (c_seq (c_region ?_))))
   refine sB hf hS (rd_eql hf rfl rfl rfl) ?_ ?_
   ·
    clear hf; intro hc5 a hf
    refine aN hf hS ?_; clear hf; intro a hf
    refine done_l (t_normal ?_)
    refine c_true hf rfl ?_
    refine c_seq (c_region ?_)
    refine aN hf hS ?_; clear hf; intro a hf
    refine done_l (t_normal (c_seq (c_region ?_)))
    refine aN hf hS ?_; clear hf; intro a hf
    refine done_l (t_normal (c_seq (c_seq (c_region ?_))))
    refine fA hf hS fb27_2 ?_; clear hf; intro a hf
    refine sR hf hS (rd_ld hf ag25) ?_; clear hf; intro a hf
    refine sR hf hS (rd_len hf rfl rfl Tryz.underlying25) ?_; clear hf; intro a hf
    refine mN hf hS ?_; clear hf; intro a hf
    refine done_l (t_normal (c_block ?_))
    have hk1 := Keep.ofA hf [(4, 5), (8, 13), (49, 86)]
    refine c_loopK hk1 (α := Nat × Option Addr × Nat × List MsgT × Option Addr × Nat × Int × Nat) (fun ⟨j, qo, co, M2, q2, cap2, lost2, k2⟩ => [(4, .slice q2 M2.length cap2), (5, .int .i64 lost2), (8, .int .i64 (k2 : Nat)), (9, .slice qo (L.take j).length co), (49, .int .i64 (j : Nat))]) (fun ⟨j, qo, co, M2, q2, cap2, lost2, k2⟩ w => Sat W (Rw 32 10 qo (L.take j).length co ((L.take j).flatMap msgC) :: Rw 32 10 q2 M2.length cap2 (M2.flatMap msgC) :: NetP 51 32 58 107 5 61 87 73 pn ((Ms).map pMsg) lost :: R) w ∧ (j ≤ 8 ∧ j ≤ L.length) ∧ (lost ≤ lost2 ∧ lost2 ≤ lost + j ∧ k2 ≤ j) ∧ sendS ((L.map pMsg).take j) (((Ms).map pMsg), lost, 0) = (((M2).map pMsg), lost2, k2) ∧ M2.length ≤ Ms.length + j ∧ (∀ m ∈ M2, plP (pMsg m) = pMsg m) ∧ (∀ m ∈ M2, ∀ w, Sat W R w → MsgV w m)) (fun ⟨j, qo, co, M2, q2, cap2, lost2, k2⟩ => 8 - j) (0, none, 0, Ms, q, cap, lost, 0) ((((((hf.keep hk1).kb hf 49 rfl (by first | rfl | exact int_eq (by omega))).kb hf 9 rfl (by first | rfl | exact int_eq (by omega))).kb hf 8 rfl (by first | rfl | exact int_eq (by omega))).kb hf 5 rfl (by first | rfl | exact int_eq (by omega))).kb hf 4 rfl (by first | rfl | exact int_eq (by omega))) ⟨(hS.rwNil 32 10).subA, ⟨by omega, by omega, rfl, by omega, hpp, hvv⟩⟩ ?_
    clear hf hS; rintro ⟨j, qo, co, M2, q2, cap2, lost2, k2⟩ a w hf ⟨hS, ⟨hj, hlo2, hst, hml2, hpp2, hvv2⟩⟩; (try dsimp only [List.cons_append, List.nil_append] at hf)
    refine c_seq (c_region ?_)
    refine sB hf hS (rd_lss hf rfl rfl rfl) ?_ ?_
    ·
     clear hf; intro hc6 a hf
     obtain ⟨x, hget⟩ := get_of_lt (l := L) (k := j) (by omega) rfl; obtain ⟨ad, rfl⟩ := (hmsl _ (hS.subA)).some (by omega); have hmv := fun w h => (hmsl w h).in hget; obtain ⟨kd, fr, tn, op, fo, ky, bk, ⟨qe, ce, es⟩, ⟨qd, cd, ds⟩, ⟨qm, cm, ms⟩, _⟩ := x; have hle := (hmv _ (hS.subA)).1.len; have hld := (hmv _ (hS.subA)).2.1.len; have hlm := (hmv _ (hS.subA)).2.2.len; (try dsimp only [mEs, mDs, mMs] at hle hld hlm); have hlj : (L.take j).length = j := (by rw [List.length_take]; omega)
     refine done_l (t_normal (c_seq ?_))
     refine c_true hf rfl ?_
     refine c_skip (t_normal (c_seq (c_block (c_seq (c_region ?_)))))
     refine mN hf hS ?_; clear hf; intro a hf
     refine sR hf hS ((by first | exact rd_indexAddrN hf rfl rfl rfl Tryz.underlying25 sz32 (by omega) | exact rd_indexAddr hf rfl rfl rfl Tryz.underlying25 sz32 (by first | decide | omega) (by omega))) ?_; clear hf; intro a hf
     refine sR hf hS (rd_loadN hf rfl rfl ag32 sz32 (by intro _ h; exact (show AggAt _ _ _ [.int .i64 kd, .int .i64 fr, .int .i64 tn, .int .i64 op, .int .i64 fo, .string (str ky), .int .i64 bk, .slice qe es.length ce, .slice qd ds.length cd, .slice qm ms.length cm] from (hmsl _ (h.subA)).el hget))) ?_; clear hf; intro a hf
     refine sA hf hS zr32 ?_
     clear hf hS; intro b_x a w hf hS
     refine aN hf hS ?_; clear hf; intro a hf
     refine sS hf hS sz32 ?_
     clear hf hS; intro a w hf hS
     refine done_l (t_normal (c_seq (c_seq (c_region ?_))))
     refine mN hf hS ?_; clear hf; intro a hf
     refine sB hf hS (rd_geq hf rfl rfl rfl) ?_ ?_
     ·
      clear hf; intro hc8 a hf
      iterate 5 ((first | refine kS hf ?_ | refine mN hf hS ?_ | refine pT hf hS ?_); clear hf; intro a hf)
      refine done_l (t_normal ?_)
      refine c_true hf rfl ?_
      refine c_exit (t_exit ?_)
      refine b_exit' (by decide) ?_
      refine t_exit (t_exit (b_exit (t_normal (c_seq (c_region ?_)))))
      iterate 2 (refine mN hf hS ?_; clear hf; intro a hf)
      refine step_l (st_call hf (Wn.none rfl) rfl rfl rfl fn8 (NSend_c pn ((Ms).map pMsg) lost (L.take j) _ _ (hS.selA) (fun _ h => ⟨h.slOfRw (xs := (L.take j).flatMap msgC) (by repeat (first | exact Sel.head | apply Sel.tail)), fun m hm => (hmsl _ (h.subA)).2 m (List.mem_of_mem_take hm)⟩) ⟨by omega, by rw [List.length_take]; omega⟩) rfl rfl ?_)
      clear hf hS; rintro v a w ⟨rfl, hS⟩ hf; rw [List.map_take, hst] at hf hS; dsimp only at hf hS
      refine mN hf hS ?_; clear hf; intro a hf
      refine sB hf hS (rd_neq hf rfl rfl rfl) ?_ ?_
      ·
       clear hf; intro hc9 a hf
       exact absurd rfl hc9
      clear hf; intro hc9 a hf
      refine done_l (t_normal ?_)
      refine c_false hf rfl ?_
      refine c_skip (b_normal (t_normal (c_seq (c_region ?_))))
      refine mN hf hS ?_; clear hf; intro a hf
      refine step_l (st_call hf (Wn.none rfl) rfl rfl rfl fn15 (NLen_c _ _ _ (hS.selA)) rfl rfl ?_)
      clear hf hS; rintro v a w ⟨rfl, hS⟩ hf
      refine mN hf hS ?_; clear hf; intro a hf
      refine sR hf hS (rd_len hf rfl rfl Tryz.underlying25) ?_; clear hf; intro a hf
      refine sB hf hS (rd_neq hf rfl rfl rfl) ?_ ?_
      ·
       clear hf; intro hc10 a hf
       first | exact absurd rfl hc10 | exact absurd (by rw [List.length_map]) hc10
      clear hf; intro hc10 a hf
      iterate 2 ((first | refine mN hf hS ?_ | refine step_l (st_rd hf (Wn.some hf rfl rfl rfl rfl) (rd_move hf rfl rfl) hS rfl rfl ?_)); clear hf; intro a hf)
      refine step_l (st_call hf (Wn.some hf rfl rfl rfl rfl) rfl rfl rfl fn16 (NLost_c _ _ _ (hS.selA)) rfl rfl ?_)
      clear hf hS; rintro v a w ⟨rfl, hS⟩ hf
      refine sG hf hS (rd_move hf rfl rfl) ?_; clear hf; intro a hf
      refine step_l (st_rdB hf (Wn.some hf rfl rfl rfl rfl) (rd_neq hf rfl rfl rfl) hS rfl rfl ?_ ?_)
      ·
       clear hf; intro hc11 a hf
       exact absurd rfl hc11
      clear hf; intro hc11 a hf
      refine pF hf hS ?_; clear hf; intro a hf
      refine done_l (t_normal ?_)
      refine c_false hf rfl ?_
      refine c_skip (b_normal (t_normal (c_region ?_)))
      refine mN hf hS ?_; clear hf; intro a hf
      refine sP hf hS ?_; clear hf; intro a hf
      refine aN hf hS ?_; clear hf; intro a hf
      refine done_l ?_
      refine t_normal ⟨(i + 1, M2, q2, cap2, lost2), ((((hf.backA hk0).kb hf 6 rfl (by first | rfl | exact int_eq (by omega))).kb hf 5 rfl (by first | rfl | exact int_eq (by omega))).kb hf 4 rfl (by first | rfl | exact int_eq (by omega))), ⟨hS.subA, ⟨by omega, by omega, by omega, hpp2, hvv2⟩⟩, by first | omega | (simp only []; omega)⟩
     clear hf; intro hc8 a hf
     refine mN hf hS ?_; clear hf; intro a hf
     refine sG hf hS (rd_ldN hf ag32 sz32) ?_; clear hf; intro a hf
     refine step_l (st_call hf (Wn.some hf rfl rfl rfl rfl) rfl rfl rfl fn5 (light_c _ _ _ _ _ _ _ _ _ _ _ _ _ _ _ _  hS (fun _ h => (hmv _ (h.subA)).1) (fun _ h => (hmv _ (h.subA)).2.1) (fun _ h => (hmv _ (h.subA)).2.2) (by omega) (by omega) (by omega)) rfl rfl ?_)
     clear hf hS; rintro v a w ⟨bb1, rfl, hbb1, hS⟩ hf
     first | refine split_dec (d := 58) hf rfl ?_ ?_ | refine split_bool (d := 58) hf rfl ?_ ?_
     ·
      clear hf; intro hc12 hf
      refine sG hf hS (rd_not hf rfl rfl) ?_; clear hf; intro a hf
      refine pF hf hS ?_; clear hf; intro a hf
      refine done_l (t_normal ?_)
      refine c_false hf rfl ?_
      refine c_skip (t_normal (c_seq (c_region ?_)))
      refine mN hf hS ?_; clear hf; intro a hf
      refine sR hf hS (rd_ldN hf ag32 sz32) ?_; clear hf; intro a hf
      refine step_l (st_buildSlice hf (Wn.none rfl) hS rfl rfl Tryz.underlying25 sz32 zr32 (by decide) bz32_1 rfl (.cons rfl (by first | rfl) (by rfl) (by repeat (first | exact Put.nil | apply Put.cons | apply Put.succ)) .nil) rfl rfl ?_)
      clear hf hS; intro b_13 a w hf hS
      refine step_l (st_append hf (Wn.none rfl) rfl rfl rfl Tryz.underlying25 tyb32 (by rfl) (by decide) hS (by repeat (first | exact Sel.head | apply Sel.tail)) (by first | exact hS.slOfBlk (by repeat (first | exact Sel.head | apply Sel.tail)) (by rfl) | exact hS.slOfBlkPre (by repeat (first | exact Sel.head | apply Sel.tail)) (bvs_len1 _) | exact hS.slOfRw (by repeat (first | exact Sel.head | apply Sel.tail)) | exact SlAt.nil _ _ _) (by first | rfl | exact bvs_one _ | (simp [Value.oneCell']; done) | exact (show List.all (msgC ((kd, fr, tn, op, fo, ky, bk, (qe, ce, es), (qd, cd, ds), (qm, cm, ms), ()) : MsgT)) _ = true from rfl) | exact (show List.all (msgC ((kd, fr, tn, op', fo', ky', bk', (qe', ce', es'), (qd', cd', ds'), (qm', cm', ms'), ()) : MsgT)) _ = true from rfl) | exact (show List.all (msgC ((kd2, fr2, tn2, op2, fo2, ky2, bk2, (qe2, ce2, es2), (qd2, cd2, ds2), (qm2, cm2, ms2), ()) : MsgT)) _ = true from rfl) | exact one_drop (one_msg Ms) | exact one_take (one_msg Ms)) (by omega) rfl rfl ?_)
      clear hf hS; intro pA64 capA64 a w hf hS hnilA
      refine aN hf hS ?_; clear hf; intro a hf
      refine done_l (t_normal (c_seq (c_region ?_)))
      refine sR hf hS (rd_ldN hf ag32 sz32) ?_; clear hf; intro a hf
      refine step_l (st_call hf (Wn.none rfl) rfl rfl rfl fn6 (REnc_c _ _ _ _ _ _ _ _ _ _ _ _ _ _ _ _  hS (fun _ h => (hmv _ (h.subA)).1) (fun _ h => (hmv _ (h.subA)).2.1) (fun _ h => (hmv _ (h.subA)).2.2) (by omega) (by omega) (by omega)) rfl rfl ?_)
      clear hf hS; rintro v a w ⟨qe_1, cape_1, rfl, hS⟩ hf
      refine mN hf hS ?_; clear hf; intro a hf
      refine sR hf hS (rd_extract hf rfl rfl rfl) ?_; clear hf; intro a hf
      refine sR hf hS (rd_extract hf rfl rfl rfl) ?_; clear hf; intro a hf
      iterate 2 (refine aN hf hS ?_; clear hf; intro a hf)
      refine done_l (t_normal (c_seq (c_region ?_)))
      refine mN hf hS ?_; clear hf; intro a hf
      refine sB hf hS (rd_eql hf rfl rfl rfl) ?_ ?_
      ·
       clear hf; intro hc15 a hf
       have hEE := hc15
       iterate 2 ((first | refine mN hf hS ?_ | refine step_l (st_rd hf (Wn.some hf rfl rfl rfl rfl) (rd_move hf rfl rfl) hS rfl rfl ?_)); clear hf; intro a hf)
       refine sG hf hS (rd_len hf rfl rfl Tryz.underlying25) ?_; clear hf; intro a hf
       refine step_l (st_rdB hf (Wn.some hf rfl rfl rfl rfl) (rd_lss hf rfl rfl rfl) hS rfl rfl ?_ ?_)
       ·
        clear hf; intro hc16 a hf
        refine pT hf hS ?_; clear hf; intro a hf
        refine done_l (t_normal ?_)
        refine c_true hf rfl ?_
        refine c_seq (c_region ?_)
        refine mN hf hS ?_; clear hf; intro a hf
        refine sR hf hS (rd_ldN hf ag32 sz32) ?_; clear hf; intro a hf
        refine step_l (st_call hf (Wn.none rfl) rfl rfl rfl fn7 (RPlain_c _ _ _ _ _ _ _ _ _ _ _ _ _ _ _ _ hS) rfl rfl ?_)
        clear hf hS; rintro v a w ⟨rfl, hS⟩ hf; have hve : ∀ w, Sat W R w → EntsAt w (qe, ce, es) := fun w h => (hmv w h).1; have hvd : ∀ w, Sat W R w → DigsAt w (qd, cd, ds) := fun w h => (hmv w h).2.1; have hvm : ∀ w, Sat W R w → DotsAt w (qm, cm, ms) := fun w h => (hmv w h).2.2; obtain ⟨op', hop⟩ : ∃ x, plI (hasP 0 kd) op = x := ⟨_, rfl⟩; obtain ⟨fo', hfo⟩ : ∃ x, plI (hasP 1 kd) fo = x := ⟨_, rfl⟩; obtain ⟨ky', hky⟩ : ∃ x, plB (hasP 2 kd) ky = x := ⟨_, rfl⟩; obtain ⟨bk', hbk⟩ : ∃ x, plI (hasP 3 kd) bk = x := ⟨_, rfl⟩; obtain ⟨⟨qe', ce', es'⟩, hes⟩ : ∃ x, plS (hasP 4 kd) (qe, ce, es) = x := ⟨_, rfl⟩; obtain ⟨⟨qd', cd', ds'⟩, hds⟩ : ∃ x, plS (hasP 5 kd) (qd, cd, ds) = x := ⟨_, rfl⟩; obtain ⟨⟨qm', cm', ms'⟩, hms⟩ : ∃ x, plS (hasP 6 kd) (qm, cm, ms) = x := ⟨_, rfl⟩; have hpl := plP_eq (fr := fr) (tn := tn) hop hfo hky hbk hes hds hms; rw [hop, hfo, hky, hbk, hes, hds, hms] at hf; dsimp only [slv] at hf; dsimp only at hpl; have hve' : ∀ w, Sat W R w → EntsAt w (qe', ce', es') := (by intro w h; rw [← hes]; exact plS_at (hve w h) (EntsAt.nil w)); have hvd' : ∀ w, Sat W R w → DigsAt w (qd', cd', ds') := (by intro w h; rw [← hds]; exact plS_at (hvd w h) (DigsAt.nil w)); have hvm' : ∀ w, Sat W R w → DotsAt w (qm', cm', ms') := (by intro w h; rw [← hms]; exact plS_at (hvm w h) (DotsAt.nil w)); have hE0 : hasP 4 kd = false → es'.length = 0 := plS_len0 hes
        refine step_l (st_buildSlice hf (Wn.none rfl) hS rfl rfl Tryz.underlying25 sz32 zr32 (by decide) bz32_1 rfl (.cons rfl (by first | rfl) (by rfl) (by repeat (first | exact Put.nil | apply Put.cons | apply Put.succ)) .nil) rfl rfl ?_)
        clear hf hS; intro b_17 a w hf hS
        refine step_l (st_append hf (Wn.none rfl) rfl rfl rfl Tryz.underlying25 tyb32 (by rfl) (by decide) hS (by repeat (first | exact Sel.head | apply Sel.tail)) (by first | exact hS.slOfBlk (by repeat (first | exact Sel.head | apply Sel.tail)) (by rfl) | exact hS.slOfBlkPre (by repeat (first | exact Sel.head | apply Sel.tail)) (bvs_len1 _) | exact hS.slOfRw (by repeat (first | exact Sel.head | apply Sel.tail)) | exact SlAt.nil _ _ _) (by first | rfl | exact bvs_one _ | (simp [Value.oneCell']; done) | exact (show List.all (msgC ((kd, fr, tn, op, fo, ky, bk, (qe, ce, es), (qd, cd, ds), (qm, cm, ms), ()) : MsgT)) _ = true from rfl) | exact (show List.all (msgC ((kd, fr, tn, op', fo', ky', bk', (qe', ce', es'), (qd', cd', ds'), (qm', cm', ms'), ()) : MsgT)) _ = true from rfl) | exact (show List.all (msgC ((kd2, fr2, tn2, op2, fo2, ky2, bk2, (qe2, ce2, es2), (qd2, cd2, ds2), (qm2, cm2, ms2), ()) : MsgT)) _ = true from rfl) | exact one_drop (one_msg Ms) | exact one_take (one_msg Ms)) (by omega) rfl rfl ?_)
        clear hf hS; intro pA81 capA81 a w hf hS hnilA
        refine aN hf hS ?_; clear hf; intro a hf
        refine done_l (t_normal (c_region ?_))
        refine mN hf hS ?_; clear hf; intro a hf
        refine sP hf hS ?_; clear hf; intro a hf
        refine aN hf hS ?_; clear hf; intro a hf
        refine done_l (b_normal (t_normal (c_region ?_)))
        refine sP hf hS ?_; clear hf; intro a hf
        refine mN hf hS ?_; clear hf; intro a hf
        refine done_l ?_
        have h2 : Sat W (Rw 32 10 pA64 ((L.take j).length + 1) capA64 ((L.take j).flatMap msgC ++ msgC ((kd, fr, tn, op, fo, ky, bk, (qe, ce, es), (qd, cd, ds), (qm, cm, ms), ()) : MsgT)) :: Rw 32 10 pA81 (M2.length + 1) capA81 (M2.flatMap msgC ++ msgC ((kd, fr, tn, op', fo', ky', bk', (qe', ce', es'), (qd', cd', ds'), (qm', cm', ms'), ()) : MsgT)) :: NetP 51 32 58 107 5 61 87 73 pn ((Ms).map pMsg) lost :: R) w := hS.subA; replace h2 := h2.rwCast (xs' := (L.take (j + 1)).flatMap msgC) (len' := (L.take (j + 1)).length) (flat_step hget).symm (by rw [List.length_take, List.length_take]; omega); have hln : (L.take (j + 1)).length = (L.take j).length + 1 := (by rw [List.length_take, List.length_take]; omega); have h3 : Sat W (Rw 32 10 pA81 (M2.length + 1) capA81 (M2.flatMap msgC ++ msgC ((kd, fr, tn, op', fo', ky', bk', (qe', ce', es'), (qd', cd', ds'), (qm', cm', ms'), ()) : MsgT)) :: Rw 32 10 pA64 (L.take (j + 1)).length capA64 ((L.take (j + 1)).flatMap msgC) :: NetP 51 32 58 107 5 61 87 73 pn ((Ms).map pMsg) lost :: R) w := h2.subA; replace h3 := h3.rwCast (xs' := (M2 ++ [((kd, fr, tn, op', fo', ky', bk', (qe', ce', es'), (qd', cd', ds'), (qm', cm', ms'), ()) : MsgT)]).flatMap msgC) (len' := (M2 ++ [((kd, fr, tn, op', fo', ky', bk', (qe', ce', es'), (qd', cd', ds'), (qm', cm', ms'), ()) : MsgT)]).length) (by rw [List.flatMap_append]; rfl) (by rw [List.length_append]; rfl); have hs1 := sendS_step (s := (((Ms).map pMsg), lost, 0)) (map_get pMsg hget); rw [hst] at hs1; have hs2 : sendS ((L.map pMsg).take (j + 1)) (((Ms).map pMsg), lost, 0) = sendX (((M2).map pMsg), lost2, k2) (⟨kd, fr, tn, op, fo, ky, bk, es.map pEnt, ds.map pDig, ms.map pDot⟩ : PMsg) := hs1; rw [sendX_yes (s := (((M2).map pMsg), lost2, k2)) (show encE (⟨kd, fr, tn, op, fo, ky, bk, es.map pEnt, ds.map pDig, ms.map pDot⟩ : PMsg) = 0 from hEE) (by show (M2.map pMsg).length < 2000; rw [List.length_map]; omega), hpl] at hs2; have hmx : ((M2 ++ [((kd, fr, tn, op', fo', ky', bk', (qe', ce', es'), (qd', cd', ds'), (qm', cm', ms'), ()) : MsgT)]).map pMsg) = ((M2).map pMsg) ++ [pMsg ((kd, fr, tn, op', fo', ky', bk', (qe', ce', es'), (qd', cd', ds'), (qm', cm', ms'), ()) : MsgT)] := List.map_append; replace hs2 := hs2.trans (show _ = (((M2 ++ [((kd, fr, tn, op', fo', ky', bk', (qe', ce', es'), (qd', cd', ds'), (qm', cm', ms'), ()) : MsgT)]).map pMsg), lost2, k2 + 1) by rw [hmx]; rfl)
        refine t_normal ⟨(j + 1, pA64, capA64, M2 ++ [((kd, fr, tn, op', fo', ky', bk', (qe', ce', es'), (qd', cd', ds'), (qm', cm', ms'), ()) : MsgT)], pA81, capA81, lost2, k2 + 1), ((((((hf.backA hk1).kb hf 49 rfl (by first | rfl | exact int_eq (by omega))).kb hf 9 rfl (by exact slice_eq hln.symm)).kb hf 8 rfl (by first | rfl | exact int_eq (by omega))).kb hf 5 rfl (by first | rfl | exact int_eq (by omega))).kb hf 4 rfl (by exact slice_eq (by rw [List.length_append]; rfl))), ⟨(h3.subA), ⟨by omega, by omega, hs2, by rw [List.length_append]; simp only [List.length_cons, List.length_nil]; omega, all_snoc hpp2 (show plP (pMsg ((kd, fr, tn, op', fo', ky', bk', (qe', ce', es'), (qd', cd', ds'), (qm', cm', ms'), ()) : MsgT)) = pMsg ((kd, fr, tn, op', fo', ky', bk', (qe', ce', es'), (qd', cd', ds'), (qm', cm', ms'), ()) : MsgT) by rw [show pMsg ((kd, fr, tn, op', fo', ky', bk', (qe', ce', es'), (qd', cd', ds'), (qm', cm', ms'), ()) : MsgT) = _ from hpl.symm, plP_plP]), all_snoc hvv2 (fun w h => ⟨hve' w h, hvd' w h, hvm' w h⟩)⟩⟩, by first | omega | (simp only []; omega)⟩
       clear hf; intro hc16 a hf
       refine pT hf hS ?_; clear hf; intro a hf
       refine done_l (t_normal ?_)
       refine c_false hf rfl ?_
       refine c_region ?_
       refine mN hf hS ?_; clear hf; intro a hf
       refine sP hf hS ?_; clear hf; intro a hf
       refine aN hf hS ?_; clear hf; intro a hf
       refine done_l (b_normal (t_normal (c_region ?_)))
       refine sP hf hS ?_; clear hf; intro a hf
       refine mN hf hS ?_; clear hf; intro a hf
       refine done_l ?_
       have h2 : Sat W (Rw 32 10 pA64 ((L.take j).length + 1) capA64 ((L.take j).flatMap msgC ++ msgC ((kd, fr, tn, op, fo, ky, bk, (qe, ce, es), (qd, cd, ds), (qm, cm, ms), ()) : MsgT)) :: Rw 32 10 q2 M2.length cap2 (M2.flatMap msgC) :: NetP 51 32 58 107 5 61 87 73 pn ((Ms).map pMsg) lost :: R) w := hS.subA; replace h2 := h2.rwCast (xs' := (L.take (j + 1)).flatMap msgC) (len' := (L.take (j + 1)).length) (flat_step hget).symm (by rw [List.length_take, List.length_take]; omega); have hln : (L.take (j + 1)).length = (L.take j).length + 1 := (by rw [List.length_take, List.length_take]; omega); have hs1 := sendS_step (s := (((Ms).map pMsg), lost, 0)) (map_get pMsg hget); rw [hst] at hs1; have hs2 : sendS ((L.map pMsg).take (j + 1)) (((Ms).map pMsg), lost, 0) = sendX (((M2).map pMsg), lost2, k2) (⟨kd, fr, tn, op, fo, ky, bk, es.map pEnt, ds.map pDig, ms.map pDot⟩ : PMsg) := hs1; rw [sendX_no2 (s := ((M2.map pMsg), lost2, k2)) (by show ¬ (M2.map pMsg).length < 2000; rw [List.length_map]; omega)] at hs2
       refine t_normal ⟨(j + 1, pA64, capA64, M2, q2, cap2, lost2 + 1, k2), ((((((hf.backA hk1).kb hf 49 rfl (by first | rfl | exact int_eq (by omega))).kb hf 9 rfl (by exact slice_eq hln.symm)).kb hf 8 rfl (by first | rfl | exact int_eq (by omega))).kb hf 5 rfl (by first | rfl | exact int_eq (by omega))).kb hf 4 rfl (by first | rfl | exact int_eq (by omega))), ⟨(h2.subA), ⟨by omega, by omega, hs2, by omega, hpp2, hvv2⟩⟩, by first | omega | (simp only []; omega)⟩
      clear hf; intro hc15 a hf
      have hEE := hc15
      iterate 5 ((first | refine kS hf ?_ | refine mN hf hS ?_ | refine pF hf hS ?_); clear hf; intro a hf)
      refine done_l (t_normal ?_)
      refine c_false hf rfl ?_
      refine c_region ?_
      refine mN hf hS ?_; clear hf; intro a hf
      refine sP hf hS ?_; clear hf; intro a hf
      refine aN hf hS ?_; clear hf; intro a hf
      refine done_l (b_normal (t_normal (c_region ?_)))
      refine sP hf hS ?_; clear hf; intro a hf
      refine mN hf hS ?_; clear hf; intro a hf
      refine done_l ?_
      have h2 : Sat W (Rw 32 10 pA64 ((L.take j).length + 1) capA64 ((L.take j).flatMap msgC ++ msgC ((kd, fr, tn, op, fo, ky, bk, (qe, ce, es), (qd, cd, ds), (qm, cm, ms), ()) : MsgT)) :: Rw 32 10 q2 M2.length cap2 (M2.flatMap msgC) :: NetP 51 32 58 107 5 61 87 73 pn ((Ms).map pMsg) lost :: R) w := hS.subA; replace h2 := h2.rwCast (xs' := (L.take (j + 1)).flatMap msgC) (len' := (L.take (j + 1)).length) (flat_step hget).symm (by rw [List.length_take, List.length_take]; omega); have hln : (L.take (j + 1)).length = (L.take j).length + 1 := (by rw [List.length_take, List.length_take]; omega); have hs1 := sendS_step (s := (((Ms).map pMsg), lost, 0)) (map_get pMsg hget); rw [hst] at hs1; have hs2 : sendS ((L.map pMsg).take (j + 1)) (((Ms).map pMsg), lost, 0) = sendX (((M2).map pMsg), lost2, k2) (⟨kd, fr, tn, op, fo, ky, bk, es.map pEnt, ds.map pDig, ms.map pDot⟩ : PMsg) := hs1; rw [sendX_no1 (s := ((M2.map pMsg), lost2, k2)) (show ¬ encE (⟨kd, fr, tn, op, fo, ky, bk, es.map pEnt, ds.map pDig, ms.map pDot⟩ : PMsg) = 0 from hEE)] at hs2
      refine t_normal ⟨(j + 1, pA64, capA64, M2, q2, cap2, lost2 + 1, k2), ((((((hf.backA hk1).kb hf 49 rfl (by first | rfl | exact int_eq (by omega))).kb hf 9 rfl (by exact slice_eq hln.symm)).kb hf 8 rfl (by first | rfl | exact int_eq (by omega))).kb hf 5 rfl (by first | rfl | exact int_eq (by omega))).kb hf 4 rfl (by first | rfl | exact int_eq (by omega))), ⟨(h2.subA), ⟨by omega, by omega, hs2, by omega, hpp2, hvv2⟩⟩, by first | omega | (simp only []; omega)⟩
     clear hf; intro hc12 hf
     refine sG hf hS (rd_not hf rfl rfl) ?_; clear hf; intro a hf
     refine pF hf hS ?_; clear hf; intro a hf
     refine done_l (t_normal ?_)
     refine c_true hf rfl ?_
     refine c_exit (t_exit ?_)
     refine b_exit' (by decide) ?_
     refine t_exit (t_exit (b_exit (t_normal (c_seq (c_region ?_)))))
     iterate 2 (refine mN hf hS ?_; clear hf; intro a hf)
     refine step_l (st_call hf (Wn.none rfl) rfl rfl rfl fn8 (NSend_c pn ((Ms).map pMsg) lost (L.take j) _ _ (hS.selA) (fun _ h => ⟨h.slOfRw (xs := (L.take j).flatMap msgC) (by repeat (first | exact Sel.head | apply Sel.tail)), fun m hm => (hmsl _ (h.subA)).2 m (List.mem_of_mem_take hm)⟩) ⟨by omega, by rw [List.length_take]; omega⟩) rfl rfl ?_)
     clear hf hS; rintro v a w ⟨rfl, hS⟩ hf; rw [List.map_take, hst] at hf hS; dsimp only at hf hS
     refine mN hf hS ?_; clear hf; intro a hf
     refine sB hf hS (rd_neq hf rfl rfl rfl) ?_ ?_
     ·
      clear hf; intro hc19 a hf
      exact absurd rfl hc19
     clear hf; intro hc19 a hf
     refine done_l (t_normal ?_)
     refine c_false hf rfl ?_
     refine c_skip (b_normal (t_normal (c_seq (c_region ?_))))
     refine mN hf hS ?_; clear hf; intro a hf
     refine step_l (st_call hf (Wn.none rfl) rfl rfl rfl fn15 (NLen_c _ _ _ (hS.selA)) rfl rfl ?_)
     clear hf hS; rintro v a w ⟨rfl, hS⟩ hf
     refine mN hf hS ?_; clear hf; intro a hf
     refine sR hf hS (rd_len hf rfl rfl Tryz.underlying25) ?_; clear hf; intro a hf
     refine sB hf hS (rd_neq hf rfl rfl rfl) ?_ ?_
     ·
      clear hf; intro hc20 a hf
      first | exact absurd rfl hc20 | exact absurd (by rw [List.length_map]) hc20
     clear hf; intro hc20 a hf
     iterate 2 ((first | refine mN hf hS ?_ | refine step_l (st_rd hf (Wn.some hf rfl rfl rfl rfl) (rd_move hf rfl rfl) hS rfl rfl ?_)); clear hf; intro a hf)
     refine step_l (st_call hf (Wn.some hf rfl rfl rfl rfl) rfl rfl rfl fn16 (NLost_c _ _ _ (hS.selA)) rfl rfl ?_)
     clear hf hS; rintro v a w ⟨rfl, hS⟩ hf
     refine sG hf hS (rd_move hf rfl rfl) ?_; clear hf; intro a hf
     refine step_l (st_rdB hf (Wn.some hf rfl rfl rfl rfl) (rd_neq hf rfl rfl rfl) hS rfl rfl ?_ ?_)
     ·
      clear hf; intro hc21 a hf
      exact absurd rfl hc21
     clear hf; intro hc21 a hf
     refine pF hf hS ?_; clear hf; intro a hf
     refine done_l (t_normal ?_)
     refine c_false hf rfl ?_
     refine c_skip (b_normal (t_normal (c_region ?_)))
     refine mN hf hS ?_; clear hf; intro a hf
     refine sP hf hS ?_; clear hf; intro a hf
     refine aN hf hS ?_; clear hf; intro a hf
     refine done_l ?_
     refine t_normal ⟨(i + 1, M2, q2, cap2, lost2), ((((hf.backA hk0).kb hf 6 rfl (by first | rfl | exact int_eq (by omega))).kb hf 5 rfl (by first | rfl | exact int_eq (by omega))).kb hf 4 rfl (by first | rfl | exact int_eq (by omega))), ⟨hS.subA, ⟨by omega, by omega, by omega, hpp2, hvv2⟩⟩, by first | omega | (simp only []; omega)⟩
    clear hf; intro hc6 a hf
    refine done_l (t_normal (c_seq ?_))
    refine c_false hf rfl ?_
    refine c_exit (t_exit (t_exit (b_exit (t_normal (c_seq (c_region ?_))))))
    iterate 2 (refine mN hf hS ?_; clear hf; intro a hf)
    refine step_l (st_call hf (Wn.none rfl) rfl rfl rfl fn8 (NSend_c pn ((Ms).map pMsg) lost (L.take j) _ _ (hS.selA) (fun _ h => ⟨h.slOfRw (xs := (L.take j).flatMap msgC) (by repeat (first | exact Sel.head | apply Sel.tail)), fun m hm => (hmsl _ (h.subA)).2 m (List.mem_of_mem_take hm)⟩) ⟨by omega, by rw [List.length_take]; omega⟩) rfl rfl ?_)
    clear hf hS; rintro v a w ⟨rfl, hS⟩ hf; rw [List.map_take, hst] at hf hS; dsimp only at hf hS
    refine mN hf hS ?_; clear hf; intro a hf
    refine sB hf hS (rd_neq hf rfl rfl rfl) ?_ ?_
    ·
     clear hf; intro hc22 a hf
     exact absurd rfl hc22
    clear hf; intro hc22 a hf
    refine done_l (t_normal ?_)
    refine c_false hf rfl ?_
    refine c_skip (b_normal (t_normal (c_seq (c_region ?_))))
    refine mN hf hS ?_; clear hf; intro a hf
    refine step_l (st_call hf (Wn.none rfl) rfl rfl rfl fn15 (NLen_c _ _ _ (hS.selA)) rfl rfl ?_)
    clear hf hS; rintro v a w ⟨rfl, hS⟩ hf
    refine mN hf hS ?_; clear hf; intro a hf
    refine sR hf hS (rd_len hf rfl rfl Tryz.underlying25) ?_; clear hf; intro a hf
    refine sB hf hS (rd_neq hf rfl rfl rfl) ?_ ?_
    ·
     clear hf; intro hc23 a hf
     first | exact absurd rfl hc23 | exact absurd (by rw [List.length_map]) hc23
    clear hf; intro hc23 a hf
    iterate 2 ((first | refine mN hf hS ?_ | refine step_l (st_rd hf (Wn.some hf rfl rfl rfl rfl) (rd_move hf rfl rfl) hS rfl rfl ?_)); clear hf; intro a hf)
    refine step_l (st_call hf (Wn.some hf rfl rfl rfl rfl) rfl rfl rfl fn16 (NLost_c _ _ _ (hS.selA)) rfl rfl ?_)
    clear hf hS; rintro v a w ⟨rfl, hS⟩ hf
    refine sG hf hS (rd_move hf rfl rfl) ?_; clear hf; intro a hf
    refine step_l (st_rdB hf (Wn.some hf rfl rfl rfl rfl) (rd_neq hf rfl rfl rfl) hS rfl rfl ?_ ?_)
    ·
     clear hf; intro hc24 a hf
     exact absurd rfl hc24
    clear hf; intro hc24 a hf
    refine pF hf hS ?_; clear hf; intro a hf
    refine done_l (t_normal ?_)
    refine c_false hf rfl ?_
    refine c_skip (b_normal (t_normal (c_region ?_)))
    refine mN hf hS ?_; clear hf; intro a hf
    refine sP hf hS ?_; clear hf; intro a hf
    refine aN hf hS ?_; clear hf; intro a hf
    refine done_l ?_
    refine t_normal ⟨(i + 1, M2, q2, cap2, lost2), ((((hf.backA hk0).kb hf 6 rfl (by first | rfl | exact int_eq (by omega))).kb hf 5 rfl (by first | rfl | exact int_eq (by omega))).kb hf 4 rfl (by first | rfl | exact int_eq (by omega))), ⟨hS.subA, ⟨by omega, by omega, by omega, hpp2, hvv2⟩⟩, by first | omega | (simp only []; omega)⟩
   clear hf; intro hc5 a hf
   refine aN hf hS ?_; clear hf; intro a hf
   refine done_l (t_normal ?_)
   refine c_false hf rfl ?_
   refine c_seq (c_region ?_)
   refine sB hf hS (rd_eql hf rfl rfl rfl) ?_ ?_
   ·
    clear hf; intro hc25 a hf
    refine aN hf hS ?_; clear hf; intro a hf
    refine done_l (t_normal ?_)
    refine c_true hf rfl ?_
    refine c_seq (c_region ?_)
    refine mN hf hS ?_; clear hf; intro a hf
    refine fA hf hS fb27_1 ?_; clear hf; intro a hf
    refine sR hf hS (rd_ld hf ag3) ?_; clear hf; intro a hf
    refine step_l (st_call hf (Wn.none rfl) rfl rfl rfl fn9 (NAt_c _ _ _ _ (hS.selA)) rfl rfl ?_)
    clear hf hS; rintro v a w ⟨bb, kd, fr, tn, op, fo, ky, bk, es, qe, ce, ds, qd, cd, ms, qm, cm, rfl, hibb, hxbb, hkbb, hS⟩ hf
    refine mN hf hS ?_; clear hf; intro a hf
    refine sR hf hS (rd_extract hf rfl rfl rfl) ?_; clear hf; intro a hf
    refine sR hf hS (rd_extract hf rfl rfl rfl) ?_; clear hf; intro a hf
    refine sA hf hS zr32 ?_
    clear hf hS; intro b_a a w hf hS
    refine sS hf hS sz32 ?_
    clear hf hS; intro a w hf hS
    refine aN hf hS ?_; clear hf; intro a hf
    refine done_l (t_normal (c_seq (c_region ?_)))
    refine mN hf hS ?_; clear hf; intro a hf
    refine fA hf hS fb27_1 ?_; clear hf; intro a hf
    refine sR hf hS (rd_ld hf ag3) ?_; clear hf; intro a hf
    refine step_l (st_call hf (Wn.none rfl) rfl rfl rfl fn10 (NTake_c _ _ _ _ (hS.selA)) rfl rfl ?_)
    clear hf hS; rintro v a w ⟨bc, kd3, fr3, tn3, op3, fo3, ky3, bk3, es3, qe3, ce3, ds3, qd3, cd3, ms3, qm3, cm3, rfl, hibc, hxbc, hkbc, hS⟩ hf
    refine mN hf hS ?_; clear hf; intro a hf
    refine sR hf hS (rd_extract hf rfl rfl rfl) ?_; clear hf; intro a hf
    refine sR hf hS (rd_extract hf rfl rfl rfl) ?_; clear hf; intro a hf
    refine sA hf hS zr32 ?_
    clear hf hS; intro b_t a w hf hS
    refine sS hf hS sz32 ?_
    clear hf hS; intro a w hf hS
    refine aN hf hS ?_; clear hf; intro a hf
    refine done_l (t_normal (c_seq (c_region ?_)))
    refine fA hf hS fb27_1 ?_; clear hf; intro a hf
    refine sR hf hS (rd_ld hf ag3) ?_; clear hf; intro a hf
    refine sB hf hS (rd_geq hf rfl rfl rfl) ?_ ?_
    ·
     clear hf; intro hc28 a hf
     refine mN hf hS ?_; clear hf; intro a hf
     refine fG hf hS fb27_1 ?_; clear hf; intro a hf
     refine sG hf hS (rd_ld hf ag3) ?_; clear hf; intro a hf
     refine sG hf hS (rd_move hf rfl rfl) ?_; clear hf; intro a hf
     refine sG hf hS (rd_len hf rfl rfl Tryz.underlying25) ?_; clear hf; intro a hf
     refine step_l (st_rdB hf (Wn.some hf rfl rfl rfl rfl) (rd_lss hf rfl rfl rfl) hS rfl rfl ?_ ?_)
     ·
      clear hf; intro hc29 a hf
      obtain ⟨j, rfl⟩ : ∃ j : Nat, ix = (j : Int) := ⟨ix.toNat, by omega⟩
      have hjl : j < Ms.length := (by omega)
      obtain ⟨y, hgy⟩ := get_of_lt (l := Ms) (k := j) hjl rfl; obtain ⟨ad, rfl⟩ := (hS.slOfRw (T := 32) (sz := 10) (xs := Ms.flatMap msgC) (by repeat (first | exact Sel.head | apply Sel.tail))).some (by omega); have hlc := (hS.rwLen (T := 32) (sz := 10) (xs := Ms.flatMap msgC) (by repeat (first | exact Sel.head | apply Sel.tail))).2.1; have hym := hvv _ (List.mem_of_getElem? hgy); have hgd := getD_P hgy; have hyp := hpp _ (List.mem_of_getElem? hgy); obtain ⟨kd2, fr2, tn2, op2, fo2, ky2, bk2, ⟨qe2, ce2, es2⟩, ⟨qd2, cd2, ds2⟩, ⟨qm2, cm2, ms2⟩, _⟩ := y
      have hin : inS ((Ms).map pMsg) (j : Int) = true := inS_P hjl
      rw [takeS_P hjl] at hS
      iterate 2 ((first | refine aN hf hS ?_ | refine pT hf hS ?_); clear hf; intro a hf)
      refine done_l (t_normal (c_seq (c_seq (c_region ?_))))
      iterate 2 (refine mN hf hS ?_; clear hf; intro a hf)
      refine sB hf hS (rd_neqBool hf rfl rfl rfl Tryz.underlying4) ?_ ?_
      ·
       clear hf; intro hc30 a hf
       exact absurd (hibb.trans hin) hc30
      clear hf; intro hc30 a hf
      iterate 3 ((first | refine mN hf hS ?_ | refine step_l (st_rd hf (Wn.some hf rfl rfl rfl rfl) (rd_move hf rfl rfl) hS rfl rfl ?_)); clear hf; intro a hf)
      refine step_l (st_rdB hf (Wn.some hf rfl rfl rfl rfl) (rd_neqBool hf rfl rfl rfl Tryz.underlying4) hS rfl rfl ?_ ?_)
      ·
       clear hf; intro hc31 a hf
       exact absurd (hibc.trans hin) hc31
      clear hf; intro hc31 a hf
      refine pF hf hS ?_; clear hf; intro a hf
      refine done_l (t_normal ?_)
      refine c_false hf rfl ?_
      refine c_skip (t_normal (c_seq (c_region ?_)))
      refine mN hf hS ?_; clear hf; intro a hf
      refine done_l (t_normal ?_)
      refine c_true hf rfl ?_
      refine c_seq (c_seq ?_)
      refine any_begin mixed hS.drew ?_
      replace hS := hS.drew
      have hT := hS
      refine any_takeA (i := 0) hf rfl (Wn.none rfl) (rd_ldN hf ag32 sz32) hT rfl rfl ?_; clear hf; intro a hf
      refine any_takeA (i := 1) hf rfl (Wn.none rfl) (rd_move hf rfl rfl) hT rfl rfl ?_; clear hf; intro a hf
      refine any_takeA (i := 2) hf rfl (Wn.none rfl) (rd_fieldAddrB hf rfl rfl fb27_1 rfl) hT rfl rfl ?_; clear hf; intro a hf
      refine any_takeA (i := 3) hf rfl (Wn.none rfl) (rd_ld hf ag3) hT rfl rfl ?_; clear hf; intro a hf
      refine any_takeA (i := 4) hf rfl (Wn.none rfl) ((by first | exact rd_indexAddrN hf rfl rfl rfl Tryz.underlying25 sz32 (by omega) | exact rd_indexAddr hf rfl rfl rfl Tryz.underlying25 sz32 (by first | decide | omega) (by omega))) hT rfl rfl ?_; clear hf; intro a hf
      refine any_takeA (i := 5) hf rfl (Wn.none rfl) (rd_loadN hf rfl rfl ag32 sz32 (by intro _ h; exact (show AggAt _ _ _ [.int .i64 kd2, .int .i64 fr2, .int .i64 tn2, .int .i64 op2, .int .i64 fo2, .string (str ky2), .int .i64 bk2, .slice qe2 es2.length ce2, .slice qd2 ds2.length cd2, .slice qm2 ms2.length cm2] from SlAt.elem (cells := msgC) (h.slOfRw (T := 32) (sz := 10) (xs := Ms.flatMap msgC) (by repeat (first | exact Sel.head | apply Sel.tail))) (fun _ => rfl) hgy))) hT rfl rfl ?_; clear hf; intro a hf
      refine any_one (i := 6) rfl (by kernel_rfl) (st_call hf (Wn.none rfl) rfl rfl rfl fn11 (RMSame_c _ _ _ _ _ _ _ _ _ _ _ _ _ _ _ _ _ _ _ _ _ _ _ _ _ _ _ _ _ _ _ _  hS (fun _ h => h.entOk (by repeat (first | exact Sel.head | apply Sel.tail)) hkbb.1.1 hkbb.1.2) (fun _ h => h.digOk (by repeat (first | exact Sel.head | apply Sel.tail)) hkbb.2.1.1 hkbb.2.1.2) (fun _ h => h.memOk (by repeat (first | exact Sel.head | apply Sel.tail)) hkbb.2.2) (fun _ h => (hym _ (h.subA)).1) (fun _ h => (hym _ (h.subA)).2.1) (fun _ h => (hym _ (h.subA)).2.2)) rfl rfl ?_)
      clear hf hS; rintro v a w ⟨rfl, hS⟩ hf
      replace hT := hS.subA' hT
      refine ⟨hT, ?_⟩
      first | refine split_dec (d := 133) hf rfl ?_ ?_ | refine split_bool (d := 133) hf rfl ?_ ?_
      ·
       clear hf; intro hc32 hf
       refine any_takeA (i := 7) hf rfl (Wn.none rfl) (rd_not hf rfl rfl) hT rfl rfl ?_; clear hf; intro a hf
       refine any_takeA (i := 8) hf rfl (Wn.none rfl) (rd_move hf rfl rfl) hT rfl rfl ?_; clear hf; intro a hf
       refine any_takeA (i := 9) hf rfl (Wn.some hf rfl rfl rfl rfl) (rd_ldN hf ag32 sz32) hT rfl rfl ?_; clear hf; intro a hf
       refine any_takeA (i := 10) hf rfl (Wn.some hf rfl rfl rfl rfl) (rd_move hf rfl rfl) hT rfl rfl ?_; clear hf; intro a hf
       refine any_takeA (i := 11) hf rfl (Wn.some hf rfl rfl rfl rfl) (rd_fieldAddrB hf rfl rfl fb27_1 rfl) hT rfl rfl ?_; clear hf; intro a hf
       refine any_takeA (i := 12) hf rfl (Wn.some hf rfl rfl rfl rfl) (rd_ld hf ag3) hT rfl rfl ?_; clear hf; intro a hf
       refine any_takeA (i := 13) hf rfl (Wn.some hf rfl rfl rfl rfl) ((by first | exact rd_indexAddrN hf rfl rfl rfl Tryz.underlying25 sz32 (by omega) | exact rd_indexAddr hf rfl rfl rfl Tryz.underlying25 sz32 (by first | decide | omega) (by omega))) hT rfl rfl ?_; clear hf; intro a hf
       refine any_takeA (i := 14) hf rfl (Wn.some hf rfl rfl rfl rfl) (rd_loadN hf rfl rfl ag32 sz32 (by intro _ h; exact (show AggAt _ _ _ [.int .i64 kd2, .int .i64 fr2, .int .i64 tn2, .int .i64 op2, .int .i64 fo2, .string (str ky2), .int .i64 bk2, .slice qe2 es2.length ce2, .slice qd2 ds2.length cd2, .slice qm2 ms2.length cm2] from SlAt.elem (cells := msgC) (h.slOfRw (T := 32) (sz := 10) (xs := Ms.flatMap msgC) (by repeat (first | exact Sel.head | apply Sel.tail))) (fun _ => rfl) hgy))) hT rfl rfl ?_; clear hf; intro a hf
       refine any_one (i := 15) rfl (by kernel_rfl) (st_call hf (Wn.some hf rfl rfl rfl rfl) rfl rfl rfl fn11 (RMSame_c _ _ _ _ _ _ _ _ _ _ _ _ _ _ _ _ _ _ _ _ _ _ _ _ _ _ _ _ _ _ _ _  hS (fun _ h => h.entOk (by repeat (first | exact Sel.head | apply Sel.tail)) hkbc.1.1 hkbc.1.2) (fun _ h => h.digOk (by repeat (first | exact Sel.head | apply Sel.tail)) hkbc.2.1.1 hkbc.2.1.2) (fun _ h => h.memOk (by repeat (first | exact Sel.head | apply Sel.tail)) hkbc.2.2) (fun _ h => (hym _ (h.subA)).1) (fun _ h => (hym _ (h.subA)).2.1) (fun _ h => (hym _ (h.subA)).2.2)) rfl rfl ?_)
       clear hf hS; rintro v a w ⟨rfl, hS⟩ hf
       replace hT := hS.subA' hT
       refine ⟨hT, ?_⟩
       first | refine split_dec (d := 142) hf rfl ?_ ?_ | refine split_bool (d := 142) hf rfl ?_ ?_
       ·
        clear hf; intro hc33 hf
        refine any_takeA (i := 16) hf rfl (Wn.some hf rfl rfl rfl rfl) (rd_not hf rfl rfl) hT rfl rfl ?_; clear hf; intro a hf
        refine any_takeA (i := 17) hf rfl (Wn.none rfl) (rd_pick_f hf rfl rfl rfl) hT rfl rfl ?_; clear hf; intro a hf
        refine any_done (by kernel_rfl) ?_
        refine t_normal ?_
        refine c_false hf rfl ?_
        refine c_skip (t_normal ?_)
        refine any_begin mixed hS.drew ?_
        replace hS := hS.drew
        have hT := hS
        refine any_takeA (i := 0) hf rfl (Wn.none rfl) (rd_move hf rfl rfl) hT rfl rfl ?_; clear hf; intro a hf
        refine any_takeA (i := 1) hf rfl (Wn.none rfl) (rd_fieldAddrB hf rfl rfl fb27_1 rfl) hT rfl rfl ?_; clear hf; intro a hf
        refine any_takeA (i := 2) hf rfl (Wn.none rfl) (rd_ld hf ag3) hT rfl rfl ?_; clear hf; intro a hf
        refine any_takeA (i := 3) hf rfl (Wn.none rfl) (rd_sliceH hf rfl rfl rfl Tryz.underlying25 sz32 (by omega) (by omega)) hT rfl rfl ?_; clear hf; intro a hf
        refine any_takeA (i := 5) hf rfl (Wn.none rfl) (rd_move hf rfl rfl) hT rfl rfl ?_; clear hf; intro a hf
        refine any_takeA (i := 6) hf rfl (Wn.none rfl) (rd_fieldAddrB hf rfl rfl fb27_1 rfl) hT rfl rfl ?_; clear hf; intro a hf
        refine any_takeA (i := 7) hf rfl (Wn.none rfl) (rd_ld hf ag3) hT rfl rfl ?_; clear hf; intro a hf
        refine any_takeA (i := 8) hf rfl (Wn.none rfl) (rd_add hf rfl rfl rfl (by first | exact Go.IntWalk.i64_in _ (by omega) | exact rfl)) hT rfl rfl ?_; clear hf; intro a hf
        refine any_takeA (i := 9) hf rfl (Wn.none rfl) (rd_sliceL hf rfl rfl rfl Tryz.underlying25 sz32 (by omega) (by omega)) hT rfl rfl ?_; clear hf; intro a hf
        replace hS := hS.rwNil 32 10
        refine any_one (i := 4) rfl (by kernel_rfl) (st_append hf (Wn.none rfl) rfl rfl rfl Tryz.underlying25 tyb32 (by rfl) (by decide) hS (by repeat (first | exact Sel.head | apply Sel.tail)) (by first | exact hS.slOfBlk (by repeat (first | exact Sel.head | apply Sel.tail)) (by rfl) | exact hS.slOfBlkPre (by repeat (first | exact Sel.head | apply Sel.tail)) (bvs_len1 _) | exact hS.slOfRw (by repeat (first | exact Sel.head | apply Sel.tail)) | exact SlAt.nil _ _ _ | exact (hS.slOfRw (T := 32) (sz := 10) (xs := Ms.flatMap msgC) (by repeat (first | exact Sel.head | apply Sel.tail))).take (k := (j : Int).toNat) (by omega) | exact (hS.slOfRw (T := 32) (sz := 10) (xs := Ms.flatMap msgC) (by repeat (first | exact Sel.head | apply Sel.tail))).drop (k := ((j : Int) + 1).toNat) (c := cap) (by omega) (hS.rwLen (T := 32) (sz := 10) (xs := Ms.flatMap msgC) (by repeat (first | exact Sel.head | apply Sel.tail))).2.1) (by first | rfl | exact bvs_one _ | (simp [Value.oneCell']; done) | exact (show List.all (msgC ((kd, fr, tn, op, fo, ky, bk, (qe, ce, es), (qd, cd, ds), (qm, cm, ms), ()) : MsgT)) _ = true from rfl) | exact (show List.all (msgC ((kd, fr, tn, op', fo', ky', bk', (qe', ce', es'), (qd', cd', ds'), (qm', cm', ms'), ()) : MsgT)) _ = true from rfl) | exact (show List.all (msgC ((kd2, fr2, tn2, op2, fo2, ky2, bk2, (qe2, ce2, es2), (qd2, cd2, ds2), (qm2, cm2, ms2), ()) : MsgT)) _ = true from rfl) | exact one_drop (one_msg Ms) | exact one_take (one_msg Ms)) (by omega) rfl rfl ?_)
        clear hf hS; intro pA149 capA149 a w hf hS hnilA
        replace hT := hS.subA' hT
        refine ⟨hT, ?_⟩
        refine any_one (i := 10) rfl (by kernel_rfl) (st_append hf (Wn.none rfl) rfl rfl rfl Tryz.underlying25 tyb32 (by rfl) (by decide) hS (by repeat (first | exact Sel.head | apply Sel.tail)) (by first | exact hS.slOfBlk (by repeat (first | exact Sel.head | apply Sel.tail)) (by rfl) | exact hS.slOfBlkPre (by repeat (first | exact Sel.head | apply Sel.tail)) (bvs_len1 _) | exact hS.slOfRw (by repeat (first | exact Sel.head | apply Sel.tail)) | exact SlAt.nil _ _ _ | exact (hS.slOfRw (T := 32) (sz := 10) (xs := Ms.flatMap msgC) (by repeat (first | exact Sel.head | apply Sel.tail))).take (k := (j : Int).toNat) (by omega) | exact (hS.slOfRw (T := 32) (sz := 10) (xs := Ms.flatMap msgC) (by repeat (first | exact Sel.head | apply Sel.tail))).drop (k := ((j : Int) + 1).toNat) (c := cap) (by omega) (hS.rwLen (T := 32) (sz := 10) (xs := Ms.flatMap msgC) (by repeat (first | exact Sel.head | apply Sel.tail))).2.1) (by first | rfl | exact bvs_one _ | (simp [Value.oneCell']; done) | exact (show List.all (msgC ((kd, fr, tn, op, fo, ky, bk, (qe, ce, es), (qd, cd, ds), (qm, cm, ms), ()) : MsgT)) _ = true from rfl) | exact (show List.all (msgC ((kd, fr, tn, op', fo', ky', bk', (qe', ce', es'), (qd', cd', ds'), (qm', cm', ms'), ()) : MsgT)) _ = true from rfl) | exact (show List.all (msgC ((kd2, fr2, tn2, op2, fo2, ky2, bk2, (qe2, ce2, es2), (qd2, cd2, ds2), (qm2, cm2, ms2), ()) : MsgT)) _ = true from rfl) | exact one_drop (one_msg Ms) | exact one_take (one_msg Ms)) (by omega) rfl rfl ?_)
        clear hf hS; intro pA155 capA155 a w hf hS hnilA
        replace hT := hS.subA' hT
        refine ⟨hT, ?_⟩
        refine any_takeA (i := 11) hf rfl (Wn.none rfl) (rd_assign hf rfl rfl) hT rfl rfl ?_; clear hf; intro a hf
        refine any_done (by kernel_rfl) ?_
        replace hS := (hS.selA : Sat W (Rw 32 10 pA155 _ capA155 _ :: _) _).rwCast (xs' := (Ms.take j ++ Ms.drop (j + 1)).flatMap msgC) (len' := (Ms.take j ++ Ms.drop (j + 1)).length) (cut_rows Ms j) (by rw [cutM_len hjl]; omega)
        replace hf := hf.kb hf 4 rfl (slice_eq (n' := (Ms.take j ++ Ms.drop (j + 1)).length) (by rw [cutM_len hjl]; omega))
        refine b_normal (t_normal (c_seq (c_region ?_)))
        refine mN hf hS ?_; clear hf; intro a hf
        refine step_l (st_call hf (Wn.none rfl) rfl rfl rfl fn15 (NLen_c _ _ _ (hS.selA)) rfl rfl ?_)
        clear hf hS; rintro v a w ⟨rfl, hS⟩ hf
        refine mN hf hS ?_; clear hf; intro a hf
        refine sR hf hS (rd_len hf rfl rfl Tryz.underlying25) ?_; clear hf; intro a hf
        refine sB hf hS (rd_neq hf rfl rfl rfl) ?_ ?_
        ·
         clear hf; intro hc36 a hf
         first | exact absurd rfl hc36 | exact absurd (by rw [List.length_map]) hc36
        clear hf; intro hc36 a hf
        iterate 2 ((first | refine mN hf hS ?_ | refine step_l (st_rd hf (Wn.some hf rfl rfl rfl rfl) (rd_move hf rfl rfl) hS rfl rfl ?_)); clear hf; intro a hf)
        refine step_l (st_call hf (Wn.some hf rfl rfl rfl rfl) rfl rfl rfl fn16 (NLost_c _ _ _ (hS.selA)) rfl rfl ?_)
        clear hf hS; rintro v a w ⟨rfl, hS⟩ hf
        refine sG hf hS (rd_move hf rfl rfl) ?_; clear hf; intro a hf
        refine step_l (st_rdB hf (Wn.some hf rfl rfl rfl rfl) (rd_neq hf rfl rfl rfl) hS rfl rfl ?_ ?_)
        ·
         clear hf; intro hc37 a hf
         exact absurd rfl hc37
        clear hf; intro hc37 a hf
        refine pF hf hS ?_; clear hf; intro a hf
        refine done_l (t_normal ?_)
        refine c_false hf rfl ?_
        refine c_skip (b_normal (t_normal (c_region ?_)))
        refine mN hf hS ?_; clear hf; intro a hf
        refine sP hf hS ?_; clear hf; intro a hf
        refine aN hf hS ?_; clear hf; intro a hf
        refine done_l ?_
        refine t_normal ⟨(i + 1, (Ms.take j ++ Ms.drop (j + 1)), pA155, capA155, lost), ((((hf.backA hk0).kb hf 6 rfl (by first | rfl | exact int_eq (by omega))).kb hf 5 rfl (by first | rfl | exact int_eq (by omega))).kb hf 4 rfl (by first | rfl | exact int_eq (by omega))), ⟨hS.subA, ⟨by omega, by omega, by rw [cutM_len hjl]; omega, fun m hm => hpp m (mem_cutM hm), fun m hm => hvv m (mem_cutM hm)⟩⟩, by first | omega | (simp only []; omega)⟩
       clear hf; intro hc33 hf
       exact absurd (sameM_refl (by rw [hxbc (hibc.trans hin), hgd, plP_plP]; rfl)) (Bool.eq_false_iff.1 hc33)
      clear hf; intro hc32 hf
      exact absurd (sameM_refl (by rw [hxbb (hibb.trans hin), hgd, plP_plP]; rfl)) (Bool.eq_false_iff.1 hc32)
     clear hf; intro hc29 a hf
     have hin : inS ((Ms).map pMsg) ix = false := inS_N (by omega)
     rw [takeS_no hin] at hS
     iterate 2 ((first | refine aN hf hS ?_ | refine pT hf hS ?_); clear hf; intro a hf)
     refine done_l (t_normal (c_seq (c_seq (c_region ?_))))
     iterate 2 (refine mN hf hS ?_; clear hf; intro a hf)
     refine sB hf hS (rd_neqBool hf rfl rfl rfl Tryz.underlying4) ?_ ?_
     ·
      clear hf; intro hc38 a hf
      exact absurd (hibb.trans hin) hc38
     clear hf; intro hc38 a hf
     iterate 3 ((first | refine mN hf hS ?_ | refine step_l (st_rd hf (Wn.some hf rfl rfl rfl rfl) (rd_move hf rfl rfl) hS rfl rfl ?_)); clear hf; intro a hf)
     refine step_l (st_rdB hf (Wn.some hf rfl rfl rfl rfl) (rd_neqBool hf rfl rfl rfl Tryz.underlying4) hS rfl rfl ?_ ?_)
     ·
      clear hf; intro hc39 a hf
      exact absurd (hibc.trans hin) hc39
     clear hf; intro hc39 a hf
     refine pF hf hS ?_; clear hf; intro a hf
     refine done_l (t_normal ?_)
     refine c_false hf rfl ?_
     refine c_skip (t_normal (c_seq (c_region ?_)))
     refine mN hf hS ?_; clear hf; intro a hf
     refine done_l (t_normal ?_)
     refine c_false hf rfl ?_
     refine c_skip (b_normal (t_normal (c_seq (c_region ?_))))
     refine mN hf hS ?_; clear hf; intro a hf
     refine step_l (st_call hf (Wn.none rfl) rfl rfl rfl fn15 (NLen_c _ _ _ (hS.selA)) rfl rfl ?_)
     clear hf hS; rintro v a w ⟨rfl, hS⟩ hf
     refine mN hf hS ?_; clear hf; intro a hf
     refine sR hf hS (rd_len hf rfl rfl Tryz.underlying25) ?_; clear hf; intro a hf
     refine sB hf hS (rd_neq hf rfl rfl rfl) ?_ ?_
     ·
      clear hf; intro hc40 a hf
      first | exact absurd rfl hc40 | exact absurd (by rw [List.length_map]) hc40
     clear hf; intro hc40 a hf
     iterate 2 ((first | refine mN hf hS ?_ | refine step_l (st_rd hf (Wn.some hf rfl rfl rfl rfl) (rd_move hf rfl rfl) hS rfl rfl ?_)); clear hf; intro a hf)
     refine step_l (st_call hf (Wn.some hf rfl rfl rfl rfl) rfl rfl rfl fn16 (NLost_c _ _ _ (hS.selA)) rfl rfl ?_)
     clear hf hS; rintro v a w ⟨rfl, hS⟩ hf
     refine sG hf hS (rd_move hf rfl rfl) ?_; clear hf; intro a hf
     refine step_l (st_rdB hf (Wn.some hf rfl rfl rfl rfl) (rd_neq hf rfl rfl rfl) hS rfl rfl ?_ ?_)
     ·
      clear hf; intro hc41 a hf
      exact absurd rfl hc41
     clear hf; intro hc41 a hf
     refine pF hf hS ?_; clear hf; intro a hf
     refine done_l (t_normal ?_)
     refine c_false hf rfl ?_
     refine c_skip (b_normal (t_normal (c_region ?_)))
     refine mN hf hS ?_; clear hf; intro a hf
     refine sP hf hS ?_; clear hf; intro a hf
     refine aN hf hS ?_; clear hf; intro a hf
     refine done_l ?_
     refine t_normal ⟨(i + 1, Ms, q, cap, lost), ((((hf.backA hk0).kb hf 6 rfl (by first | rfl | exact int_eq (by omega))).kb hf 5 rfl (by first | rfl | exact int_eq (by omega))).kb hf 4 rfl (by first | rfl | exact int_eq (by omega))), ⟨hS.subA, ⟨by omega, by omega, by omega, hpp, hvv⟩⟩, by first | omega | (simp only []; omega)⟩
    clear hf; intro hc28 a hf
    have hin : inS ((Ms).map pMsg) ix = false := inS_N (by omega)
    rw [takeS_no hin] at hS
    iterate 8 ((first | refine kS hf ?_ | refine mN hf hS ?_ | refine aN hf hS ?_ | refine pF hf hS ?_); clear hf; intro a hf)
    refine done_l (t_normal (c_seq (c_seq (c_region ?_))))
    iterate 2 (refine mN hf hS ?_; clear hf; intro a hf)
    refine sB hf hS (rd_neqBool hf rfl rfl rfl Tryz.underlying4) ?_ ?_
    ·
     clear hf; intro hc42 a hf
     exact absurd (hibb.trans hin) hc42
    clear hf; intro hc42 a hf
    iterate 3 ((first | refine mN hf hS ?_ | refine step_l (st_rd hf (Wn.some hf rfl rfl rfl rfl) (rd_move hf rfl rfl) hS rfl rfl ?_)); clear hf; intro a hf)
    refine step_l (st_rdB hf (Wn.some hf rfl rfl rfl rfl) (rd_neqBool hf rfl rfl rfl Tryz.underlying4) hS rfl rfl ?_ ?_)
    ·
     clear hf; intro hc43 a hf
     exact absurd (hibc.trans hin) hc43
    clear hf; intro hc43 a hf
    refine pF hf hS ?_; clear hf; intro a hf
    refine done_l (t_normal ?_)
    refine c_false hf rfl ?_
    refine c_skip (t_normal (c_seq (c_region ?_)))
    refine mN hf hS ?_; clear hf; intro a hf
    refine done_l (t_normal ?_)
    refine c_false hf rfl ?_
    refine c_skip (b_normal (t_normal (c_seq (c_region ?_))))
    refine mN hf hS ?_; clear hf; intro a hf
    refine step_l (st_call hf (Wn.none rfl) rfl rfl rfl fn15 (NLen_c _ _ _ (hS.selA)) rfl rfl ?_)
    clear hf hS; rintro v a w ⟨rfl, hS⟩ hf
    refine mN hf hS ?_; clear hf; intro a hf
    refine sR hf hS (rd_len hf rfl rfl Tryz.underlying25) ?_; clear hf; intro a hf
    refine sB hf hS (rd_neq hf rfl rfl rfl) ?_ ?_
    ·
     clear hf; intro hc44 a hf
     first | exact absurd rfl hc44 | exact absurd (by rw [List.length_map]) hc44
    clear hf; intro hc44 a hf
    iterate 2 ((first | refine mN hf hS ?_ | refine step_l (st_rd hf (Wn.some hf rfl rfl rfl rfl) (rd_move hf rfl rfl) hS rfl rfl ?_)); clear hf; intro a hf)
    refine step_l (st_call hf (Wn.some hf rfl rfl rfl rfl) rfl rfl rfl fn16 (NLost_c _ _ _ (hS.selA)) rfl rfl ?_)
    clear hf hS; rintro v a w ⟨rfl, hS⟩ hf
    refine sG hf hS (rd_move hf rfl rfl) ?_; clear hf; intro a hf
    refine step_l (st_rdB hf (Wn.some hf rfl rfl rfl rfl) (rd_neq hf rfl rfl rfl) hS rfl rfl ?_ ?_)
    ·
     clear hf; intro hc45 a hf
     exact absurd rfl hc45
    clear hf; intro hc45 a hf
    refine pF hf hS ?_; clear hf; intro a hf
    refine done_l (t_normal ?_)
    refine c_false hf rfl ?_
    refine c_skip (b_normal (t_normal (c_region ?_)))
    refine mN hf hS ?_; clear hf; intro a hf
    refine sP hf hS ?_; clear hf; intro a hf
    refine aN hf hS ?_; clear hf; intro a hf
    refine done_l ?_
    refine t_normal ⟨(i + 1, Ms, q, cap, lost), ((((hf.backA hk0).kb hf 6 rfl (by first | rfl | exact int_eq (by omega))).kb hf 5 rfl (by first | rfl | exact int_eq (by omega))).kb hf 4 rfl (by first | rfl | exact int_eq (by omega))), ⟨hS.subA, ⟨by omega, by omega, by omega, hpp, hvv⟩⟩, by first | omega | (simp only []; omega)⟩
   clear hf; intro hc25 a hf
   refine aN hf hS ?_; clear hf; intro a hf
   refine done_l (t_normal ?_)
   refine c_false hf rfl ?_
   refine c_seq (c_region ?_)
   refine sB hf hS (rd_eql hf rfl rfl rfl) ?_ ?_
   ·
    clear hf; intro hc46 a hf
    refine aN hf hS ?_; clear hf; intro a hf
    refine done_l (t_normal ?_)
    refine c_true hf rfl ?_
    refine c_seq (c_region ?_)
    refine fA hf hS fb27_1 ?_; clear hf; intro a hf
    refine sR hf hS (rd_ld hf ag3) ?_; clear hf; intro a hf
    refine sB hf hS (rd_geq hf rfl rfl rfl) ?_ ?_
    ·
     clear hf; intro hc47 a hf
     refine mN hf hS ?_; clear hf; intro a hf
     refine fG hf hS fb27_1 ?_; clear hf; intro a hf
     refine sG hf hS (rd_ld hf ag3) ?_; clear hf; intro a hf
     refine sG hf hS (rd_move hf rfl rfl) ?_; clear hf; intro a hf
     refine sG hf hS (rd_len hf rfl rfl Tryz.underlying25) ?_; clear hf; intro a hf
     refine step_l (st_rdB hf (Wn.some hf rfl rfl rfl rfl) (rd_lss hf rfl rfl rfl) hS rfl rfl ?_ ?_)
     ·
      clear hf; intro hc48 a hf
      obtain ⟨j, rfl⟩ : ∃ j : Nat, ix = (j : Int) := ⟨ix.toNat, by omega⟩
      have hjl : j < Ms.length := (by omega)
      obtain ⟨y, hgy⟩ := get_of_lt (l := Ms) (k := j) hjl rfl; obtain ⟨ad, rfl⟩ := (hS.slOfRw (T := 32) (sz := 10) (xs := Ms.flatMap msgC) (by repeat (first | exact Sel.head | apply Sel.tail))).some (by omega); have hlc := (hS.rwLen (T := 32) (sz := 10) (xs := Ms.flatMap msgC) (by repeat (first | exact Sel.head | apply Sel.tail))).2.1; have hym := hvv _ (List.mem_of_getElem? hgy); have hgd := getD_P hgy; have hyp := hpp _ (List.mem_of_getElem? hgy); obtain ⟨kd2, fr2, tn2, op2, fo2, ky2, bk2, ⟨qe2, ce2, es2⟩, ⟨qd2, cd2, ds2⟩, ⟨qm2, cm2, ms2⟩, _⟩ := y
      have hin : inS ((Ms).map pMsg) (j : Int) = true := inS_P hjl
      iterate 2 ((first | refine aN hf hS ?_ | refine pT hf hS ?_); clear hf; intro a hf)
      refine done_l (t_normal (c_seq (c_seq (c_region ?_))))
      refine mN hf hS ?_; clear hf; intro a hf
      refine fA hf hS fb27_1 ?_; clear hf; intro a hf
      refine sR hf hS (rd_ld hf ag3) ?_; clear hf; intro a hf
      refine step_l (st_call hf (Wn.none rfl) rfl rfl rfl fn12 (NCopy_c _ _ _ _ (hS.selA)) rfl rfl ?_)
      clear hf hS; rintro v a w ⟨rfl, hS⟩ hf
      refine mN hf hS ?_; clear hf; intro a hf
      refine sB hf hS (rd_neqBool hf rfl rfl rfl Tryz.underlying4) ?_ ?_
      ·
       clear hf; intro hc49 a hf
       first | exact absurd (copyB_no hin) hc49 | exact absurd (copyB_yes hin (by rw [List.length_map]; omega)) hc49
      clear hf; intro hc49 a hf
      refine done_l (t_normal ?_)
      refine c_false hf rfl ?_
      refine c_skip (t_normal (c_seq ?_))
      rw [copyS_P hgy hyp hin (by rw [List.length_map]; omega)] at hS
      refine c_region ?_
      refine mN hf hS ?_; clear hf; intro a hf
      refine done_l (t_normal ?_)
      refine c_true hf rfl ?_
      refine c_region ?_
      iterate 2 (refine mN hf hS ?_; clear hf; intro a hf)
      refine fA hf hS fb27_1 ?_; clear hf; intro a hf
      refine sR hf hS (rd_ld hf ag3) ?_; clear hf; intro a hf
      refine sR hf hS ((by first | exact rd_indexAddrN hf rfl rfl rfl Tryz.underlying25 sz32 (by omega) | exact rd_indexAddr hf rfl rfl rfl Tryz.underlying25 sz32 (by first | decide | omega) (by omega))) ?_; clear hf; intro a hf
      refine sR hf hS (rd_loadN hf rfl rfl ag32 sz32 (by intro _ h; exact (show AggAt _ _ _ [.int .i64 kd2, .int .i64 fr2, .int .i64 tn2, .int .i64 op2, .int .i64 fo2, .string (str ky2), .int .i64 bk2, .slice qe2 es2.length ce2, .slice qd2 ds2.length cd2, .slice qm2 ms2.length cm2] from SlAt.elem (cells := msgC) (h.slOfRw (T := 32) (sz := 10) (xs := Ms.flatMap msgC) (by repeat (first | exact Sel.head | apply Sel.tail))) (fun _ => rfl) hgy))) ?_; clear hf; intro a hf
      refine step_l (st_buildSlice hf (Wn.none rfl) hS rfl rfl Tryz.underlying25 sz32 zr32 (by decide) bz32_1 rfl (.cons rfl (by first | rfl) (by rfl) (by repeat (first | exact Put.nil | apply Put.cons | apply Put.succ)) .nil) rfl rfl ?_)
      clear hf hS; intro b_50 a w hf hS
      refine step_l (st_append hf (Wn.none rfl) rfl rfl rfl Tryz.underlying25 tyb32 (by rfl) (by decide) hS (by repeat (first | exact Sel.head | apply Sel.tail)) (by first | exact hS.slOfBlk (by repeat (first | exact Sel.head | apply Sel.tail)) (by rfl) | exact hS.slOfBlkPre (by repeat (first | exact Sel.head | apply Sel.tail)) (bvs_len1 _) | exact hS.slOfRw (by repeat (first | exact Sel.head | apply Sel.tail)) | exact SlAt.nil _ _ _) (by first | rfl | exact bvs_one _ | (simp [Value.oneCell']; done) | exact (show List.all (msgC ((kd, fr, tn, op, fo, ky, bk, (qe, ce, es), (qd, cd, ds), (qm, cm, ms), ()) : MsgT)) _ = true from rfl) | exact (show List.all (msgC ((kd, fr, tn, op', fo', ky', bk', (qe', ce', es'), (qd', cd', ds'), (qm', cm', ms'), ()) : MsgT)) _ = true from rfl) | exact (show List.all (msgC ((kd2, fr2, tn2, op2, fo2, ky2, bk2, (qe2, ce2, es2), (qd2, cd2, ds2), (qm2, cm2, ms2), ()) : MsgT)) _ = true from rfl) | exact one_drop (one_msg Ms) | exact one_take (one_msg Ms)) (by omega) rfl rfl ?_)
      clear hf hS; intro pA182 capA182 a w hf hS hnilA
      refine aN hf hS ?_; clear hf; intro a hf
      refine done_l ?_
      replace hS := (hS.selA : Sat W (Rw 32 10 pA182 _ capA182 _ :: _) _).rwCast (xs' := (Ms ++ [((kd2, fr2, tn2, op2, fo2, ky2, bk2, (qe2, ce2, es2), (qd2, cd2, ds2), (qm2, cm2, ms2), ()) : MsgT)]).flatMap msgC) (len' := (Ms ++ [((kd2, fr2, tn2, op2, fo2, ky2, bk2, (qe2, ce2, es2), (qd2, cd2, ds2), (qm2, cm2, ms2), ()) : MsgT)]).length) (by rw [List.flatMap_append]; rfl) (by rw [List.length_append]; rfl)
      replace hf := hf.kb hf 4 rfl (slice_eq (n' := (Ms ++ [((kd2, fr2, tn2, op2, fo2, ky2, bk2, (qe2, ce2, es2), (qd2, cd2, ds2), (qm2, cm2, ms2), ()) : MsgT)]).length) (by rw [List.length_append]; rfl))
      refine b_normal (t_normal (c_seq (c_region ?_)))
      refine mN hf hS ?_; clear hf; intro a hf
      refine step_l (st_call hf (Wn.none rfl) rfl rfl rfl fn15 (NLen_c _ _ _ (hS.selA)) rfl rfl ?_)
      clear hf hS; rintro v a w ⟨rfl, hS⟩ hf
      refine mN hf hS ?_; clear hf; intro a hf
      refine sR hf hS (rd_len hf rfl rfl Tryz.underlying25) ?_; clear hf; intro a hf
      refine sB hf hS (rd_neq hf rfl rfl rfl) ?_ ?_
      ·
       clear hf; intro hc52 a hf
       first | exact absurd rfl hc52 | exact absurd (by rw [List.length_map]) hc52
      clear hf; intro hc52 a hf
      iterate 2 ((first | refine mN hf hS ?_ | refine step_l (st_rd hf (Wn.some hf rfl rfl rfl rfl) (rd_move hf rfl rfl) hS rfl rfl ?_)); clear hf; intro a hf)
      refine step_l (st_call hf (Wn.some hf rfl rfl rfl rfl) rfl rfl rfl fn16 (NLost_c _ _ _ (hS.selA)) rfl rfl ?_)
      clear hf hS; rintro v a w ⟨rfl, hS⟩ hf
      refine sG hf hS (rd_move hf rfl rfl) ?_; clear hf; intro a hf
      refine step_l (st_rdB hf (Wn.some hf rfl rfl rfl rfl) (rd_neq hf rfl rfl rfl) hS rfl rfl ?_ ?_)
      ·
       clear hf; intro hc53 a hf
       exact absurd rfl hc53
      clear hf; intro hc53 a hf
      refine pF hf hS ?_; clear hf; intro a hf
      refine done_l (t_normal ?_)
      refine c_false hf rfl ?_
      refine c_skip (b_normal (t_normal (c_region ?_)))
      refine mN hf hS ?_; clear hf; intro a hf
      refine sP hf hS ?_; clear hf; intro a hf
      refine aN hf hS ?_; clear hf; intro a hf
      refine done_l ?_
      refine t_normal ⟨(i + 1, Ms ++ [((kd2, fr2, tn2, op2, fo2, ky2, bk2, (qe2, ce2, es2), (qd2, cd2, ds2), (qm2, cm2, ms2), ()) : MsgT)], pA182, capA182, lost), ((((hf.backA hk0).kb hf 6 rfl (by first | rfl | exact int_eq (by omega))).kb hf 5 rfl (by first | rfl | exact int_eq (by omega))).kb hf 4 rfl (by first | rfl | exact int_eq (by omega))), ⟨hS.subA, ⟨by omega, by omega, by rw [List.length_append]; simp only [List.length_cons, List.length_nil]; omega, all_snoc hpp (hpp _ (List.mem_of_getElem? hgy)), all_snoc hvv (hvv _ (List.mem_of_getElem? hgy))⟩⟩, by first | omega | (simp only []; omega)⟩
     clear hf; intro hc48 a hf
     have hin : inS ((Ms).map pMsg) ix = false := inS_N (by omega)
     iterate 2 ((first | refine aN hf hS ?_ | refine pT hf hS ?_); clear hf; intro a hf)
     refine done_l (t_normal (c_seq (c_seq (c_region ?_))))
     refine mN hf hS ?_; clear hf; intro a hf
     refine fA hf hS fb27_1 ?_; clear hf; intro a hf
     refine sR hf hS (rd_ld hf ag3) ?_; clear hf; intro a hf
     refine step_l (st_call hf (Wn.none rfl) rfl rfl rfl fn12 (NCopy_c _ _ _ _ (hS.selA)) rfl rfl ?_)
     clear hf hS; rintro v a w ⟨rfl, hS⟩ hf
     refine mN hf hS ?_; clear hf; intro a hf
     refine sB hf hS (rd_neqBool hf rfl rfl rfl Tryz.underlying4) ?_ ?_
     ·
      clear hf; intro hc54 a hf
      first | exact absurd (copyB_no hin) hc54 | exact absurd (copyB_yes hin (by rw [List.length_map]; omega)) hc54
     clear hf; intro hc54 a hf
     refine done_l (t_normal ?_)
     refine c_false hf rfl ?_
     refine c_skip (t_normal (c_seq ?_))
     rw [copyS_of_no hin] at hS
     refine c_region ?_
     refine mN hf hS ?_; clear hf; intro a hf
     refine done_l (t_normal ?_)
     refine c_false hf rfl ?_
     refine c_skip (b_normal (t_normal (c_seq (c_region ?_))))
     refine mN hf hS ?_; clear hf; intro a hf
     refine step_l (st_call hf (Wn.none rfl) rfl rfl rfl fn15 (NLen_c _ _ _ (hS.selA)) rfl rfl ?_)
     clear hf hS; rintro v a w ⟨rfl, hS⟩ hf
     refine mN hf hS ?_; clear hf; intro a hf
     refine sR hf hS (rd_len hf rfl rfl Tryz.underlying25) ?_; clear hf; intro a hf
     refine sB hf hS (rd_neq hf rfl rfl rfl) ?_ ?_
     ·
      clear hf; intro hc55 a hf
      first | exact absurd rfl hc55 | exact absurd (by rw [List.length_map]) hc55
     clear hf; intro hc55 a hf
     iterate 2 ((first | refine mN hf hS ?_ | refine step_l (st_rd hf (Wn.some hf rfl rfl rfl rfl) (rd_move hf rfl rfl) hS rfl rfl ?_)); clear hf; intro a hf)
     refine step_l (st_call hf (Wn.some hf rfl rfl rfl rfl) rfl rfl rfl fn16 (NLost_c _ _ _ (hS.selA)) rfl rfl ?_)
     clear hf hS; rintro v a w ⟨rfl, hS⟩ hf
     refine sG hf hS (rd_move hf rfl rfl) ?_; clear hf; intro a hf
     refine step_l (st_rdB hf (Wn.some hf rfl rfl rfl rfl) (rd_neq hf rfl rfl rfl) hS rfl rfl ?_ ?_)
     ·
      clear hf; intro hc56 a hf
      exact absurd rfl hc56
     clear hf; intro hc56 a hf
     refine pF hf hS ?_; clear hf; intro a hf
     refine done_l (t_normal ?_)
     refine c_false hf rfl ?_
     refine c_skip (b_normal (t_normal (c_region ?_)))
     refine mN hf hS ?_; clear hf; intro a hf
     refine sP hf hS ?_; clear hf; intro a hf
     refine aN hf hS ?_; clear hf; intro a hf
     refine done_l ?_
     refine t_normal ⟨(i + 1, Ms, q, cap, lost), ((((hf.backA hk0).kb hf 6 rfl (by first | rfl | exact int_eq (by omega))).kb hf 5 rfl (by first | rfl | exact int_eq (by omega))).kb hf 4 rfl (by first | rfl | exact int_eq (by omega))), ⟨hS.subA, ⟨by omega, by omega, by omega, hpp, hvv⟩⟩, by first | omega | (simp only []; omega)⟩
    clear hf; intro hc47 a hf
    have hin : inS ((Ms).map pMsg) ix = false := inS_N (by omega)
    iterate 8 ((first | refine kS hf ?_ | refine mN hf hS ?_ | refine aN hf hS ?_ | refine pF hf hS ?_); clear hf; intro a hf)
    refine done_l (t_normal (c_seq (c_seq (c_region ?_))))
    refine mN hf hS ?_; clear hf; intro a hf
    refine fA hf hS fb27_1 ?_; clear hf; intro a hf
    refine sR hf hS (rd_ld hf ag3) ?_; clear hf; intro a hf
    refine step_l (st_call hf (Wn.none rfl) rfl rfl rfl fn12 (NCopy_c _ _ _ _ (hS.selA)) rfl rfl ?_)
    clear hf hS; rintro v a w ⟨rfl, hS⟩ hf
    refine mN hf hS ?_; clear hf; intro a hf
    refine sB hf hS (rd_neqBool hf rfl rfl rfl Tryz.underlying4) ?_ ?_
    ·
     clear hf; intro hc57 a hf
     first | exact absurd (copyB_no hin) hc57 | exact absurd (copyB_yes hin (by rw [List.length_map]; omega)) hc57
    clear hf; intro hc57 a hf
    refine done_l (t_normal ?_)
    refine c_false hf rfl ?_
    refine c_skip (t_normal (c_seq ?_))
    rw [copyS_of_no hin] at hS
    refine c_region ?_
    refine mN hf hS ?_; clear hf; intro a hf
    refine done_l (t_normal ?_)
    refine c_false hf rfl ?_
    refine c_skip (b_normal (t_normal (c_seq (c_region ?_))))
    refine mN hf hS ?_; clear hf; intro a hf
    refine step_l (st_call hf (Wn.none rfl) rfl rfl rfl fn15 (NLen_c _ _ _ (hS.selA)) rfl rfl ?_)
    clear hf hS; rintro v a w ⟨rfl, hS⟩ hf
    refine mN hf hS ?_; clear hf; intro a hf
    refine sR hf hS (rd_len hf rfl rfl Tryz.underlying25) ?_; clear hf; intro a hf
    refine sB hf hS (rd_neq hf rfl rfl rfl) ?_ ?_
    ·
     clear hf; intro hc58 a hf
     first | exact absurd rfl hc58 | exact absurd (by rw [List.length_map]) hc58
    clear hf; intro hc58 a hf
    iterate 2 ((first | refine mN hf hS ?_ | refine step_l (st_rd hf (Wn.some hf rfl rfl rfl rfl) (rd_move hf rfl rfl) hS rfl rfl ?_)); clear hf; intro a hf)
    refine step_l (st_call hf (Wn.some hf rfl rfl rfl rfl) rfl rfl rfl fn16 (NLost_c _ _ _ (hS.selA)) rfl rfl ?_)
    clear hf hS; rintro v a w ⟨rfl, hS⟩ hf
    refine sG hf hS (rd_move hf rfl rfl) ?_; clear hf; intro a hf
    refine step_l (st_rdB hf (Wn.some hf rfl rfl rfl rfl) (rd_neq hf rfl rfl rfl) hS rfl rfl ?_ ?_)
    ·
     clear hf; intro hc59 a hf
     exact absurd rfl hc59
    clear hf; intro hc59 a hf
    refine pF hf hS ?_; clear hf; intro a hf
    refine done_l (t_normal ?_)
    refine c_false hf rfl ?_
    refine c_skip (b_normal (t_normal (c_region ?_)))
    refine mN hf hS ?_; clear hf; intro a hf
    refine sP hf hS ?_; clear hf; intro a hf
    refine aN hf hS ?_; clear hf; intro a hf
    refine done_l ?_
    refine t_normal ⟨(i + 1, Ms, q, cap, lost), ((((hf.backA hk0).kb hf 6 rfl (by first | rfl | exact int_eq (by omega))).kb hf 5 rfl (by first | rfl | exact int_eq (by omega))).kb hf 4 rfl (by first | rfl | exact int_eq (by omega))), ⟨hS.subA, ⟨by omega, by omega, by omega, hpp, hvv⟩⟩, by first | omega | (simp only []; omega)⟩
   clear hf; intro hc46 a hf
   refine aN hf hS ?_; clear hf; intro a hf
   refine done_l (t_normal ?_)
   refine c_false hf rfl ?_
   refine c_seq (c_seq (c_region ?_))
   refine mN hf hS ?_; clear hf; intro a hf
   refine step_l (st_call hf (Wn.none rfl) rfl rfl rfl fn14 (NAll_c pn _ _ (hS.selA)) rfl rfl ?_)
   clear hf hS; rintro v a w ⟨qA, cA, LA, rfl, hA1, hA2, hA3, hS⟩ hf
   refine mN hf hS ?_; clear hf; intro a hf
   refine step_l (st_call hf (Wn.none rfl) rfl rfl rfl fn13 (same_c LA _ _ Ms _ _ hS (fun _ h => h.rowsAt (by repeat (first | exact Sel.head | apply Sel.tail)) (by repeat (first | exact Sel.head | apply Sel.tail)) hA2) (fun _ h => ⟨h.slOfRw (by repeat (first | exact Sel.head | apply Sel.tail)), fun m hm => hvv m hm _ (h.subA)⟩) (by rw [hA1]) (by omega)) rfl rfl ?_)
   clear hf hS; rintro v a w ⟨rfl, hS⟩ hf
   first | refine split_dec (d := 42) hf rfl ?_ ?_ | refine split_bool (d := 42) hf rfl ?_ ?_
   ·
    clear hf; intro hc60 hf
    refine nT hf hS ?_; clear hf; intro a hf
    refine done_l (t_normal ?_)
    refine c_false hf rfl ?_
    refine c_skip (t_normal (c_region ?_))
    refine aN hf hS ?_; clear hf; intro a hf
    refine done_l (b_normal (t_normal (c_seq (c_region ?_))))
    refine mN hf hS ?_; clear hf; intro a hf
    refine step_l (st_call hf (Wn.none rfl) rfl rfl rfl fn15 (NLen_c _ _ _ (hS.selA)) rfl rfl ?_)
    clear hf hS; rintro v a w ⟨rfl, hS⟩ hf
    refine mN hf hS ?_; clear hf; intro a hf
    refine sR hf hS (rd_len hf rfl rfl Tryz.underlying25) ?_; clear hf; intro a hf
    refine sB hf hS (rd_neq hf rfl rfl rfl) ?_ ?_
    ·
     clear hf; intro hc61 a hf
     first | exact absurd rfl hc61 | exact absurd (by rw [List.length_map]) hc61
    clear hf; intro hc61 a hf
    iterate 2 ((first | refine mN hf hS ?_ | refine step_l (st_rd hf (Wn.some hf rfl rfl rfl rfl) (rd_move hf rfl rfl) hS rfl rfl ?_)); clear hf; intro a hf)
    refine step_l (st_call hf (Wn.some hf rfl rfl rfl rfl) rfl rfl rfl fn16 (NLost_c _ _ _ (hS.selA)) rfl rfl ?_)
    clear hf hS; rintro v a w ⟨rfl, hS⟩ hf
    refine sG hf hS (rd_move hf rfl rfl) ?_; clear hf; intro a hf
    refine step_l (st_rdB hf (Wn.some hf rfl rfl rfl rfl) (rd_neq hf rfl rfl rfl) hS rfl rfl ?_ ?_)
    ·
     clear hf; intro hc62 a hf
     exact absurd rfl hc62
    clear hf; intro hc62 a hf
    refine pF hf hS ?_; clear hf; intro a hf
    refine done_l (t_normal ?_)
    refine c_false hf rfl ?_
    refine c_skip (b_normal (t_normal (c_region ?_)))
    refine mN hf hS ?_; clear hf; intro a hf
    refine sP hf hS ?_; clear hf; intro a hf
    refine aN hf hS ?_; clear hf; intro a hf
    refine done_l ?_
    refine t_normal ⟨(i + 1, [], none, 0, lost), ((((hf.backA hk0).kb hf 6 rfl (by first | rfl | exact int_eq (by omega))).kb hf 5 rfl (by first | rfl | exact int_eq (by omega))).kb hf 4 rfl (by first | rfl | exact int_eq (by omega))), ⟨((hS.rwNil 32 10).subA), ⟨by omega, by omega, by simp, fun m hm => (by cases hm), fun m hm => (by cases hm)⟩⟩, by first | omega | (simp only []; omega)⟩
   clear hf; intro hc60 hf
   exact Bool.noConfusion hc60
  clear hf; intro hc3 a hf
  refine pT hf hS ?_; clear hf; intro a hf
  refine done_l (t_normal ?_)
  refine c_false hf rfl ?_
  refine c_exit (t_exit (t_exit (b_exit (t_normal (c_seq (c_region ?_))))))
  refine mN hf hS ?_; clear hf; intro a hf
  refine step_l (st_call hf (Wn.none rfl) rfl rfl rfl fn14 (NAll_c pn _ _ (hS.selA)) rfl rfl ?_)
  clear hf hS; rintro v a w ⟨qA, cA, LA, rfl, hA1, hA2, hA3, hS⟩ hf
  refine mN hf hS ?_; clear hf; intro a hf
  refine step_l (st_call hf (Wn.none rfl) rfl rfl rfl fn13 (same_c LA _ _ Ms _ _ hS (fun _ h => h.rowsAt (by repeat (first | exact Sel.head | apply Sel.tail)) (by repeat (first | exact Sel.head | apply Sel.tail)) hA2) (fun _ h => ⟨h.slOfRw (by repeat (first | exact Sel.head | apply Sel.tail)), fun m hm => hvv m hm _ (h.subA)⟩) (by rw [hA1]) (by omega)) rfl rfl ?_)
  clear hf hS; rintro v a w ⟨rfl, hS⟩ hf
  first | refine split_dec (d := 197) hf rfl ?_ ?_ | refine split_bool (d := 197) hf rfl ?_ ?_
  ·
   clear hf; intro hc63 hf
   iterate 2 ((first | refine mN hf hS ?_ | refine step_l (st_rd hf (Wn.some hf rfl rfl rfl rfl) (rd_move hf rfl rfl) hS rfl rfl ?_)); clear hf; intro a hf)
   refine step_l (st_call hf (Wn.some hf rfl rfl rfl rfl) rfl rfl rfl fn15 (NLen_c _ _ _ (hS.selA)) rfl rfl ?_)
   clear hf hS; rintro v a w ⟨rfl, hS⟩ hf
   refine step_l (st_rdB hf (Wn.some hf rfl rfl rfl rfl) (rd_eql hf rfl rfl rfl) hS rfl rfl ?_ ?_)
   ·
    clear hf; intro hc64 a hf
    iterate 2 ((first | refine mN hf hS ?_ | refine pT hf hS ?_); clear hf; intro a hf)
    refine step_l (st_call hf (Wn.some hf rfl rfl rfl rfl) rfl rfl rfl fn17 (awake_c hS) rfl rfl ?_)
    clear hf hS; rintro v a w ⟨rfl, hS⟩ hf
    iterate 2 ((first | refine aN hf hS ?_ | refine pT hf hS ?_); clear hf; intro a hf)
    refine done_l (t_normal (c_ret ?_))
    refine eT hf ?_
    exact ⟨rfl, hS.subA⟩
   clear hf; intro hc64 a hf
   exact absurd rfl hc64
  clear hf; intro hc63 hf
  exact Bool.noConfusion hc63
 clear hf; intro hc2 a hf
 iterate 4 ((first | refine kS hf ?_ | refine mN hf hS ?_ | refine pF hf hS ?_); clear hf; intro a hf)
 refine done_l (t_normal ?_)
 refine c_false hf rfl ?_
 refine c_exit (t_exit (t_exit (b_exit (t_normal (c_seq (c_region ?_))))))
 refine mN hf hS ?_; clear hf; intro a hf
 refine step_l (st_call hf (Wn.none rfl) rfl rfl rfl fn14 (NAll_c pn _ _ (hS.selA)) rfl rfl ?_)
 clear hf hS; rintro v a w ⟨qA, cA, LA, rfl, hA1, hA2, hA3, hS⟩ hf
 refine mN hf hS ?_; clear hf; intro a hf
 refine step_l (st_call hf (Wn.none rfl) rfl rfl rfl fn13 (same_c LA _ _ Ms _ _ hS (fun _ h => h.rowsAt (by repeat (first | exact Sel.head | apply Sel.tail)) (by repeat (first | exact Sel.head | apply Sel.tail)) hA2) (fun _ h => ⟨h.slOfRw (by repeat (first | exact Sel.head | apply Sel.tail)), fun m hm => hvv m hm _ (h.subA)⟩) (by rw [hA1]) (by omega)) rfl rfl ?_)
 clear hf hS; rintro v a w ⟨rfl, hS⟩ hf
 first | refine split_dec (d := 197) hf rfl ?_ ?_ | refine split_bool (d := 197) hf rfl ?_ ?_
 ·
  clear hf; intro hc65 hf
  iterate 2 ((first | refine mN hf hS ?_ | refine step_l (st_rd hf (Wn.some hf rfl rfl rfl rfl) (rd_move hf rfl rfl) hS rfl rfl ?_)); clear hf; intro a hf)
  refine step_l (st_call hf (Wn.some hf rfl rfl rfl rfl) rfl rfl rfl fn15 (NLen_c _ _ _ (hS.selA)) rfl rfl ?_)
  clear hf hS; rintro v a w ⟨rfl, hS⟩ hf
  refine step_l (st_rdB hf (Wn.some hf rfl rfl rfl rfl) (rd_eql hf rfl rfl rfl) hS rfl rfl ?_ ?_)
  ·
   clear hf; intro hc66 a hf
   iterate 2 ((first | refine mN hf hS ?_ | refine pT hf hS ?_); clear hf; intro a hf)
   refine step_l (st_call hf (Wn.some hf rfl rfl rfl rfl) rfl rfl rfl fn17 (awake_c hS) rfl rfl ?_)
   clear hf hS; rintro v a w ⟨rfl, hS⟩ hf
   iterate 2 ((first | refine aN hf hS ?_ | refine pT hf hS ?_); clear hf; intro a hf)
   refine done_l (t_normal (c_ret ?_))
   refine eT hf ?_
   exact ⟨rfl, hS.subA⟩
  clear hf; intro hc66 a hf
  exact absurd rfl hc66
 clear hf; intro hc65 hf
 exact Bool.noConfusion hc65

end Go.Proofs.YtcflbdpjoanbgaaGreat
