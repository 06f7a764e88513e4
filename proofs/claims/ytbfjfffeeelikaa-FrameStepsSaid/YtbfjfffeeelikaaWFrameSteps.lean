/-
  The statement FrameSteps, walked.
  Conditions: none.
-/
import Derived.Test.YtbfjfffeeelikaaFlaw1
namespace Go.Proofs.Ytbfjfffeeelikaa
open Go Go.Sl
set_option linter.unusedVariables false
set_option linter.unusedSimpArgs false
theorem bz3_1 : ((Array.range (1 * 1)).map (fun j => ((.int .i64 0 : Value)).cells[j % ((.int .i64 0 : Value)).cells.size]!)) = ([.int .i64 0] : List Value).toArray := by kernel_rfl
theorem fn11 : fnB Try.prog 11 = true := by kernel_rfl
theorem fn12 : fnB Try.prog 12 = true := by kernel_rfl
theorem fn14 : fnB Try.prog 14 = true := by kernel_rfl
theorem fn16 : fnB Try.prog 16 = true := by kernel_rfl
theorem fn18 : fnB Try.prog 18 = true := by kernel_rfl
theorem sz3 : (Try.prog.info? 3).map (·.size) = some 1 := by kernel_rfl
theorem tyb3 : TyB Try.prog 3 (.int .i64 0) 1 8 := by unfold TyB; kernel_rfl
theorem zr3 : (Try.prog.info? 3).bind (·.zero) = some (.int .i64 0) := by kernel_rfl
set_option maxRecDepth 100000 in
set_option maxHeartbeats 2000000 in
theorem FrameSteps_c (l : List (Sli UInt8)) (ql : Option Addr) (cl : Nat) (m : List UInt8) (qm : Option Addr) (cm : Nat) {W : World} {R : List HP} {w : World} (hS : Sat W (R) w) (hl9 : l.length ≤ 140737488351232) (hv : ∀ w, Sat W R w → BB w ql l) (hm : m.length ≤ 140737488351232) (hcm : m.length ≤ cm) (hvm : ∀ w, Sat W R w → SlAt w qm m.length 1 (bvs m)) : Calls Try.prog 8 [.slice ql l.length cl, .slice qm m.length cm].toArray w (Ret fun v w' => v = .bool true ∧ Sat W R w') := by
  refine fn_start 104 Try.func8 rfl rfl rfl ?_
  intro a hf
  refine c_seq ?_
  refine c_region ?_
  refine step_l (st_rd hf (Wn.none rfl) (rd_assign hf rfl rfl) hS rfl rfl ?_)
  clear hf; intro a hf
  refine done_l ?_
  refine t_normal ?_
  refine c_seq ?_
  refine c_region ?_
  refine step_l (st_rd hf (Wn.none rfl) (rd_assign hf rfl rfl) hS rfl rfl ?_)
  clear hf; intro a hf
  refine done_l ?_
  refine t_normal ?_
  refine c_seq ?_
  refine c_seq ?_
  refine c_region ?_
  refine step_l (st_rd hf (Wn.none rfl) (rd_move hf rfl rfl) hS rfl rfl ?_)
  clear hf; intro a hf
  refine step_l (st_call hf (Wn.none rfl) rfl rfl rfl fn14 (small_c l _ _ _ hS rfl (by omega) (fun _ h => hv _ (h.sub (by repeat (first | exact Sub.refl | exact Sub.none | exact Sub.behind | (apply Sub.cons; (focus ((repeat (first | exact Sel.head | apply Sel.tail)); done))) | apply Sub.skip))))) rfl rfl ?_)
  clear hf hS; rintro v a w ⟨qs, caps, rfl, hS⟩ hf; obtain ⟨M, hM⟩ : ∃ M, M = smallL l := ⟨_, rfl⟩; rw [← hM] at hf hS; have hk := SmOk.of hM
  refine step_l (st_rd hf (Wn.none rfl) (rd_len hf rfl rfl Try.underlying34) hS rfl rfl ?_)
  clear hf; intro a hf
  refine step_l (st_rd hf (Wn.none rfl) (rd_move hf rfl rfl) hS rfl rfl ?_)
  clear hf; intro a hf
  refine done_l ?_
  refine t_normal ?_
  refine c_block ?_
  have hk0 := Keep.of hf [(4, 5), (7, 9), (25, 38)] (by repeat (first | exact Keep.nil | apply Keep.drop rfl | apply Keep.take rfl))
  refine c_loopK hk0 (α := Nat × Option Addr × Nat) (fun ⟨k, q, cap⟩ => [(5, .slice q (frs ((byts M).take k)).length cap), (25, .int .i64 (k : Nat))]) (fun ⟨k, q, cap⟩ w => Sat W (Rw 22 1 qs M.length caps (M.map sval) :: Rw 5 1 q ((frs ((byts M).take k))).length cap (bvs ((frs ((byts M).take k)))) :: R) w ∧ k ≤ M.length) (fun ⟨k, q, cap⟩ => M.length - k) (0, none, 0) (((hf.keep hk0).kb hf 25 rfl (by first | rfl | exact int_eq (by omega))).kb hf 5 rfl (by first | rfl | exact int_eq (by omega))) ⟨(hS.rwNil 5 1).sub (by repeat (first | exact Sub.refl | exact Sub.none | exact Sub.behind | (apply Sub.cons; (focus ((repeat (first | exact Sel.head | apply Sel.tail)); done))) | apply Sub.skip)), by omega⟩ ?_
  clear hf hS; rintro ⟨k, q, cap⟩ a w hf ⟨hS, hkM⟩; (try dsimp only [List.cons_append, List.nil_append] at hf)
  refine c_seq ?_
  refine c_region ?_
  refine step_l (st_rdB hf (Wn.none rfl) (rd_lss hf rfl rfl rfl) hS rfl rfl ?_ ?_)
  · clear hf; intro hc1 a hf
    obtain ⟨x, hget⟩ := get_of_lt (l := M) (k := k) (by omega) rfl; obtain ⟨ad, rfl⟩ := (hS.slOfRw (xs := M.map sval) (by repeat (first | exact Sel.head | apply Sel.tail))).some (by omega); have hx5 := hk.row x (List.mem_of_getElem? hget); have hfr := hk.fr k; have hfr2 := hk.fr (k + 1); have hml := hk.len
    refine done_l ?_
    refine t_normal ?_
    refine c_seq ?_
    refine c_true hf rfl ?_
    refine c_skip ?_
    refine t_normal ?_
    refine c_seq ?_
    refine c_block ?_
    refine c_seq ?_
    refine c_region ?_
    refine step_l (st_rd hf (Wn.none rfl) ((by first | exact rd_indexAddrN1 hf rfl rfl rfl Try.underlying34 sz22 (by omega) | exact rd_indexAddr hf rfl rfl rfl Try.underlying34 sz22 (by first | decide | omega) (by omega))) hS rfl rfl ?_)
    clear hf; intro a hf
    refine step_l (st_rd hf (Wn.none rfl) (rd_load1 hf rfl rfl ag22 (by intro _ h; exact (h.slOfRw (xs := M.map sval) (by repeat (first | exact Sel.head | apply Sel.tail))).get (u := sval x) (by simp [hget]))) hS rfl rfl ?_)
    clear hf; intro a hf
    refine step_l (st_rd hf (Wn.none rfl) (rd_assign hf rfl rfl) hS rfl rfl ?_)
    clear hf; intro a hf
    refine done_l ?_
    refine t_normal ?_
    refine c_seq ?_
    refine c_region ?_
    refine step_l (st_rd hf (Wn.none rfl) (rd_move hf rfl rfl) hS rfl rfl ?_)
    clear hf; intro a hf
    refine step_l (st_rd hf (Wn.none rfl) (rd_move hf rfl rfl) hS rfl rfl ?_)
    clear hf; intro a hf
    refine step_l (st_call hf (Wn.none rfl) rfl rfl rfl fn10 (PutA_c (frs ((byts M).take k)) _ _ _ x.2.2 _ _ _ hS rfl (by omega) (fun _ h => h.slOfRw (xs := bvs (frs ((byts M).take k))) (by repeat (first | exact Sel.head | apply Sel.tail))) rfl (fun _ h => (hv _ (h.sub (by repeat (first | exact Sub.refl | exact Sub.none | exact Sub.behind | (apply Sub.cons; (focus ((repeat (first | exact Sel.head | apply Sel.tail)); done))) | apply Sub.skip)))).row x (hk.sub x (List.mem_of_getElem? hget)))) rfl rfl ?_)
    clear hf hS; rintro v a w ⟨qp, capp, rfl, hS⟩ hf; obtain ⟨hp1, hp2⟩ := put_yes (b := (frs ((byts M).take k))) (r := x.2.2) (by omega); rw [hp1, hp2, ← frs_take (byts_get hget)] at hf; rw [hp1, ← frs_take (byts_get hget)] at hS
    refine step_l (st_rd hf (Wn.none rfl) (rd_move hf rfl rfl) hS rfl rfl ?_)
    clear hf; intro a hf
    refine step_l (st_rd hf (Wn.none rfl) (rd_extract hf rfl rfl rfl) hS rfl rfl ?_)
    clear hf; intro a hf
    refine step_l (st_rd hf (Wn.none rfl) (rd_extract hf rfl rfl rfl) hS rfl rfl ?_)
    clear hf; intro a hf
    refine step_l (st_rd hf (Wn.none rfl) (rd_assign hf rfl rfl) hS rfl rfl ?_)
    clear hf; intro a hf
    refine step_l (st_rd hf (Wn.none rfl) (rd_assign hf rfl rfl) hS rfl rfl ?_)
    clear hf; intro a hf
    refine done_l ?_
    refine t_normal ?_
    refine c_seq ?_
    refine c_seq ?_
    refine c_region ?_
    refine step_l (st_rd hf (Wn.none rfl) (rd_move hf rfl rfl) hS rfl rfl ?_)
    clear hf; intro a hf
    refine step_l (st_rdB hf (Wn.none rfl) (rd_neq hf rfl rfl rfl) hS rfl rfl ?_ ?_)
    · clear hf; intro hc2 a hf
      exact absurd rfl hc2
    · clear hf; intro hc2 a hf
      refine done_l ?_
      refine t_normal ?_
      refine c_false hf rfl ?_
      refine c_skip ?_
      refine t_normal ?_
      refine c_region ?_
      refine step_l (st_rd hf (Wn.none rfl) (rd_move hf rfl rfl) hS rfl rfl ?_)
      clear hf; intro a hf
      refine step_l (st_rd hf (Wn.none rfl) (rd_assign hf rfl rfl) hS rfl rfl ?_)
      clear hf; intro a hf
      refine done_l ?_
      refine b_normal ?_
      refine t_normal ?_
      refine c_region ?_
      refine step_l (st_rd hf (Wn.none rfl) (rd_add hf rfl rfl rfl (by first | exact Go.IntWalk.i64_in _ (by omega) | exact rfl)) hS rfl rfl ?_)
      clear hf; intro a hf
      refine step_l (st_rd hf (Wn.none rfl) (rd_move hf rfl rfl) hS rfl rfl ?_)
      clear hf; intro a hf
      refine done_l ?_
      refine t_normal ⟨(k + 1, qp, capp), (((hf.back (by repeat (first | exact Behind.refl | refine Behind.skip rfl ?_)) hk0).kb hf 25 rfl (by first | rfl | exact int_eq (by omega))).kb hf 5 rfl (by first | rfl | exact int_eq (by omega))), ⟨hS.sub (by repeat (first | exact Sub.refl | exact Sub.none | exact Sub.behind | (apply Sub.cons; (focus ((repeat (first | exact Sel.head | apply Sel.tail)); done))) | apply Sub.skip)), by omega⟩, by first | omega | (simp only []; omega)⟩
  · clear hf; intro hc1 a hf
    obtain rfl : k = M.length := by omega
    rw [byts_all] at hf hS
    have hfa := hk.all; have hml := hk.len
    refine done_l ?_
    refine t_normal ?_
    refine c_seq ?_
    refine c_false hf rfl ?_
    refine c_exit ?_
    refine t_exit ?_
    refine t_exit ?_
    refine b_exit ?_
    refine t_normal ?_
    refine c_seq ?_
    refine c_seq ?_
    refine c_region ?_
    refine step_l (st_rd hf (Wn.none rfl) (rd_move hf rfl rfl) hS rfl rfl ?_)
    clear hf; intro a hf
    refine step_l (st_rd hf (Wn.none rfl) (rd_len hf rfl rfl Try.underlying22) hS rfl rfl ?_)
    clear hf; intro a hf
    refine step_l (st_rdB hf (Wn.none rfl) (rd_gtr hf rfl rfl rfl) hS rfl rfl ?_ ?_)
    · clear hf; intro hc3 a hf
      refine done_l ?_
      refine t_normal ?_
      refine c_true hf rfl ?_
      refine c_seq ?_
      refine c_region ?_
      refine step_l (st_call hf (Wn.none rfl) rfl rfl rfl fn11 (awake_c hS) rfl rfl ?_)
      clear hf hS; rintro v a w ⟨rfl, hS⟩ hf
      refine step_l (st_rd hf (Wn.none rfl) (rd_assign hf rfl rfl) hS rfl rfl ?_)
      clear hf; intro a hf
      refine done_l ?_
      refine t_normal ?_
      refine c_ret ?_
      refine t_ret ?_
      refine e_res1 hf.defers rfl (res_tmp hf rfl .nil) ?_
      exact ⟨rfl, hS.sub (by repeat (first | exact Sub.refl | exact Sub.none | exact Sub.behind | (apply Sub.cons; (focus ((repeat (first | exact Sel.head | apply Sel.tail)); done))) | apply Sub.skip))⟩
    · clear hf; intro hc3 a hf
      refine done_l ?_
      refine t_normal ?_
      refine c_false hf rfl ?_
      refine c_skip ?_
      refine t_normal ?_
      refine c_seq ?_
      refine c_region ?_
      refine step_l (st_rd hf (Wn.none rfl) (rd_move hf rfl rfl) hS rfl rfl ?_)
      clear hf; intro a hf
      refine step_l (st_rd hf (Wn.none rfl) (rd_move hf rfl rfl) hS rfl rfl ?_)
      clear hf; intro a hf
      refine step_l (st_append hf (Wn.none rfl) rfl rfl rfl Try.underlying22 tyb5 (by rfl) (by decide) hS (by repeat (first | exact Sel.head | apply Sel.tail)) (by first | exact hS.slOfBlk (by repeat (first | exact Sel.head | apply Sel.tail)) (by rfl) | exact hS.slOfBlkPre (by repeat (first | exact Sel.head | apply Sel.tail)) (bvs_len1 _) | exact hS.slOfRw (by repeat (first | exact Sel.head | apply Sel.tail)) | exact SlAt.nil _ _ _ | exact hvm _ (hS.sub (by repeat (first | exact Sub.refl | exact Sub.none | exact Sub.behind | (apply Sub.cons; (focus ((repeat (first | exact Sel.head | apply Sel.tail)); done))) | apply Sub.skip)))) (by first | rfl | exact bvs_one _ | (simp [Value.oneCell']; done)) (by omega) rfl rfl ?_)
      clear hf hS; intro pA capA a w hf hS hnilA
      refine step_l (st_rd hf (Wn.none rfl) (rd_assign hf rfl rfl) hS rfl rfl ?_)
      clear hf; intro a hf
      refine done_l ?_
      obtain ⟨bb, hbb⟩ : ∃ bb, bb = ((frs (byts M)) ++ m) := ⟨_, rfl⟩
      have hbl : bb.length = (frs (byts M)).length + m.length := by rw [hbb, List.length_append]
      replace hS := (hS.sel (by repeat (first | exact Sel.head | apply Sel.tail)) : Sat W (Rw 5 1 pA _ capA _ :: _) _).rwCast (xs' := bvs bb) (len' := bb.length) (by rw [hbb]; simp) (by omega)
      replace hf := hf.kb hf 5 rfl (slice_eq (n' := bb.length) (by omega)); obtain ⟨qa, hqa⟩ : ∃ q, q = pA := ⟨_, rfl⟩; obtain ⟨capa, hca⟩ : ∃ q, q = capA := ⟨_, rfl⟩; rw [← hqa, ← hca] at hf hS; have hcapa := (hS.rwLen (xs := bvs bb) (by repeat (first | exact Sel.head | apply Sel.tail))).2.1
      refine t_normal ?_
      refine c_seq ?_
      refine c_region ?_
      refine step_l (st_rd hf (Wn.none rfl) (rd_move hf rfl rfl) hS rfl rfl ?_)
      clear hf; intro a hf
      refine step_l (st_call hf (Wn.none rfl) rfl rfl rfl fn16 (FAll_c bb _ _ _ hS rfl (by omega) hcapa (fun _ h => h.slOfRw (xs := bvs bb) (by repeat (first | exact Sel.head | apply Sel.tail)))) rfl rfl ?_)
      clear hf hS; rintro v a w ⟨qu, capu, Lu, hu, rfl, hS⟩ hf; have hu8 := allB_len hu
      refine step_l (st_rd hf (Wn.none rfl) (rd_move hf rfl rfl) hS rfl rfl ?_)
      clear hf; intro a hf
      refine step_l (st_rd hf (Wn.none rfl) (rd_extract hf rfl rfl rfl) hS rfl rfl ?_)
      clear hf; intro a hf
      refine step_l (st_rd hf (Wn.none rfl) (rd_extract hf rfl rfl rfl) hS rfl rfl ?_)
      clear hf; intro a hf
      refine step_l (st_rd hf (Wn.none rfl) (rd_extract hf rfl rfl rfl) hS rfl rfl ?_)
      clear hf; intro a hf
      refine step_l (st_rd hf (Wn.none rfl) (rd_assign hf rfl rfl) hS rfl rfl ?_)
      clear hf; intro a hf
      refine step_l (st_rd hf (Wn.none rfl) (rd_assign hf rfl rfl) hS rfl rfl ?_)
      clear hf; intro a hf
      refine step_l (st_rd hf (Wn.none rfl) (rd_assign hf rfl rfl) hS rfl rfl ?_)
      clear hf; intro a hf
      refine done_l ?_
      refine t_normal ?_
      refine c_seq ?_
      refine c_region ?_
      refine step_l (st_rd hf (Wn.none rfl) (rd_assign hf rfl rfl) hS rfl rfl ?_)
      clear hf; intro a hf
      refine done_l ?_
      refine t_normal ?_
      refine c_seq ?_
      refine c_seq ?_
      refine c_region ?_
      refine step_l (st_rd hf (Wn.none rfl) (rd_move hf rfl rfl) hS rfl rfl ?_)
      clear hf; intro a hf
      refine step_l (st_rd hf (Wn.none rfl) (rd_len hf rfl rfl Try.underlying34) hS rfl rfl ?_)
      clear hf; intro a hf
      refine step_l (st_rd hf (Wn.none rfl) (rd_move hf rfl rfl) hS rfl rfl ?_)
      clear hf; intro a hf
      refine done_l ?_
      refine t_normal ?_
      refine c_block ?_
      have hk1 := Keep.of hf [(4, 4), (13, 13), (15, 18), (54, 85)] (by repeat (first | exact Keep.nil | apply Keep.drop rfl | apply Keep.take rfl))
      refine c_loopK hk1 (α := Nat × Nat) (fun ⟨i, at_⟩ => [(13, .int .i64 (at_ : Nat)), (54, .int .i64 (i : Nat))]) (fun ⟨i, at_⟩ w => Sat W (Rw 5 1 qa (bb).length capa (bvs (bb)) :: Rw 22 1 qu Lu.length capu (Lu.map sval) :: Rws 5 Lu :: R) w ∧ i ≤ Lu.length ∧ at_ ≤ bb.length ∧ allB bb = ((byts Lu).take i ++ (allB (bb.drop at_)).1, at_ + (allB (bb.drop at_)).2.1, (allB (bb.drop at_)).2.2)) (fun ⟨i, at_⟩ => Lu.length - i) (0, 0) (((hf.keep hk1).kb hf 54 rfl (by first | rfl | exact int_eq (by omega))).kb hf 13 rfl (by first | rfl | exact int_eq (by omega))) ⟨hS.sub (by repeat (first | exact Sub.refl | exact Sub.none | exact Sub.behind | (apply Sub.cons; (focus ((repeat (first | exact Sel.head | apply Sel.tail)); done))) | apply Sub.skip)), ⟨by omega, by omega, by simp⟩⟩ ?_
      clear hf hS; rintro ⟨i, at_⟩ a w hf ⟨hS, ⟨hi, hat, hinv⟩⟩; (try dsimp only [List.cons_append, List.nil_append] at hf)
      refine c_seq ?_
      refine c_region ?_
      refine step_l (st_rdB hf (Wn.none rfl) (rd_lss hf rfl rfl rfl) hS rfl rfl ?_ ?_)
      · clear hf; intro hc5 a hf
        obtain ⟨x, hgx⟩ := get_of_lt (l := Lu) (k := i) (by omega) rfl; obtain ⟨ad2, rfl⟩ := (hS.slOfRw (xs := Lu.map sval) (by repeat (first | exact Sel.head | apply Sel.tail))).some (by omega)
        refine done_l ?_
        refine t_normal ?_
        refine c_seq ?_
        refine c_true hf rfl ?_
        refine c_skip ?_
        refine t_normal ?_
        refine c_seq ?_
        refine c_block ?_
        refine c_seq ?_
        refine c_region ?_
        refine step_l (st_rd hf (Wn.none rfl) ((by first | exact rd_indexAddrN1 hf rfl rfl rfl Try.underlying34 sz22 (by omega) | exact rd_indexAddr hf rfl rfl rfl Try.underlying34 sz22 (by first | decide | omega) (by omega))) hS rfl rfl ?_)
        clear hf; intro a hf
        refine step_l (st_rd hf (Wn.none rfl) (rd_load1 hf rfl rfl ag22 (by intro _ h; exact (h.slOfRw (xs := Lu.map sval) (by repeat (first | exact Sel.head | apply Sel.tail))).get (u := sval x) (by simp [hgx]))) hS rfl rfl ?_)
        clear hf; intro a hf
        refine step_l (st_rd hf (Wn.none rfl) (rd_assign hf rfl rfl) hS rfl rfl ?_)
        clear hf; intro a hf
        refine done_l ?_
        refine t_normal ?_
        refine c_seq ?_
        refine c_region ?_
        refine step_l (st_rd hf (Wn.none rfl) (rd_move hf rfl rfl) hS rfl rfl ?_)
        clear hf; intro a hf
        refine step_l (st_rd hf (Wn.none rfl) (rd_move hf rfl rfl) hS rfl rfl ?_)
        clear hf; intro a hf
        refine step_l (st_rd hf (Wn.none rfl) (rd_sliceL hf rfl rfl rfl Try.underlying22 sz5 (by omega) (by omega)) hS rfl rfl ?_)
        clear hf; intro a hf
        refine step_l (st_call hf (Wn.none rfl) rfl rfl rfl fn13 (FTake_c (bb.drop at_) _ _ _ hS (by rw [List.length_drop]; try rfl) (by rw [List.length_drop]; omega) (by rw [List.length_drop]; omega) (fun _ h => subv (at_ : Int) (h.slOfRw (xs := bvs bb) (by repeat (first | exact Sel.head | apply Sel.tail))) (show at_ ≤ bb.length by omega) hcapa)) rfl rfl ?_)
        clear hf hS; rintro v a w ⟨qt, capt, rfl, hS⟩ hf; obtain ⟨he0, he1⟩ := steps_ok hu hinv (byts_get hgx); obtain ⟨hb1, hb2, hb3, hb4⟩ := tk_bound he0; have hdl : (bb.drop at_).length = bb.length - at_ := List.length_drop; rw [he1] at hb3; rw [he0, he1] at hf; rw [he1] at hS
        refine step_l (st_rd hf (Wn.none rfl) (rd_move hf rfl rfl) hS rfl rfl ?_)
        clear hf; intro a hf
        refine step_l (st_rd hf (Wn.none rfl) (rd_extract hf rfl rfl rfl) hS rfl rfl ?_)
        clear hf; intro a hf
        refine step_l (st_rd hf (Wn.none rfl) (rd_extract hf rfl rfl rfl) hS rfl rfl ?_)
        clear hf; intro a hf
        refine step_l (st_rd hf (Wn.none rfl) (rd_extract hf rfl rfl rfl) hS rfl rfl ?_)
        clear hf; intro a hf
        refine step_l (st_rd hf (Wn.none rfl) (rd_assign hf rfl rfl) hS rfl rfl ?_)
        clear hf; intro a hf
        refine step_l (st_rd hf (Wn.none rfl) (rd_assign hf rfl rfl) hS rfl rfl ?_)
        clear hf; intro a hf
        refine step_l (st_rd hf (Wn.none rfl) (rd_assign hf rfl rfl) hS rfl rfl ?_)
        clear hf; intro a hf
        refine done_l ?_
        refine t_normal ?_
        refine c_seq ?_
        refine c_seq ?_
        refine c_region ?_
        refine step_l (st_rd hf (Wn.none rfl) (rd_move hf rfl rfl) hS rfl rfl ?_)
        clear hf; intro a hf
        refine step_l (st_rdB hf (Wn.none rfl) (rd_neq hf rfl rfl rfl) hS rfl rfl ?_ ?_)
        · clear hf; intro hc6 a hf
          exact absurd rfl hc6
        · clear hf; intro hc6 a hf
          refine step_l (st_rd hf (Wn.none rfl) (rd_move hf rfl rfl) hS rfl rfl ?_)
          clear hf; intro a hf
          refine step_l (st_rd hf (Wn.some hf rfl rfl rfl rfl) (rd_move hf rfl rfl) hS rfl rfl ?_)
          clear hf; intro a hf
          refine step_l (st_rd hf (Wn.some hf rfl rfl rfl rfl) (rd_str hf rfl rfl Try.underlying22 Try.underlying9 Try.underlying5 (by intro _ h; first | exact h.slOfRw (by repeat (first | exact Sel.head | apply Sel.tail)) | exact h.slOfBlkPre (by repeat (first | exact Sel.head | apply Sel.tail)) (bvs_len1 _) | exact h.slOfRw (by repeat (first | exact Sel.head | apply Sel.tail)) | exact h.rws (by repeat (first | exact Sel.head | apply Sel.tail)) x (List.mem_of_getElem? hgx))) hS rfl rfl ?_)
          clear hf; intro a hf
          refine step_l (st_rd hf (Wn.some hf rfl rfl rfl rfl) (rd_move hf rfl rfl) hS rfl rfl ?_)
          clear hf; intro a hf
          refine step_l (st_rd hf (Wn.some hf rfl rfl rfl rfl) (rd_str hf rfl rfl Try.underlying22 Try.underlying9 Try.underlying5 (by intro _ h; first | exact h.slOfRw (by repeat (first | exact Sel.head | apply Sel.tail)) | exact h.slOfBlkPre (by repeat (first | exact Sel.head | apply Sel.tail)) (bvs_len1 _) | exact h.slOfRw (by repeat (first | exact Sel.head | apply Sel.tail)) | exact h.rws (by repeat (first | exact Sel.head | apply Sel.tail)) x (List.mem_of_getElem? hgx))) hS rfl rfl ?_)
          clear hf; intro a hf
          refine step_l (st_rdB hf (Wn.some hf rfl rfl rfl rfl) (rd_neqS hf rfl rfl rfl) hS rfl rfl ?_ ?_)
          · clear hf; intro hc7 a hf
            exact absurd rfl hc7
          · clear hf; intro hc7 a hf
            refine step_l (st_rd hf (Wn.none rfl) (rd_pick_f hf rfl rfl rfl) hS rfl rfl ?_)
            clear hf; intro a hf
            refine step_l (st_rd hf (Wn.none rfl) (rd_move hf rfl rfl) hS rfl rfl ?_)
            clear hf; intro a hf
            refine step_l (st_rd hf (Wn.some hf rfl rfl rfl rfl) (rd_move hf rfl rfl) hS rfl rfl ?_)
            clear hf; intro a hf
            refine step_l (st_rd hf (Wn.some hf rfl rfl rfl rfl) (rd_move hf rfl rfl) hS rfl rfl ?_)
            clear hf; intro a hf
            refine step_l (st_rd hf (Wn.some hf rfl rfl rfl rfl) (rd_len hf rfl rfl Try.underlying22) hS rfl rfl ?_)
            clear hf; intro a hf
            refine step_l (st_rd hf (Wn.some hf rfl rfl rfl rfl) (rd_add hf rfl rfl rfl (by first | exact Go.IntWalk.i64_in _ (by omega) | exact rfl)) hS rfl rfl ?_)
            clear hf; intro a hf
            refine step_l (st_rdB hf (Wn.some hf rfl rfl rfl rfl) (rd_neq hf rfl rfl rfl) hS rfl rfl ?_ ?_)
            · clear hf; intro hc8 a hf
              exact absurd (by omega) hc8
            · clear hf; intro hc8 a hf
              refine step_l (st_rd hf (Wn.none rfl) (rd_pick_f hf rfl rfl rfl) hS rfl rfl ?_)
              clear hf; intro a hf
              refine done_l ?_
              refine t_normal ?_
              refine c_false hf rfl ?_
              refine c_skip ?_
              refine t_normal ?_
              refine c_region ?_
              refine step_l (st_rd hf (Wn.none rfl) (rd_move hf rfl rfl) hS rfl rfl ?_)
              clear hf; intro a hf
              refine step_l (st_rd hf (Wn.none rfl) (rd_move hf rfl rfl) hS rfl rfl ?_)
              clear hf; intro a hf
              refine step_l (st_rd hf (Wn.none rfl) (rd_add hf rfl rfl rfl (i64_add (by omega))) hS rfl rfl ?_)
              clear hf; intro a hf
              refine step_l (st_rd hf (Wn.none rfl) (rd_assign hf rfl rfl) hS rfl rfl ?_)
              clear hf; intro a hf
              refine done_l ?_
              refine b_normal ?_
              refine t_normal ?_
              refine c_region ?_
              refine step_l (st_rd hf (Wn.none rfl) (rd_add hf rfl rfl rfl (by first | exact Go.IntWalk.i64_in _ (by omega) | exact rfl)) hS rfl rfl ?_)
              clear hf; intro a hf
              refine step_l (st_rd hf (Wn.none rfl) (rd_move hf rfl rfl) hS rfl rfl ?_)
              clear hf; intro a hf
              refine done_l ?_
              refine t_normal ⟨(i + 1, at_ + tkN (bb.drop at_)), (((hf.back (by repeat (first | exact Behind.refl | refine Behind.skip rfl ?_)) hk1).kb hf 54 rfl (by first | rfl | exact int_eq (by omega))).kb hf 13 rfl (by first | rfl | exact int_eq (by omega))), ⟨hS.sub (by repeat (first | exact Sub.refl | exact Sub.none | exact Sub.behind | (apply Sub.cons; (focus ((repeat (first | exact Sel.head | apply Sel.tail)); done))) | apply Sub.skip)), ⟨by omega, by omega, steps_next hinv (byts_get hgx) he0 he1⟩⟩, by first | omega | (simp only []; omega)⟩
      · clear hf; intro hc5 a hf
        obtain rfl : i = Lu.length := by omega
        rw [byts_all] at hinv; obtain ⟨hz1, hz2⟩ := steps_end hu hinv
        refine done_l ?_
        refine t_normal ?_
        refine c_seq ?_
        refine c_false hf rfl ?_
        refine c_exit ?_
        refine t_exit ?_
        refine t_exit ?_
        refine b_exit ?_
        refine t_normal ?_
        refine c_seq ?_
        refine c_region ?_
        refine step_l (st_rd hf (Wn.none rfl) (rd_move hf rfl rfl) hS rfl rfl ?_)
        clear hf; intro a hf
        refine step_l (st_rd hf (Wn.none rfl) (rd_move hf rfl rfl) hS rfl rfl ?_)
        clear hf; intro a hf
        refine step_l (st_rd hf (Wn.none rfl) (rd_sliceL hf rfl rfl rfl Try.underlying22 sz5 (by omega) (by omega)) hS rfl rfl ?_)
        clear hf; intro a hf
        refine step_l (st_call hf (Wn.none rfl) rfl rfl rfl fn13 (FTake_c (bb.drop at_) _ _ _ hS (by rw [List.length_drop]; try rfl) (by rw [List.length_drop]; omega) (by rw [List.length_drop]; omega) (fun _ h => subv (at_ : Int) (h.slOfRw (xs := bvs bb) (by repeat (first | exact Sel.head | apply Sel.tail))) (show at_ ≤ bb.length by omega) hcapa)) rfl rfl ?_)
        clear hf hS; rintro v a w ⟨qt, capt, rfl, hS⟩ hf
        refine step_l (st_rd hf (Wn.none rfl) (rd_move hf rfl rfl) hS rfl rfl ?_)
        clear hf; intro a hf
        refine step_l (st_rd hf (Wn.none rfl) (rd_extract hf rfl rfl rfl) hS rfl rfl ?_)
        clear hf; intro a hf
        refine step_l (st_rd hf (Wn.none rfl) (rd_extract hf rfl rfl rfl) hS rfl rfl ?_)
        clear hf; intro a hf
        refine step_l (st_rd hf (Wn.none rfl) (rd_extract hf rfl rfl rfl) hS rfl rfl ?_)
        clear hf; intro a hf
        refine step_l (st_rd hf (Wn.none rfl) (rd_assign hf rfl rfl) hS rfl rfl ?_)
        clear hf; intro a hf
        refine step_l (st_rd hf (Wn.none rfl) (rd_assign hf rfl rfl) hS rfl rfl ?_)
        clear hf; intro a hf
        refine step_l (st_rd hf (Wn.none rfl) (rd_assign hf rfl rfl) hS rfl rfl ?_)
        clear hf; intro a hf
        refine done_l ?_
        refine t_normal ?_
        refine c_seq ?_
        refine c_region ?_
        refine step_l (st_rd hf (Wn.none rfl) (rd_move hf rfl rfl) hS rfl rfl ?_)
        clear hf; intro a hf
        refine step_l (st_rd hf (Wn.none rfl) (rd_move hf rfl rfl) hS rfl rfl ?_)
        clear hf; intro a hf
        refine step_l (st_rdB hf (Wn.none rfl) (rd_eql hf rfl rfl rfl) hS rfl rfl ?_ ?_)
        · clear hf; intro hc9 a hf
          refine step_l (st_rd hf (Wn.none rfl) (rd_move hf rfl rfl) hS rfl rfl ?_)
          clear hf; intro a hf
          refine step_l (st_rd hf (Wn.some hf rfl rfl rfl rfl) (rd_move hf rfl rfl) hS rfl rfl ?_)
          clear hf; intro a hf
          refine step_l (st_rdB hf (Wn.some hf rfl rfl rfl rfl) (rd_neq hf rfl rfl rfl) hS rfl rfl ?_ ?_)
          · clear hf; intro hc10 a hf
            refine step_l (st_rd hf (Wn.none rfl) (rd_pick_t hf rfl rfl rfl) hS rfl rfl ?_)
            clear hf; intro a hf
            refine step_l (st_rd hf (Wn.none rfl) (rd_move hf rfl rfl) hS rfl rfl ?_)
            clear hf; intro a hf
            refine step_l (st_call hf (Wn.some hf rfl rfl rfl rfl) rfl rfl rfl fn11 (awake_c hS) rfl rfl ?_)
            clear hf hS; rintro v a w ⟨rfl, hS⟩ hf
            refine step_l (st_rd hf (Wn.none rfl) (rd_pick_t hf rfl rfl rfl) hS rfl rfl ?_)
            clear hf; intro a hf
            refine step_l (st_rd hf (Wn.none rfl) (rd_assign hf rfl rfl) hS rfl rfl ?_)
            clear hf; intro a hf
            refine done_l ?_
            refine t_normal ?_
            refine c_ret ?_
            refine e_res1 hf.defers rfl (res_tmp hf rfl .nil) ?_
            exact ⟨rfl, hS.sub (by repeat (first | exact Sub.refl | exact Sub.none | exact Sub.behind | (apply Sub.cons; (focus ((repeat (first | exact Sel.head | apply Sel.tail)); done))) | apply Sub.skip))⟩
          · clear hf; intro hc10 a hf
            exact absurd (by omega) hc10
        · clear hf; intro hc9 a hf
          exact absurd (by rw [hz2]) hc9

end Go.Proofs.Ytbfjfffeeelikaa
