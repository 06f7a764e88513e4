/-
  The statement FrameBack, walked.
  Conditions: none.
-/
import Derived.Test.YtbfjfffeeelikaaFlaw1
namespace Go.Proofs.Ytbfjfffeeelikaa
open Go Go.Sl
set_option linter.unusedVariables false
set_option linter.unusedSimpArgs false
theorem bz3_1 : ((Array.range (1 * 1)).map (fun j => ((.int .i64 0 : Value)).cells[j % ((.int .i64 0 : Value)).cells.size]!)) = ([.int .i64 0] : List Value).toArray := by kernel_rfl
theorem fn11 : fnB Try.prog 11 = true := by kernel_rfl
theorem fn12 : fnB Try.prog 12 = true := by kernel_rfl
theorem fn14 : fnB Try.prog 14 = true := by kernel_rfl
theorem fn16 : fnB Try.prog 16 = true := by kernel_rfl
theorem fn18 : fnB Try.prog 18 = true := by kernel_rfl
theorem sz3 : (Try.prog.info? 3).map (·.size) = some 1 := by kernel_rfl
theorem tyb3 : TyB Try.prog 3 (.int .i64 0) 1 8 := by unfold TyB; kernel_rfl
theorem zr3 : (Try.prog.info? 3).bind (·.zero) = some (.int .i64 0) := by kernel_rfl
set_option maxRecDepth 100000 in
set_option maxHeartbeats 2000000 in
theorem FrameBack_c (l : List (Sli UInt8)) (ql : Option Addr) (cl : Nat) (cut0 : Int) {W : World} {R : List HP} {w : World} (hS : Sat W (R) w) (hl9 : l.length ≤ 140737488351232) (hv : ∀ w, Sat W R w → BB w ql l) : Calls Try.prog 7 [.slice ql l.length cl, .int .i64 cut0].toArray w (Ret fun v w' => v = .bool true ∧ Sat W R w') := by
  refine fn_start 125 Try.func7 rfl rfl rfl ?_
  intro a hf
  refine c_seq ?_
  refine c_region ?_
  refine step_l (st_rd hf (Wn.none rfl) (rd_assign hf rfl rfl) hS rfl rfl ?_)
  clear hf; intro a hf
  refine done_l ?_
  refine t_normal ?_
  refine c_seq ?_
  refine c_region ?_
  refine step_l (st_rd hf (Wn.none rfl) (rd_move hf rfl rfl) hS rfl rfl ?_)
  clear hf; intro a hf
  refine step_l (st_call hf (Wn.none rfl) rfl rfl rfl fn14 (small_c l _ _ _ hS rfl (by omega) (fun _ h => hv _ (h.sub (by repeat (first | exact Sub.refl | exact Sub.none | exact Sub.behind | (apply Sub.cons; (focus ((repeat (first | exact Sel.head | apply Sel.tail)); done))) | apply Sub.skip))))) rfl rfl ?_)
  clear hf hS; rintro v a w ⟨qs, caps, rfl, hS⟩ hf; obtain ⟨M, hM⟩ : ∃ M, M = smallL l := ⟨_, rfl⟩; rw [← hM] at hf hS; have hk := SmOk.of hM
  refine step_l (st_rd hf (Wn.none rfl) (rd_assign hf rfl rfl) hS rfl rfl ?_)
  clear hf; intro a hf
  refine done_l ?_
  refine t_normal ?_
  refine c_seq ?_
  refine c_region ?_
  refine step_l (st_rd hf (Wn.none rfl) (rd_assign hf rfl rfl) hS rfl rfl ?_)
  clear hf; intro a hf
  refine done_l ?_
  refine t_normal ?_
  refine c_seq ?_
  refine c_region ?_
  refine step_l (st_rd hf (Wn.none rfl) (rd_assign hf rfl rfl) hS rfl rfl ?_)
  clear hf; intro a hf
  refine done_l ?_
  refine t_normal ?_
  refine c_seq ?_
  refine c_seq ?_
  refine c_region ?_
  refine step_l (st_rd hf (Wn.none rfl) (rd_move hf rfl rfl) hS rfl rfl ?_)
  clear hf; intro a hf
  refine step_l (st_rd hf (Wn.none rfl) (rd_len hf rfl rfl Try.underlying34) hS rfl rfl ?_)
  clear hf; intro a hf
  refine step_l (st_rd hf (Wn.none rfl) (rd_move hf rfl rfl) hS rfl rfl ?_)
  clear hf; intro a hf
  refine done_l ?_
  refine t_normal ?_
  refine c_block ?_
  have hk0 := Keep.of hf [(4, 4), (6, 7), (9, 11), (24, 42)] (by repeat (first | exact Keep.nil | apply Keep.drop rfl | apply Keep.take rfl))
  refine c_loopK hk0 (α := Nat × Option Addr × Nat × Option Addr × Nat) (fun ⟨k, q, cap, qe, cape⟩ => [(6, .slice q (frs ((byts M).take k)).length cap), (7, .slice qe k cape), (24, .int .i64 (k : Nat))]) (fun ⟨k, q, cap, qe, cape⟩ w => Sat W (Rw 22 1 qs M.length caps (M.map sval) :: Rw 5 1 q ((frs ((byts M).take k))).length cap (bvs ((frs ((byts M).take k)))) :: Rw 3 1 qe k cape (i64s (ends M k)) :: R) w ∧ k ≤ M.length) (fun ⟨k, q, cap, qe, cape⟩ => M.length - k) (0, none, 0, none, 0) ((((hf.keep hk0).kb hf 24 rfl (by first | rfl | exact int_eq (by omega))).kb hf 7 rfl (by first | rfl | exact int_eq (by omega))).kb hf 6 rfl (by first | rfl | exact int_eq (by omega))) ⟨((hS.rwNil 3 1).rwNil 5 1).sub (by repeat (first | exact Sub.refl | exact Sub.none | exact Sub.behind | (apply Sub.cons; (focus ((repeat (first | exact Sel.head | apply Sel.tail)); done))) | apply Sub.skip)), by omega⟩ ?_
  clear hf hS; rintro ⟨k, q, cap, qe, cape⟩ a w hf ⟨hS, hkM⟩; (try dsimp only [List.cons_append, List.nil_append] at hf)
  refine c_seq ?_
  refine c_region ?_
  refine step_l (st_rdB hf (Wn.none rfl) (rd_lss hf rfl rfl rfl) hS rfl rfl ?_ ?_)
  · clear hf; intro hc1 a hf
    obtain ⟨x, hget⟩ := get_of_lt (l := M) (k := k) (by omega) rfl; obtain ⟨ad, rfl⟩ := (hS.slOfRw (xs := M.map sval) (by repeat (first | exact Sel.head | apply Sel.tail))).some (by omega); have hx5 := hk.row x (List.mem_of_getElem? hget); have hfr := hk.fr k; have hfr2 := hk.fr (k + 1); have hml := hk.len
    first
    | (first | exact Bool.noConfusion hc1 | exact absurd rfl hc1; done)
    | (
      refine done_l ?_
      refine t_normal ?_
      refine c_seq ?_
      refine c_true hf rfl ?_
      refine c_skip ?_
      refine t_normal ?_
      refine c_seq ?_
      refine c_block ?_
      refine c_seq ?_
      refine c_region ?_
      refine step_l (st_rd hf (Wn.none rfl) ((by first | exact rd_indexAddrN1 hf rfl rfl rfl Try.underlying34 sz22 (by omega) | exact rd_indexAddr hf rfl rfl rfl Try.underlying34 sz22 (by first | decide | omega) (by omega))) hS rfl rfl ?_)
      clear hf; intro a hf
      refine step_l (st_rd hf (Wn.none rfl) (rd_load1 hf rfl rfl ag22 (by intro _ h; exact (h.slOfRw (xs := M.map sval) (by repeat (first | exact Sel.head | apply Sel.tail))).get (u := sval x) (by simp [hget]))) hS rfl rfl ?_)
      clear hf; intro a hf
      refine step_l (st_rd hf (Wn.none rfl) (rd_assign hf rfl rfl) hS rfl rfl ?_)
      clear hf; intro a hf
      refine done_l ?_
      refine t_normal ?_
      refine c_seq ?_
      refine c_region ?_
      refine step_l (st_rd hf (Wn.none rfl) (rd_move hf rfl rfl) hS rfl rfl ?_)
      clear hf; intro a hf
      refine step_l (st_rd hf (Wn.none rfl) (rd_move hf rfl rfl) hS rfl rfl ?_)
      clear hf; intro a hf
      refine step_l (st_call hf (Wn.none rfl) rfl rfl rfl fn10 (PutA_c (frs ((byts M).take k)) _ _ _ x.2.2 _ _ _ hS rfl (by omega) (fun _ h => h.slOfRw (xs := bvs (frs ((byts M).take k))) (by repeat (first | exact Sel.head | apply Sel.tail))) rfl (fun _ h => (hv _ (h.sub (by repeat (first | exact Sub.refl | exact Sub.none | exact Sub.behind | (apply Sub.cons; (focus ((repeat (first | exact Sel.head | apply Sel.tail)); done))) | apply Sub.skip)))).row x (hk.sub x (List.mem_of_getElem? hget)))) rfl rfl ?_)
      clear hf hS; rintro v a w ⟨qp, capp, rfl, hS⟩ hf; obtain ⟨hp1, hp2⟩ := put_yes (b := (frs ((byts M).take k))) (r := x.2.2) (by omega); rw [hp1, hp2, ← frs_take (byts_get hget)] at hf; rw [hp1, ← frs_take (byts_get hget)] at hS
      refine step_l (st_rd hf (Wn.none rfl) (rd_move hf rfl rfl) hS rfl rfl ?_)
      clear hf; intro a hf
      refine step_l (st_rd hf (Wn.none rfl) (rd_extract hf rfl rfl rfl) hS rfl rfl ?_)
      clear hf; intro a hf
      refine step_l (st_rd hf (Wn.none rfl) (rd_extract hf rfl rfl rfl) hS rfl rfl ?_)
      clear hf; intro a hf
      refine step_l (st_rd hf (Wn.none rfl) (rd_assign hf rfl rfl) hS rfl rfl ?_)
      clear hf; intro a hf
      refine step_l (st_rd hf (Wn.none rfl) (rd_assign hf rfl rfl) hS rfl rfl ?_)
      clear hf; intro a hf
      refine done_l ?_
      refine t_normal ?_
      refine c_seq ?_
      refine c_seq ?_
      refine c_region ?_
      refine step_l (st_rd hf (Wn.none rfl) (rd_move hf rfl rfl) hS rfl rfl ?_)
      clear hf; intro a hf
      refine step_l (st_rdB hf (Wn.none rfl) (rd_neq hf rfl rfl rfl) hS rfl rfl ?_ ?_)
      · clear hf; intro hc2 a hf
        exact absurd rfl hc2
      · clear hf; intro hc2 a hf
        first
        | (first | exact Bool.noConfusion hc2 | exact absurd rfl hc2; done)
        | (
          refine done_l ?_
          refine t_normal ?_
          refine c_false hf rfl ?_
          refine c_skip ?_
          refine t_normal ?_
          refine c_seq ?_
          refine c_region ?_
          refine step_l (st_rd hf (Wn.none rfl) (rd_move hf rfl rfl) hS rfl rfl ?_)
          clear hf; intro a hf
          refine step_l (st_rd hf (Wn.none rfl) (rd_assign hf rfl rfl) hS rfl rfl ?_)
          clear hf; intro a hf
          refine done_l ?_
          refine t_normal ?_
          refine c_region ?_
          refine step_l (st_rd hf (Wn.none rfl) (rd_move hf rfl rfl) hS rfl rfl ?_)
          clear hf; intro a hf
          refine step_l (st_rd hf (Wn.none rfl) (rd_move hf rfl rfl) hS rfl rfl ?_)
          clear hf; intro a hf
          refine step_l (st_rd hf (Wn.none rfl) (rd_len hf rfl rfl Try.underlying22) hS rfl rfl ?_)
          clear hf; intro a hf
          refine step_l (st_buildSlice hf (Wn.none rfl) hS rfl rfl Try.underlying35 sz3 zr3 (by decide) bz3_1 rfl (.cons rfl (by first | rfl) (by rfl) (by repeat (first | exact Put.nil | apply Put.cons | apply Put.succ)) .nil) rfl rfl ?_)
          clear hf hS; intro b_3 a w hf hS
          refine step_l (st_append hf (Wn.none rfl) rfl rfl rfl Try.underlying35 tyb3 (by rfl) (by decide) hS (by repeat (first | exact Sel.head | apply Sel.tail)) (by first | exact hS.slOfBlk (by repeat (first | exact Sel.head | apply Sel.tail)) (by rfl) | exact hS.slOfBlkPre (by repeat (first | exact Sel.head | apply Sel.tail)) (bvs_len1 _) | exact hS.slOfRw (by repeat (first | exact Sel.head | apply Sel.tail)) | exact SlAt.nil _ _ _) (by first | rfl | exact bvs_one _ | (simp [Value.oneCell']; done)) (by omega) rfl rfl ?_)
          clear hf hS; intro pA capA a w hf hS hnilA
          refine step_l (st_rd hf (Wn.none rfl) (rd_assign hf rfl rfl) hS rfl rfl ?_)
          clear hf; intro a hf
          refine done_l ?_
          refine b_normal ?_
          refine t_normal ?_
          refine c_region ?_
          refine step_l (st_rd hf (Wn.none rfl) (rd_add hf rfl rfl rfl (by first | exact Go.IntWalk.i64_in _ (by omega) | exact rfl)) hS rfl rfl ?_)
          clear hf; intro a hf
          refine step_l (st_rd hf (Wn.none rfl) (rd_move hf rfl rfl) hS rfl rfl ?_)
          clear hf; intro a hf
          refine done_l ?_
          refine t_normal ⟨(k + 1, qp, capp, pA, capA), ((((hf.back (by repeat (first | exact Behind.refl | refine Behind.skip rfl ?_)) hk0).kb hf 24 rfl (by first | rfl | exact int_eq (by omega))).kb hf 7 rfl (by first | rfl | exact int_eq (by omega))).kb hf 6 rfl (by first | rfl | exact int_eq (by omega))), ⟨((hS.sel (by repeat (first | exact Sel.head | apply Sel.tail)) : Sat W (Rw 3 1 pA (k + 1) capA _ :: _) _).rwCast (xs' := i64s (ends M (k + 1))) (ends_succ M k).symm rfl).sub (by repeat (first | exact Sub.refl | exact Sub.none | exact Sub.behind | (apply Sub.cons; (focus ((repeat (first | exact Sel.head | apply Sel.tail)); done))) | apply Sub.skip)), by omega⟩, by first | omega | (simp only []; omega)⟩
          )
      )
  · clear hf; intro hc1 a hf
    obtain rfl : k = M.length := by omega
    rw [byts_all] at hf hS
    have hfa := hk.all; have hml := hk.len; have hcapb := (hS.rwLen (xs := bvs (frs (byts M))) (by repeat (first | exact Sel.head | apply Sel.tail))).2.1; have hcaps := (hS.rwLen (xs := M.map sval) (by repeat (first | exact Sel.head | apply Sel.tail))).2.1
    first
    | (first | exact Bool.noConfusion hc1 | exact absurd rfl hc1; done)
    | (
      refine done_l ?_
      refine t_normal ?_
      refine c_seq ?_
      refine c_false hf rfl ?_
      refine c_exit ?_
      refine t_exit ?_
      refine t_exit ?_
      refine b_exit ?_
      refine t_normal ?_
      refine c_seq ?_
      refine c_region ?_
      refine step_l (st_rd hf (Wn.none rfl) (rd_move hf rfl rfl) hS rfl rfl ?_)
      clear hf; intro a hf
      refine step_l (st_call hf (Wn.none rfl) rfl rfl rfl fn16 (FAll_c (frs (byts M)) _ _ _ hS rfl (by omega) hcapb (fun _ h => h.slOfRw (xs := bvs (frs (byts M))) (by repeat (first | exact Sel.head | apply Sel.tail)))) rfl rfl ?_)
      clear hf hS; rintro v a w ⟨qu, capu, Lu, hu, rfl, hS⟩ hf; rw [allB_frs0 _ hk.big] at hf hu; dsimp only at hf hu
      refine step_l (st_rd hf (Wn.none rfl) (rd_move hf rfl rfl) hS rfl rfl ?_)
      clear hf; intro a hf
      refine step_l (st_rd hf (Wn.none rfl) (rd_extract hf rfl rfl rfl) hS rfl rfl ?_)
      clear hf; intro a hf
      refine step_l (st_rd hf (Wn.none rfl) (rd_extract hf rfl rfl rfl) hS rfl rfl ?_)
      clear hf; intro a hf
      refine step_l (st_rd hf (Wn.none rfl) (rd_extract hf rfl rfl rfl) hS rfl rfl ?_)
      clear hf; intro a hf
      refine step_l (st_rd hf (Wn.none rfl) (rd_assign hf rfl rfl) hS rfl rfl ?_)
      clear hf; intro a hf
      refine step_l (st_rd hf (Wn.none rfl) (rd_assign hf rfl rfl) hS rfl rfl ?_)
      clear hf; intro a hf
      refine step_l (st_rd hf (Wn.none rfl) (rd_assign hf rfl rfl) hS rfl rfl ?_)
      clear hf; intro a hf
      refine done_l ?_
      refine t_normal ?_
      refine c_seq ?_
      refine c_seq ?_
      refine c_region ?_
      refine step_l (st_rd hf (Wn.none rfl) (rd_move hf rfl rfl) hS rfl rfl ?_)
      clear hf; intro a hf
      refine step_l (st_rdB hf (Wn.none rfl) (rd_neq hf rfl rfl rfl) hS rfl rfl ?_ ?_)
      · clear hf; intro hc5 a hf
        exact absurd rfl hc5
      · clear hf; intro hc5 a hf
        first
        | (first | exact Bool.noConfusion hc5 | exact absurd rfl hc5; done)
        | (
          refine step_l (st_rd hf (Wn.none rfl) (rd_move hf rfl rfl) hS rfl rfl ?_)
          clear hf; intro a hf
          refine step_l (st_rd hf (Wn.some hf rfl rfl rfl rfl) (rd_move hf rfl rfl) hS rfl rfl ?_)
          clear hf; intro a hf
          refine step_l (st_rd hf (Wn.some hf rfl rfl rfl rfl) (rd_move hf rfl rfl) hS rfl rfl ?_)
          clear hf; intro a hf
          refine step_l (st_rd hf (Wn.some hf rfl rfl rfl rfl) (rd_len hf rfl rfl Try.underlying22) hS rfl rfl ?_)
          clear hf; intro a hf
          refine step_l (st_rdB hf (Wn.some hf rfl rfl rfl rfl) (rd_neq hf rfl rfl rfl) hS rfl rfl ?_ ?_)
          · clear hf; intro hc6 a hf
            exact absurd rfl hc6
          · clear hf; intro hc6 a hf
            first
            | (first | exact Bool.noConfusion hc6 | exact absurd rfl hc6; done)
            | (
              refine step_l (st_rd hf (Wn.none rfl) (rd_pick_f hf rfl rfl rfl) hS rfl rfl ?_)
              clear hf; intro a hf
              refine step_l (st_rd hf (Wn.none rfl) (rd_move hf rfl rfl) hS rfl rfl ?_)
              clear hf; intro a hf
              refine step_l (st_rd hf (Wn.some hf rfl rfl rfl rfl) (rd_move hf rfl rfl) hS rfl rfl ?_)
              clear hf; intro a hf
              refine step_l (st_rd hf (Wn.some hf rfl rfl rfl rfl) (rd_move hf rfl rfl) hS rfl rfl ?_)
              clear hf; intro a hf
              refine step_l (st_call hf (Wn.some hf rfl rfl rfl rfl) rfl rfl rfl fn18 (SameBytes_c Lu _ _ _ M _ _ _ hS rfl rfl (by have := congrArg List.length hu; rw [byts_len, byts_len] at this; omega) (fun _ h => h.bb (by repeat (first | exact Sel.head | apply Sel.tail)) (by repeat (first | exact Sel.head | apply Sel.tail)) rfl) (fun _ h => (BB.sub (hv _ (h.sub (by repeat (first | exact Sub.refl | exact Sub.none | exact Sub.behind | (apply Sub.cons; (focus ((repeat (first | exact Sel.head | apply Sel.tail)); done))) | apply Sub.skip)))) (h.slOfRw (xs := M.map sval) (by repeat (first | exact Sel.head | apply Sel.tail))) hk.sub))) rfl rfl ?_)
              clear hf hS; rintro v a w ⟨rfl, hS⟩ hf; rw [decide_eq_true hu] at hf
              first | refine split_dec (d := 60) hf rfl ?_ ?_ | refine split_bool (d := 60) hf rfl ?_ ?_
              · clear hf; intro hc7 hf
                first
                | (first | exact Bool.noConfusion hc7 | exact absurd rfl hc7; done)
                | (
                  refine step_l (st_rd hf (Wn.some hf rfl rfl rfl rfl) (rd_not hf rfl rfl) hS rfl rfl ?_)
                  clear hf; intro a hf
                  refine step_l (st_rd hf (Wn.none rfl) (rd_pick_f hf rfl rfl rfl) hS rfl rfl ?_)
                  clear hf; intro a hf
                  refine done_l ?_
                  refine t_normal ?_
                  refine c_false hf rfl ?_
                  refine c_skip ?_
                  refine t_normal ?_
                  refine c_seq ?_
                  refine c_seq ?_
                  refine c_region ?_
                  refine step_l (st_rd hf (Wn.none rfl) (rd_move hf rfl rfl) hS rfl rfl ?_)
                  clear hf; intro a hf
                  refine step_l (st_rd hf (Wn.none rfl) (rd_len hf rfl rfl Try.underlying22) hS rfl rfl ?_)
                  clear hf; intro a hf
                  refine step_l (st_rdB hf (Wn.none rfl) (rd_eql hf rfl rfl rfl) hS rfl rfl ?_ ?_)
                  · clear hf; intro hc8 a hf
                    have hM0 := byts_0 (M := M) (by omega)
                    first
                    | (first | exact Bool.noConfusion hc8 | exact absurd rfl hc8; done)
                    | (
                      refine done_l ?_
                      refine t_normal ?_
                      refine c_true hf rfl ?_
                      refine c_seq ?_
                      refine c_region ?_
                      refine step_l (st_rd hf (Wn.none rfl) (rd_move hf rfl rfl) hS rfl rfl ?_)
                      clear hf; intro a hf
                      refine step_l (st_rd hf (Wn.none rfl) (rd_len hf rfl rfl Try.underlying34) hS rfl rfl ?_)
                      clear hf; intro a hf
                      refine step_l (st_rdB hf (Wn.none rfl) (rd_eql hf rfl rfl rfl) hS rfl rfl ?_ ?_)
                      · clear hf; intro hc9 a hf
                        first
                        | (first | exact Bool.noConfusion hc9 | exact absurd rfl hc9; done)
                        | (
                          refine step_l (st_rd hf (Wn.none rfl) (rd_move hf rfl rfl) hS rfl rfl ?_)
                          clear hf; intro a hf
                          refine step_l (st_call hf (Wn.some hf rfl rfl rfl rfl) rfl rfl rfl fn11 (awake_c hS) rfl rfl ?_)
                          clear hf hS; rintro v a w ⟨rfl, hS⟩ hf
                          refine step_l (st_rd hf (Wn.none rfl) (rd_pick_t hf rfl rfl rfl) hS rfl rfl ?_)
                          clear hf; intro a hf
                          refine step_l (st_rd hf (Wn.none rfl) (rd_assign hf rfl rfl) hS rfl rfl ?_)
                          clear hf; intro a hf
                          refine done_l ?_
                          refine t_normal ?_
                          refine c_ret ?_
                          refine t_ret ?_
                          refine e_res1 hf.defers rfl (res_tmp hf rfl .nil) ?_
                          exact ⟨rfl, hS.sub (by repeat (first | exact Sub.refl | exact Sub.none | exact Sub.behind | (apply Sub.cons; (focus ((repeat (first | exact Sel.head | apply Sel.tail)); done))) | apply Sub.skip))⟩
                          )
                      · clear hf; intro hc9 a hf
                        exact absurd (by omega) hc9
                      )
                  · clear hf; intro hc8 a hf
                    have hbl : 0 < (frs (byts M)).length := by omega
                    first
                    | (first | exact Bool.noConfusion hc8 | exact absurd rfl hc8; done)
                    | (
                      refine done_l ?_
                      refine t_normal ?_
                      refine c_false hf rfl ?_
                      refine c_skip ?_
                      refine t_normal ?_
                      refine c_seq ?_
                      refine c_region ?_
                      refine step_l (st_rd hf (Wn.none rfl) (rd_move hf rfl rfl) hS rfl rfl ?_)
                      clear hf; intro a hf
                      refine step_l (st_rd hf (Wn.none rfl) (rd_convInt hf rfl rfl Try.underlying3 Try.underlying29 rfl) hS rfl rfl ?_)
                      clear hf; intro a hf
                      refine step_l (st_rd hf (Wn.none rfl) (rd_move hf rfl rfl) hS rfl rfl ?_)
                      clear hf; intro a hf
                      refine step_l (st_rd hf (Wn.none rfl) (rd_len hf rfl rfl Try.underlying22) hS rfl rfl ?_)
                      clear hf; intro a hf
                      refine step_l (st_rd hf (Wn.none rfl) (rd_convInt hf rfl rfl Try.underlying3 Try.underlying29 (wrap64 (by omega))) hS rfl rfl ?_)
                      clear hf; intro a hf
                      refine step_l (st_rd hf (Wn.none rfl) (rd_rem hf rfl rfl rfl (by first | decide | omega) (u64mod cut0 hbl)) hS rfl rfl ?_)
                      clear hf; intro a hf
                      refine step_l (st_rd hf (Wn.none rfl) (rd_convInt hf rfl rfl Try.underlying29 Try.underlying3 (Go.IntWalk.i64_in _ (by have := Nat.mod_lt (cut0 % 18446744073709551616).toNat hbl; omega))) hS rfl rfl ?_)
                      clear hf; intro a hf
                      refine step_l (st_rd hf (Wn.none rfl) (rd_assign hf rfl rfl) hS rfl rfl ?_)
                      clear hf; intro a hf
                      refine done_l ?_
                      obtain ⟨cut, hdcut⟩ : ∃ cut : Nat, cut = (cut0 % 18446744073709551616).toNat % (frs (byts M)).length := ⟨_, rfl⟩
                      rw [← hdcut] at hf; have hcut : cut < (frs (byts M)).length := by rw [hdcut]; exact Nat.mod_lt _ hbl
                      refine t_normal ?_
                      refine c_seq ?_
                      refine c_region ?_
                      refine step_l (st_rd hf (Wn.none rfl) (rd_assign hf rfl rfl) hS rfl rfl ?_)
                      clear hf; intro a hf
                      refine done_l ?_
                      refine t_normal ?_
                      refine c_seq ?_
                      refine c_block ?_
                      have hk1 := Keep.of hf [(15, 15), (79, 92)] (by repeat (first | exact Keep.nil | apply Keep.drop rfl | apply Keep.take rfl))
                      refine c_loopK hk1 (α := Nat) (fun k => [(15, .int .i64 (k : Nat))]) (fun k w => Sat W (Rw 22 1 qs M.length caps (M.map sval) :: Rw 5 1 q ((frs (byts M))).length cap (bvs ((frs (byts M)))) :: Rw 3 1 qe M.length cape (i64s (ends M M.length)) :: R) w ∧ k ≤ M.length ∧ (frs ((byts M).take k)).length ≤ cut) (fun k => M.length - k) 0 ((hf.keep hk1).kb hf 15 rfl (by first | rfl | exact int_eq (by omega))) ⟨hS.sub (by repeat (first | exact Sub.refl | exact Sub.none | exact Sub.behind | (apply Sub.cons; (focus ((repeat (first | exact Sel.head | apply Sel.tail)); done))) | apply Sub.skip)), ⟨by omega, by simp [frs]⟩⟩ ?_
                      clear hf hS; rintro k a w hf ⟨hS, ⟨hkM, hle⟩⟩; (try dsimp only [List.cons_append, List.nil_append] at hf)
                      refine c_seq ?_
                      refine c_seq ?_
                      refine c_region ?_
                      refine step_l (st_rd hf (Wn.none rfl) (rd_move hf rfl rfl) hS rfl rfl ?_)
                      clear hf; intro a hf
                      refine step_l (st_rd hf (Wn.none rfl) (rd_move hf rfl rfl) hS rfl rfl ?_)
                      clear hf; intro a hf
                      refine step_l (st_rd hf (Wn.none rfl) (rd_len hf rfl rfl Try.underlying35) hS rfl rfl ?_)
                      clear hf; intro a hf
                      refine step_l (st_rdB hf (Wn.none rfl) (rd_lss hf rfl rfl rfl) hS rfl rfl ?_ ?_)
                      · clear hf; intro hc10 a hf
                        obtain ⟨ade, rfl⟩ := (hS.slOfRw (xs := i64s (ends M M.length)) (by repeat (first | exact Sel.head | apply Sel.tail))).some (by omega); have hge := ends_get (M := M) (n := M.length) (k := k) (by omega)
                        first
                        | (first | exact Bool.noConfusion hc10 | exact absurd rfl hc10; done)
                        | (
                          refine step_l (st_rd hf (Wn.none rfl) (rd_move hf rfl rfl) hS rfl rfl ?_)
                          clear hf; intro a hf
                          refine step_l (st_rd hf (Wn.some hf rfl rfl rfl rfl) (rd_move hf rfl rfl) hS rfl rfl ?_)
                          clear hf; intro a hf
                          refine step_l (st_rd hf (Wn.some hf rfl rfl rfl rfl) (rd_move hf rfl rfl) hS rfl rfl ?_)
                          clear hf; intro a hf
                          refine step_l (st_rd hf (Wn.some hf rfl rfl rfl rfl) ((by first | exact rd_indexAddrN1 hf rfl rfl rfl Try.underlying35 sz3 (by omega) | exact rd_indexAddr hf rfl rfl rfl Try.underlying35 sz3 (by first | decide | omega) (by omega))) hS rfl rfl ?_)
                          clear hf; intro a hf
                          refine step_l (st_rd hf (Wn.some hf rfl rfl rfl rfl) (rd_load1 hf rfl rfl ag3 (by intro _ h; exact (h.slOfRw (xs := i64s (ends M M.length)) (by repeat (first | exact Sel.head | apply Sel.tail))).get (i64s_get hge))) hS rfl rfl ?_)
                          clear hf; intro a hf
                          refine step_l (st_rd hf (Wn.some hf rfl rfl rfl rfl) (rd_move hf rfl rfl) hS rfl rfl ?_)
                          clear hf; intro a hf
                          refine step_l (st_rdB hf (Wn.some hf rfl rfl rfl rfl) (rd_leq hf rfl rfl rfl) hS rfl rfl ?_ ?_)
                          · clear hf; intro hc11 a hf
                            first
                            | (first | exact Bool.noConfusion hc11 | exact absurd rfl hc11; done)
                            | (
                              refine step_l (st_rd hf (Wn.none rfl) (rd_pick_t hf rfl rfl rfl) hS rfl rfl ?_)
                              clear hf; intro a hf
                              refine done_l ?_
                              refine t_normal ?_
                              refine c_true hf rfl ?_
                              refine c_skip ?_
                              refine t_normal ?_
                              refine c_block ?_
                              refine c_region ?_
                              refine step_l (st_rd hf (Wn.none rfl) (rd_move hf rfl rfl) hS rfl rfl ?_)
                              clear hf; intro a hf
                              refine step_l (st_rd hf (Wn.none rfl) (rd_add hf rfl rfl rfl (by first | exact Go.IntWalk.i64_in _ (by omega) | exact rfl)) hS rfl rfl ?_)
                              clear hf; intro a hf
                              refine step_l (st_rd hf (Wn.none rfl) (rd_assign hf rfl rfl) hS rfl rfl ?_)
                              clear hf; intro a hf
                              refine done_l ?_
                              refine b_normal ?_
                              refine t_normal ⟨k + 1, ((hf.back (by repeat (first | exact Behind.refl | refine Behind.skip rfl ?_)) hk1).kb hf 15 rfl (by first | rfl | exact int_eq (by omega))), ⟨hS.sub (by repeat (first | exact Sub.refl | exact Sub.none | exact Sub.behind | (apply Sub.cons; (focus ((repeat (first | exact Sel.head | apply Sel.tail)); done))) | apply Sub.skip)), ⟨by omega, by omega⟩⟩, by first | omega | (simp only []; omega)⟩
                              )
                          · clear hf; intro hc11 a hf
                            obtain ⟨x, hget⟩ := get_of_lt (l := M) (k := k) (by omega) rfl; have hft := congrArg List.length (frs_take (byts_get hget)); rw [List.length_append, frB_len] at hft; have hcu := allB_cut hk.big (byts_get hget) hle (by omega)
                            first
                            | (first | exact Bool.noConfusion hc11 | exact absurd rfl hc11; done)
                            | (
                              refine step_l (st_rd hf (Wn.none rfl) (rd_pick_t hf rfl rfl rfl) hS rfl rfl ?_)
                              clear hf; intro a hf
                              refine done_l ?_
                              refine t_normal ?_
                              refine c_false hf rfl ?_
                              refine c_exit ?_
                              refine t_exit ?_
                              refine t_exit ?_
                              refine b_exit ?_
                              refine t_normal ?_
                              refine c_seq ?_
                              refine c_region ?_
                              refine step_l (st_rd hf (Wn.none rfl) (rd_move hf rfl rfl) hS rfl rfl ?_)
                              clear hf; intro a hf
                              refine step_l (st_rd hf (Wn.none rfl) (rd_move hf rfl rfl) hS rfl rfl ?_)
                              clear hf; intro a hf
                              refine step_l (st_rd hf (Wn.none rfl) (rd_sliceH hf rfl rfl rfl Try.underlying22 sz5 (by omega) (by omega)) hS rfl rfl ?_)
                              clear hf; intro a hf
                              refine step_l (st_call hf (Wn.none rfl) rfl rfl rfl fn16 (FAll_c ((frs (byts M)).take cut) _ _ _ hS (by rw [List.length_take]; omega) (by rw [List.length_take]; omega) (by rw [List.length_take]; omega) (fun _ h => take1 (h.slOfRw (xs := bvs (frs (byts M))) (by repeat (first | exact Sel.head | apply Sel.tail))) (by omega))) rfl rfl ?_)
                              clear hf hS; rintro v a w ⟨qz, capz, Lz, hz, rfl, hS⟩ hf; rw [hcu] at hf hz; dsimp only at hf hz
                              refine step_l (st_rd hf (Wn.none rfl) (rd_move hf rfl rfl) hS rfl rfl ?_)
                              clear hf; intro a hf
                              refine step_l (st_rd hf (Wn.none rfl) (rd_extract hf rfl rfl rfl) hS rfl rfl ?_)
                              clear hf; intro a hf
                              refine step_l (st_rd hf (Wn.none rfl) (rd_extract hf rfl rfl rfl) hS rfl rfl ?_)
                              clear hf; intro a hf
                              refine step_l (st_rd hf (Wn.none rfl) (rd_extract hf rfl rfl rfl) hS rfl rfl ?_)
                              clear hf; intro a hf
                              refine step_l (st_rd hf (Wn.none rfl) (rd_assign hf rfl rfl) hS rfl rfl ?_)
                              clear hf; intro a hf
                              refine step_l (st_rd hf (Wn.none rfl) (rd_assign hf rfl rfl) hS rfl rfl ?_)
                              clear hf; intro a hf
                              refine step_l (st_rd hf (Wn.none rfl) (rd_assign hf rfl rfl) hS rfl rfl ?_)
                              clear hf; intro a hf
                              refine done_l ?_
                              refine t_normal ?_
                              refine c_seq ?_
                              refine c_region ?_
                              refine step_l (st_rd hf (Wn.none rfl) (rd_assign hf rfl rfl) hS rfl rfl ?_)
                              clear hf; intro a hf
                              refine done_l ?_
                              refine t_normal ?_
                              refine c_seq ?_
                              refine c_seq ?_
                              refine c_region ?_
                              refine step_l (st_rd hf (Wn.none rfl) (rd_move hf rfl rfl) hS rfl rfl ?_)
                              clear hf; intro a hf
                              refine step_l (st_rdB hf (Wn.none rfl) (rd_gtr hf rfl rfl rfl) hS rfl rfl ?_ ?_)
                              · clear hf; intro hc12 a hf
                                have hg2 := ends_get (M := M) (n := M.length) (k := k - 1) (by omega); rw [Nat.sub_add_cancel (by omega)] at hg2
                                first
                                | (first | exact Bool.noConfusion hc12 | exact absurd rfl hc12; done)
                                | (
                                  refine done_l ?_
                                  refine t_normal ?_
                                  refine c_true hf rfl ?_
                                  refine c_region ?_
                                  refine step_l (st_rd hf (Wn.none rfl) (rd_move hf rfl rfl) hS rfl rfl ?_)
                                  clear hf; intro a hf
                                  refine step_l (st_rd hf (Wn.none rfl) (rd_move hf rfl rfl) hS rfl rfl ?_)
                                  clear hf; intro a hf
                                  refine step_l (st_rd hf (Wn.none rfl) (rd_sub hf rfl rfl rfl (i64_sub (n := 1) (by omega) (by omega))) hS rfl rfl ?_)
                                  clear hf; intro a hf
                                  refine step_l (st_rd hf (Wn.none rfl) ((by first | exact rd_indexAddrN1 hf rfl rfl rfl Try.underlying35 sz3 (by omega) | exact rd_indexAddr hf rfl rfl rfl Try.underlying35 sz3 (by first | decide | omega) (by omega))) hS rfl rfl ?_)
                                  clear hf; intro a hf
                                  refine step_l (st_rd hf (Wn.none rfl) (rd_load1 hf rfl rfl ag3 (by intro _ h; exact (h.slOfRw (xs := i64s (ends M M.length)) (by repeat (first | exact Sel.head | apply Sel.tail))).get (i64s_get hg2))) hS rfl rfl ?_)
                                  clear hf; intro a hf
                                  refine step_l (st_rd hf (Wn.none rfl) (rd_assign hf rfl rfl) hS rfl rfl ?_)
                                  clear hf; intro a hf
                                  refine done_l ?_
                                  refine t_normal ?_
                                  refine c_seq ?_
                                  refine c_region ?_
                                  refine step_l (st_rd hf (Wn.none rfl) (rd_move hf rfl rfl) hS rfl rfl ?_)
                                  clear hf; intro a hf
                                  refine step_l (st_rdB hf (Wn.none rfl) (rd_eql hf rfl rfl rfl) hS rfl rfl ?_ ?_)
                                  · clear hf; intro hc13 a hf
                                    first
                                    | (first | exact Bool.noConfusion hc13 | exact absurd rfl hc13; done)
                                    | (
                                      refine step_l (st_rd hf (Wn.none rfl) (rd_move hf rfl rfl) hS rfl rfl ?_)
                                      clear hf; intro a hf
                                      refine step_l (st_rd hf (Wn.some hf rfl rfl rfl rfl) (rd_move hf rfl rfl) hS rfl rfl ?_)
                                      clear hf; intro a hf
                                      refine step_l (st_rd hf (Wn.some hf rfl rfl rfl rfl) (rd_move hf rfl rfl) hS rfl rfl ?_)
                                      clear hf; intro a hf
                                      refine step_l (st_rdB hf (Wn.some hf rfl rfl rfl rfl) (rd_eql hf rfl rfl rfl) hS rfl rfl ?_ ?_)
                                      · clear hf; intro hc14 a hf
                                        first
                                        | (first | exact Bool.noConfusion hc14 | exact absurd rfl hc14; done)
                                        | (
                                          refine step_l (st_rd hf (Wn.none rfl) (rd_pick_t hf rfl rfl rfl) hS rfl rfl ?_)
                                          clear hf; intro a hf
                                          refine step_l (st_rd hf (Wn.none rfl) (rd_move hf rfl rfl) hS rfl rfl ?_)
                                          clear hf; intro a hf
                                          refine step_l (st_rd hf (Wn.some hf rfl rfl rfl rfl) (rd_move hf rfl rfl) hS rfl rfl ?_)
                                          clear hf; intro a hf
                                          refine step_l (st_rd hf (Wn.some hf rfl rfl rfl rfl) (rd_move hf rfl rfl) hS rfl rfl ?_)
                                          clear hf; intro a hf
                                          refine step_l (st_rd hf (Wn.some hf rfl rfl rfl rfl) (rd_move hf rfl rfl) hS rfl rfl ?_)
                                          clear hf; intro a hf
                                          refine step_l (st_rd hf (Wn.some hf rfl rfl rfl rfl) (rd_sliceH hf rfl rfl rfl Try.underlying34 sz22 (by omega) (by omega)) hS rfl rfl ?_)
                                          clear hf; intro a hf
                                          refine step_l (st_call hf (Wn.some hf rfl rfl rfl rfl) rfl rfl rfl fn18 (SameBytes_c Lz _ _ _ (M.take k) _ _ _ hS rfl (by rw [List.length_take]; omega) (by have := congrArg List.length hz; rw [byts_len, List.length_take, byts_len] at this; omega) (fun _ h => h.bb (by repeat (first | exact Sel.head | apply Sel.tail)) (by repeat (first | exact Sel.head | apply Sel.tail)) rfl) (fun _ h => (BB.sub (hv _ (h.sub (by repeat (first | exact Sub.refl | exact Sub.none | exact Sub.behind | (apply Sub.cons; (focus ((repeat (first | exact Sel.head | apply Sel.tail)); done))) | apply Sub.skip)))) (takeM (h.slOfRw (xs := M.map sval) (by repeat (first | exact Sel.head | apply Sel.tail))) (by omega)) (fun y hy => hk.sub y (List.mem_of_mem_take hy))))) rfl rfl ?_)
                                          clear hf hS; rintro v a w ⟨rfl, hS⟩ hf; rw [decide_eq_true (hz.trans (byts_takeM M k).symm)] at hf
                                          first | refine split_dec (d := 120) hf rfl ?_ ?_ | refine split_bool (d := 120) hf rfl ?_ ?_
                                          · clear hf; intro hc15 hf
                                            first
                                            | (first | exact Bool.noConfusion hc15 | exact absurd rfl hc15; done)
                                            | (
                                              refine step_l (st_rd hf (Wn.none rfl) (rd_pick_t hf rfl rfl rfl) hS rfl rfl ?_)
                                              clear hf; intro a hf
                                              refine step_l (st_rd hf (Wn.none rfl) (rd_move hf rfl rfl) hS rfl rfl ?_)
                                              clear hf; intro a hf
                                              refine step_l (st_call hf (Wn.some hf rfl rfl rfl rfl) rfl rfl rfl fn11 (awake_c hS) rfl rfl ?_)
                                              clear hf hS; rintro v a w ⟨rfl, hS⟩ hf
                                              refine step_l (st_rd hf (Wn.none rfl) (rd_pick_t hf rfl rfl rfl) hS rfl rfl ?_)
                                              clear hf; intro a hf
                                              refine step_l (st_rd hf (Wn.none rfl) (rd_assign hf rfl rfl) hS rfl rfl ?_)
                                              clear hf; intro a hf
                                              refine done_l ?_
                                              refine t_normal ?_
                                              refine c_ret ?_
                                              refine e_res1 hf.defers rfl (res_tmp hf rfl .nil) ?_
                                              exact ⟨rfl, hS.sub (by repeat (first | exact Sub.refl | exact Sub.none | exact Sub.behind | (apply Sub.cons; (focus ((repeat (first | exact Sel.head | apply Sel.tail)); done))) | apply Sub.skip))⟩
                                              )
                                          · clear hf; intro hc15 hf
                                            first
                                            | (first | exact Bool.noConfusion hc15 | exact absurd rfl hc15; done)
                                            | (
                                              refine step_l (st_rd hf (Wn.none rfl) (rd_pick_t hf rfl rfl rfl) hS rfl rfl ?_)
                                              clear hf; intro a hf
                                              refine step_l (st_rd hf (Wn.none rfl) (rd_move hf rfl rfl) hS rfl rfl ?_)
                                              clear hf; intro a hf
                                              refine step_l (st_skip hf (Wn.some hf rfl rfl rfl rfl) rfl rfl ?_)
                                              clear hf; intro a hf
                                              refine step_l (st_rd hf (Wn.none rfl) (rd_pick_f hf rfl rfl rfl) hS rfl rfl ?_)
                                              clear hf; intro a hf
                                              refine step_l (st_rd hf (Wn.none rfl) (rd_assign hf rfl rfl) hS rfl rfl ?_)
                                              clear hf; intro a hf
                                              refine done_l ?_
                                              refine t_normal ?_
                                              refine c_ret ?_
                                              refine e_res1 hf.defers rfl (res_tmp hf rfl .nil) ?_
                                              exact ⟨rfl, hS.sub (by repeat (first | exact Sub.refl | exact Sub.none | exact Sub.behind | (apply Sub.cons; (focus ((repeat (first | exact Sel.head | apply Sel.tail)); done))) | apply Sub.skip))⟩
                                              )
                                          )
                                      · clear hf; intro hc14 a hf
                                        first | exact absurd rfl hc14 | exact absurd (by rw [hkz]; rfl) hc14
                                      )
                                  · clear hf; intro hc13 a hf
                                    exact absurd rfl hc13
                                  )
                              · clear hf; intro hc12 a hf
                                have hkz : k = 0 := by omega
                                first
                                | (first | exact Bool.noConfusion hc12 | exact absurd rfl hc12; done)
                                | (
                                  refine done_l ?_
                                  refine t_normal ?_
                                  refine c_false hf rfl ?_
                                  refine c_skip ?_
                                  refine t_normal ?_
                                  refine c_seq ?_
                                  refine c_region ?_
                                  refine step_l (st_rd hf (Wn.none rfl) (rd_move hf rfl rfl) hS rfl rfl ?_)
                                  clear hf; intro a hf
                                  refine step_l (st_rdB hf (Wn.none rfl) (rd_eql hf rfl rfl rfl) hS rfl rfl ?_ ?_)
                                  · clear hf; intro hc16 a hf
                                    first
                                    | (first | exact Bool.noConfusion hc16 | exact absurd rfl hc16; done)
                                    | (
                                      refine step_l (st_rd hf (Wn.none rfl) (rd_move hf rfl rfl) hS rfl rfl ?_)
                                      clear hf; intro a hf
                                      refine step_l (st_rd hf (Wn.some hf rfl rfl rfl rfl) (rd_move hf rfl rfl) hS rfl rfl ?_)
                                      clear hf; intro a hf
                                      refine step_l (st_rd hf (Wn.some hf rfl rfl rfl rfl) (rd_move hf rfl rfl) hS rfl rfl ?_)
                                      clear hf; intro a hf
                                      refine step_l (st_rdB hf (Wn.some hf rfl rfl rfl rfl) (rd_eql hf rfl rfl rfl) hS rfl rfl ?_ ?_)
                                      · clear hf; intro hc17 a hf
                                        first
                                        | (first | exact Bool.noConfusion hc17 | exact absurd rfl hc17; done)
                                        | (
                                          refine step_l (st_rd hf (Wn.none rfl) (rd_pick_t hf rfl rfl rfl) hS rfl rfl ?_)
                                          clear hf; intro a hf
                                          refine step_l (st_rd hf (Wn.none rfl) (rd_move hf rfl rfl) hS rfl rfl ?_)
                                          clear hf; intro a hf
                                          refine step_l (st_rd hf (Wn.some hf rfl rfl rfl rfl) (rd_move hf rfl rfl) hS rfl rfl ?_)
                                          clear hf; intro a hf
                                          refine step_l (st_rd hf (Wn.some hf rfl rfl rfl rfl) (rd_move hf rfl rfl) hS rfl rfl ?_)
                                          clear hf; intro a hf
                                          refine step_l (st_rd hf (Wn.some hf rfl rfl rfl rfl) (rd_move hf rfl rfl) hS rfl rfl ?_)
                                          clear hf; intro a hf
                                          refine step_l (st_rd hf (Wn.some hf rfl rfl rfl rfl) (rd_sliceH hf rfl rfl rfl Try.underlying34 sz22 (by omega) (by omega)) hS rfl rfl ?_)
                                          clear hf; intro a hf
                                          refine step_l (st_call hf (Wn.some hf rfl rfl rfl rfl) rfl rfl rfl fn18 (SameBytes_c Lz _ _ _ (M.take k) _ _ _ hS rfl (by rw [List.length_take]; omega) (by have := congrArg List.length hz; rw [byts_len, List.length_take, byts_len] at this; omega) (fun _ h => h.bb (by repeat (first | exact Sel.head | apply Sel.tail)) (by repeat (first | exact Sel.head | apply Sel.tail)) rfl) (fun _ h => (BB.sub (hv _ (h.sub (by repeat (first | exact Sub.refl | exact Sub.none | exact Sub.behind | (apply Sub.cons; (focus ((repeat (first | exact Sel.head | apply Sel.tail)); done))) | apply Sub.skip)))) (takeM (h.slOfRw (xs := M.map sval) (by repeat (first | exact Sel.head | apply Sel.tail))) (by omega)) (fun y hy => hk.sub y (List.mem_of_mem_take hy))))) rfl rfl ?_)
                                          clear hf hS; rintro v a w ⟨rfl, hS⟩ hf; rw [decide_eq_true (hz.trans (byts_takeM M k).symm)] at hf
                                          first | refine split_dec (d := 120) hf rfl ?_ ?_ | refine split_bool (d := 120) hf rfl ?_ ?_
                                          · clear hf; intro hc18 hf
                                            first
                                            | (first | exact Bool.noConfusion hc18 | exact absurd rfl hc18; done)
                                            | (
                                              refine step_l (st_rd hf (Wn.none rfl) (rd_pick_t hf rfl rfl rfl) hS rfl rfl ?_)
                                              clear hf; intro a hf
                                              refine step_l (st_rd hf (Wn.none rfl) (rd_move hf rfl rfl) hS rfl rfl ?_)
                                              clear hf; intro a hf
                                              refine step_l (st_call hf (Wn.some hf rfl rfl rfl rfl) rfl rfl rfl fn11 (awake_c hS) rfl rfl ?_)
                                              clear hf hS; rintro v a w ⟨rfl, hS⟩ hf
                                              refine step_l (st_rd hf (Wn.none rfl) (rd_pick_t hf rfl rfl rfl) hS rfl rfl ?_)
                                              clear hf; intro a hf
                                              refine step_l (st_rd hf (Wn.none rfl) (rd_assign hf rfl rfl) hS rfl rfl ?_)
                                              clear hf; intro a hf
                                              refine done_l ?_
                                              refine t_normal ?_
                                              refine c_ret ?_
                                              refine e_res1 hf.defers rfl (res_tmp hf rfl .nil) ?_
                                              exact ⟨rfl, hS.sub (by repeat (first | exact Sub.refl | exact Sub.none | exact Sub.behind | (apply Sub.cons; (focus ((repeat (first | exact Sel.head | apply Sel.tail)); done))) | apply Sub.skip))⟩
                                              )
                                          · clear hf; intro hc18 hf
                                            first
                                            | (first | exact Bool.noConfusion hc18 | exact absurd rfl hc18; done)
                                            | (
                                              refine step_l (st_rd hf (Wn.none rfl) (rd_pick_t hf rfl rfl rfl) hS rfl rfl ?_)
                                              clear hf; intro a hf
                                              refine step_l (st_rd hf (Wn.none rfl) (rd_move hf rfl rfl) hS rfl rfl ?_)
                                              clear hf; intro a hf
                                              refine step_l (st_skip hf (Wn.some hf rfl rfl rfl rfl) rfl rfl ?_)
                                              clear hf; intro a hf
                                              refine step_l (st_rd hf (Wn.none rfl) (rd_pick_f hf rfl rfl rfl) hS rfl rfl ?_)
                                              clear hf; intro a hf
                                              refine step_l (st_rd hf (Wn.none rfl) (rd_assign hf rfl rfl) hS rfl rfl ?_)
                                              clear hf; intro a hf
                                              refine done_l ?_
                                              refine t_normal ?_
                                              refine c_ret ?_
                                              refine e_res1 hf.defers rfl (res_tmp hf rfl .nil) ?_
                                              exact ⟨rfl, hS.sub (by repeat (first | exact Sub.refl | exact Sub.none | exact Sub.behind | (apply Sub.cons; (focus ((repeat (first | exact Sel.head | apply Sel.tail)); done))) | apply Sub.skip))⟩
                                              )
                                          )
                                      · clear hf; intro hc17 a hf
                                        first | exact absurd rfl hc17 | exact absurd (by rw [hkz]; rfl) hc17
                                      )
                                  · clear hf; intro hc16 a hf
                                    exact absurd rfl hc16
                                  )
                              )
                          )
                      · clear hf; intro hc10 a hf
                        exact absurd (show k = M.length by omega) (fun e => by rw [e, byts_all] at hle; omega)
                      )
                  )
              · clear hf; intro hc7 hf
                first
                | (first | exact Bool.noConfusion hc7 | exact absurd rfl hc7; done)
                | (
                  refine step_l (st_rd hf (Wn.some hf rfl rfl rfl rfl) (rd_not hf rfl rfl) hS rfl rfl ?_)
                  clear hf; intro a hf
                  refine step_l (st_rd hf (Wn.none rfl) (rd_pick_f hf rfl rfl rfl) hS rfl rfl ?_)
                  clear hf; intro a hf
                  refine done_l ?_
                  refine t_normal ?_
                  refine c_true hf rfl ?_
                  refine c_seq ?_
                  refine c_region ?_
                  refine step_l (st_rd hf (Wn.none rfl) (rd_assign hf rfl rfl) hS rfl rfl ?_)
                  clear hf; intro a hf
                  refine done_l ?_
                  refine t_normal ?_
                  refine c_ret ?_
                  refine t_ret ?_
                  refine e_res1 hf.defers rfl (res_tmp hf rfl .nil) ?_
                  exact ⟨rfl, hS.sub (by repeat (first | exact Sub.refl | exact Sub.none | exact Sub.behind | (apply Sub.cons; (focus ((repeat (first | exact Sel.head | apply Sel.tail)); done))) | apply Sub.skip))⟩
                  )
              )
          )
      )

end Go.Proofs.Ytbfjfffeeelikaa
