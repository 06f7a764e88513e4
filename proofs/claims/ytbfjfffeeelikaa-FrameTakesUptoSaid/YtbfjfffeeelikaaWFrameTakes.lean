/-
  The statement FrameTakes, walked.
  Conditions: none.
-/
import Derived.Test.YtbfjfffeeelikaaFlaw1
namespace Go.Proofs.Ytbfjfffeeelikaa
open Go Go.Sl
set_option linter.unusedVariables false
set_option linter.unusedSimpArgs false
theorem bz22_0 : ((Array.range (0 * 1)).map (fun j => ((.slice none 0 0 : Value)).cells[j % ((.slice none 0 0 : Value)).cells.size]!)) = ([] : List Value).toArray := by kernel_rfl
theorem bz3_1 : ((Array.range (1 * 1)).map (fun j => ((.int .i64 0 : Value)).cells[j % ((.int .i64 0 : Value)).cells.size]!)) = ([.int .i64 0] : List Value).toArray := by kernel_rfl
theorem fn11 : fnB Try.prog 11 = true := by kernel_rfl
theorem fn12 : fnB Try.prog 12 = true := by kernel_rfl
theorem fn14 : fnB Try.prog 14 = true := by kernel_rfl
theorem fn16 : fnB Try.prog 16 = true := by kernel_rfl
theorem fn17 : fnB Try.prog 17 = true := by kernel_rfl
theorem fn18 : fnB Try.prog 18 = true := by kernel_rfl
theorem fn19 : fnB Try.prog 19 = true := by kernel_rfl
theorem sz3 : (Try.prog.info? 3).map (·.size) = some 1 := by kernel_rfl
theorem tyb3 : TyB Try.prog 3 (.int .i64 0) 1 8 := by unfold TyB; kernel_rfl
theorem zr3 : (Try.prog.info? 3).bind (·.zero) = some (.int .i64 0) := by kernel_rfl
set_option maxRecDepth 100000 in
set_option maxHeartbeats 2000000 in
theorem FrameTakes_c (l : List (Sli UInt8)) (ql : Option Addr) (cl : Nat) (m : List UInt8) (qm : Option Addr) (cm : Nat) (ps : List Int) (qps : Option Addr) (cps : Nat) (x : UInt8) {W : World} {R : List HP} {w : World} (hS : Sat W (R) w) (hl9 : l.length ≤ 140737488351232) (hv : ∀ w, Sat W R w → BB w ql l) (hm : m.length ≤ 1048576) (hcm : m.length ≤ cm) (hvm : ∀ w, Sat W R w → SlAt w qm m.length 1 (bvs m)) (hps : ps.length ≤ 140737488351232) (hvps : ∀ w, Sat W R w → SlAt w qps ps.length 1 (i64s ps)) : Calls Try.prog 6 [.slice ql l.length cl, .slice qm m.length cm, .slice qps ps.length cps, bv x].toArray w (Ret fun v w' => v = .bool true ∧ Sat W R w') := by
  refine fn_start 124 Try.func6 rfl rfl rfl ?_
  intro a hf
  refine c_seq ?_
  refine c_region ?_
  refine step_l (st_rd hf (Wn.none rfl) (rd_assign hf rfl rfl) hS rfl rfl ?_)
  clear hf; intro a hf
  refine done_l ?_
  refine t_normal ?_
  refine c_seq ?_
  refine c_region ?_
  refine step_l (st_rd hf (Wn.none rfl) (rd_assign hf rfl rfl) hS rfl rfl ?_)
  clear hf; intro a hf
  refine done_l ?_
  refine t_normal ?_
  refine c_seq ?_
  refine c_seq ?_
  refine c_region ?_
  refine step_l (st_rd hf (Wn.none rfl) (rd_move hf rfl rfl) hS rfl rfl ?_)
  clear hf; intro a hf
  refine step_l (st_call hf (Wn.none rfl) rfl rfl rfl fn14 (small_c l _ _ _ hS rfl (by omega) (fun _ h => hv _ (h.sub (by repeat (first | exact Sub.refl | exact Sub.none | exact Sub.behind | (apply Sub.cons; (focus ((repeat (first | exact Sel.head | apply Sel.tail)); done))) | apply Sub.skip))))) rfl rfl ?_)
  clear hf hS; rintro v a w ⟨qs, caps, rfl, hS⟩ hf; obtain ⟨M, hM⟩ : ∃ M, M = smallL l := ⟨_, rfl⟩; rw [← hM] at hf hS; have hk := SmOk.of hM
  refine step_l (st_rd hf (Wn.none rfl) (rd_len hf rfl rfl Try.underlying34) hS rfl rfl ?_)
  clear hf; intro a hf
  refine step_l (st_rd hf (Wn.none rfl) (rd_move hf rfl rfl) hS rfl rfl ?_)
  clear hf; intro a hf
  refine done_l ?_
  refine t_normal ?_
  refine c_block ?_
  have hk0 := Keep.of hf [(9, 9), (11, 11), (29, 37)] (by repeat (first | exact Keep.nil | apply Keep.drop rfl | apply Keep.take rfl))
  refine c_loopK hk0 (α := Nat × Option Addr × Nat) (fun ⟨k, q, cap⟩ => [(9, .slice q (frs ((byts M).take k)).length cap), (29, .int .i64 (k : Nat))]) (fun ⟨k, q, cap⟩ w => Sat W (Rw 22 1 qs M.length caps (M.map sval) :: Rw 5 1 q ((frs ((byts M).take k))).length cap (bvs ((frs ((byts M).take k)))) :: R) w ∧ k ≤ M.length) (fun ⟨k, q, cap⟩ => M.length - k) (0, none, 0) (((hf.keep hk0).kb hf 29 rfl (by first | rfl | exact int_eq (by omega))).kb hf 9 rfl (by first | rfl | exact int_eq (by omega))) ⟨(hS.rwNil 5 1).sub (by repeat (first | exact Sub.refl | exact Sub.none | exact Sub.behind | (apply Sub.cons; (focus ((repeat (first | exact Sel.head | apply Sel.tail)); done))) | apply Sub.skip)), by omega⟩ ?_
  clear hf hS; rintro ⟨k, q, cap⟩ a w hf ⟨hS, hkM⟩; (try dsimp only [List.cons_append, List.nil_append] at hf)
  refine c_seq ?_
  refine c_region ?_
  refine step_l (st_rdB hf (Wn.none rfl) (rd_lss hf rfl rfl rfl) hS rfl rfl ?_ ?_)
  · clear hf; intro hc1 a hf
    obtain ⟨x, hget⟩ := get_of_lt (l := M) (k := k) (by omega) rfl; obtain ⟨ad, rfl⟩ := (hS.slOfRw (xs := M.map sval) (by repeat (first | exact Sel.head | apply Sel.tail))).some (by omega); have hx5 := hk.row x (List.mem_of_getElem? hget); have hfr := hk.fr k; have hfr2 := hk.fr (k + 1); have hml := hk.len
    first
    | (first | exact Bool.noConfusion hc1 | exact absurd rfl hc1; done)
    | (
      refine done_l ?_
      refine t_normal ?_
      refine c_seq ?_
      refine c_true hf rfl ?_
      refine c_skip ?_
      refine t_normal ?_
      refine c_seq ?_
      refine c_block ?_
      refine c_seq ?_
      refine c_region ?_
      refine step_l (st_rd hf (Wn.none rfl) ((by first | exact rd_indexAddrN1 hf rfl rfl rfl Try.underlying34 sz22 (by omega) | exact rd_indexAddr hf rfl rfl rfl Try.underlying34 sz22 (by first | decide | omega) (by omega))) hS rfl rfl ?_)
      clear hf; intro a hf
      refine step_l (st_rd hf (Wn.none rfl) (rd_load1 hf rfl rfl ag22 (by intro _ h; exact (h.slOfRw (xs := M.map sval) (by repeat (first | exact Sel.head | apply Sel.tail))).get (u := sval x) (by simp [hget]))) hS rfl rfl ?_)
      clear hf; intro a hf
      refine step_l (st_rd hf (Wn.none rfl) (rd_assign hf rfl rfl) hS rfl rfl ?_)
      clear hf; intro a hf
      refine done_l ?_
      refine t_normal ?_
      refine c_region ?_
      refine step_l (st_rd hf (Wn.none rfl) (rd_move hf rfl rfl) hS rfl rfl ?_)
      clear hf; intro a hf
      refine step_l (st_rd hf (Wn.none rfl) (rd_move hf rfl rfl) hS rfl rfl ?_)
      clear hf; intro a hf
      refine step_l (st_call hf (Wn.none rfl) rfl rfl rfl fn12 (RFrame_c x.2.2 _ _ _ hS rfl (by omega) (fun _ h => (hv _ (h.sub (by repeat (first | exact Sub.refl | exact Sub.none | exact Sub.behind | (apply Sub.cons; (focus ((repeat (first | exact Sel.head | apply Sel.tail)); done))) | apply Sub.skip)))).row x (hk.sub x (List.mem_of_getElem? hget)))) rfl rfl ?_)
      clear hf hS; rintro v a w ⟨qf, capf, rfl, hS⟩ hf; have hfl := frB_len x.2.2
      refine step_l (st_append hf (Wn.none rfl) rfl rfl rfl Try.underlying22 tyb5 (by rfl) (by decide) hS (by repeat (first | exact Sel.head | apply Sel.tail)) (by first | exact hS.slOfBlk (by repeat (first | exact Sel.head | apply Sel.tail)) (by rfl) | exact hS.slOfBlkPre (by repeat (first | exact Sel.head | apply Sel.tail)) (bvs_len1 _) | exact hS.slOfRw (by repeat (first | exact Sel.head | apply Sel.tail)) | exact SlAt.nil _ _ _ | exact hvm _ (hS.sub (by repeat (first | exact Sub.refl | exact Sub.none | exact Sub.behind | (apply Sub.cons; (focus ((repeat (first | exact Sel.head | apply Sel.tail)); done))) | apply Sub.skip)))) (by first | rfl | exact bvs_one _ | (simp [Value.oneCell']; done)) (by omega) rfl rfl ?_)
      clear hf hS; intro pA capA a w hf hS hnilA
      refine step_l (st_rd hf (Wn.none rfl) (rd_assign hf rfl rfl) hS rfl rfl ?_)
      clear hf; intro a hf
      refine done_l ?_
      refine b_normal ?_
      refine t_normal ?_
      refine c_region ?_
      refine step_l (st_rd hf (Wn.none rfl) (rd_add hf rfl rfl rfl (by first | exact Go.IntWalk.i64_in _ (by omega) | exact rfl)) hS rfl rfl ?_)
      clear hf; intro a hf
      refine step_l (st_rd hf (Wn.none rfl) (rd_move hf rfl rfl) hS rfl rfl ?_)
      clear hf; intro a hf
      refine done_l ?_
      refine t_normal ⟨(k + 1, pA, capA), (((hf.back (by repeat (first | exact Behind.refl | refine Behind.skip rfl ?_)) hk0).kb hf 29 rfl (by first | rfl | exact int_eq (by omega))).kb hf 9 rfl (by exact slice_eq (by rw [frs_take (byts_get hget), List.length_append]))), ⟨((hS.sel (by repeat (first | exact Sel.head | apply Sel.tail)) : Sat W (Rw 5 1 pA _ capA _ :: _) _).rwCast (xs' := bvs (frs ((byts M).take (k + 1)))) (len' := (frs ((byts M).take (k + 1))).length) (by rw [frs_take (byts_get hget)]; simp) (by rw [frs_take (byts_get hget), List.length_append])).sub (by repeat (first | exact Sub.refl | exact Sub.none | exact Sub.behind | (apply Sub.cons; (focus ((repeat (first | exact Sel.head | apply Sel.tail)); done))) | apply Sub.skip)), by omega⟩, by first | omega | (simp only []; omega)⟩
      )
  · clear hf; intro hc1 a hf
    obtain rfl : k = M.length := by omega
    rw [byts_all] at hf hS
    have hfa := hk.all; have hml := hk.len
    first
    | (first | exact Bool.noConfusion hc1 | exact absurd rfl hc1; done)
    | (
      refine done_l ?_
      refine t_normal ?_
      refine c_seq ?_
      refine c_false hf rfl ?_
      refine c_exit ?_
      refine t_exit ?_
      refine t_exit ?_
      refine b_exit ?_
      refine t_normal ?_
      refine c_seq ?_
      refine c_region ?_
      refine step_l (st_rd hf (Wn.none rfl) (rd_move hf rfl rfl) hS rfl rfl ?_)
      clear hf; intro a hf
      refine step_l (st_rd hf (Wn.none rfl) (rd_move hf rfl rfl) hS rfl rfl ?_)
      clear hf; intro a hf
      refine step_l (st_append hf (Wn.none rfl) rfl rfl rfl Try.underlying22 tyb5 (by rfl) (by decide) hS (by repeat (first | exact Sel.head | apply Sel.tail)) (by first | exact hS.slOfBlk (by repeat (first | exact Sel.head | apply Sel.tail)) (by rfl) | exact hS.slOfBlkPre (by repeat (first | exact Sel.head | apply Sel.tail)) (bvs_len1 _) | exact hS.slOfRw (by repeat (first | exact Sel.head | apply Sel.tail)) | exact SlAt.nil _ _ _ | exact hvm _ (hS.sub (by repeat (first | exact Sub.refl | exact Sub.none | exact Sub.behind | (apply Sub.cons; (focus ((repeat (first | exact Sel.head | apply Sel.tail)); done))) | apply Sub.skip)))) (by first | rfl | exact bvs_one _ | (simp [Value.oneCell']; done)) (by omega) rfl rfl ?_)
      clear hf hS; intro pA capA a w hf hS hnilA
      refine step_l (st_rd hf (Wn.none rfl) (rd_assign hf rfl rfl) hS rfl rfl ?_)
      clear hf; intro a hf
      refine done_l ?_
      obtain ⟨bb, hbb⟩ : ∃ bb, bb = frs (byts M) ++ m := ⟨_, rfl⟩
      obtain ⟨N, hNd⟩ : ∃ N, N = (frs (byts M)).length + m.length := ⟨_, rfl⟩; have hNb : N = bb.length := by rw [hbb, List.length_append]; exact hNd
      replace hS := (hS.sel (by repeat (first | exact Sel.head | apply Sel.tail)) : Sat W (Rw 5 1 pA _ capA _ :: _) _).rwCast (xs' := bvs bb) (len' := N) (by rw [hbb]; simp) hNd.symm
      rw [← hNd] at hf; obtain ⟨qa, hqa⟩ : ∃ q, q = pA := ⟨_, rfl⟩; obtain ⟨capa, hca⟩ : ∃ q, q = capA := ⟨_, rfl⟩; rw [← hqa, ← hca] at hf hS; have hcapa := (hS.rwLen (xs := bvs bb) (by repeat (first | exact Sel.head | apply Sel.tail))).2.1
      refine t_normal ?_
      refine c_seq ?_
      refine c_seq ?_
      refine c_region ?_
      refine step_l (st_rd hf (Wn.none rfl) (rd_move hf rfl rfl) hS rfl rfl ?_)
      clear hf; intro a hf
      refine step_l (st_rd hf (Wn.none rfl) (rd_len hf rfl rfl Try.underlying35) hS rfl rfl ?_)
      clear hf; intro a hf
      refine step_l (st_rd hf (Wn.none rfl) (rd_move hf rfl rfl) hS rfl rfl ?_)
      clear hf; intro a hf
      refine done_l ?_
      refine t_normal ?_
      refine c_block ?_
      have hk1 := Keep.of hf [(12, 13), (43, 68)] (by repeat (first | exact Keep.nil | apply Keep.drop rfl | apply Keep.take rfl))
      refine c_loopK hk1 (α := Nat × List UInt8) (fun ⟨i, cs⟩ => [(43, .int .i64 (i : Nat))]) (fun ⟨i, cs⟩ w => Sat W (Rw 5 1 qa N capa (bvs (cs)) :: R) w ∧ i ≤ ps.length ∧ N = cs.length) (fun ⟨i, cs⟩ => ps.length - i) (0, bb) ((hf.keep hk1).kb hf 43 rfl (by first | rfl | exact int_eq (by omega))) ⟨hS.sub (by repeat (first | exact Sub.refl | exact Sub.none | exact Sub.behind | (apply Sub.cons; (focus ((repeat (first | exact Sel.head | apply Sel.tail)); done))) | apply Sub.skip)), ⟨by omega, hNb⟩⟩ ?_
      clear hf hS; rintro ⟨i, cs⟩ a w hf ⟨hS, ⟨hi, hN⟩⟩; (try dsimp only [List.cons_append, List.nil_append] at hf)
      refine c_seq ?_
      refine c_region ?_
      refine step_l (st_rdB hf (Wn.none rfl) (rd_lss hf rfl rfl rfl) hS rfl rfl ?_ ?_)
      · clear hf; intro hc4 a hf
        obtain ⟨y, hgy⟩ := get_of_lt (l := ps) (k := i) (by omega) rfl; obtain ⟨adp, rfl⟩ := (hvps _ (hS.sub (by repeat (first | exact Sub.refl | exact Sub.none | exact Sub.behind | (apply Sub.cons; (focus ((repeat (first | exact Sel.head | apply Sel.tail)); done))) | apply Sub.skip)))).some (by omega)
        first
        | (first | exact Bool.noConfusion hc4 | exact absurd rfl hc4; done)
        | (
          refine done_l ?_
          refine t_normal ?_
          refine c_seq ?_
          refine c_true hf rfl ?_
          refine c_skip ?_
          refine t_normal ?_
          refine c_seq ?_
          refine c_block ?_
          refine c_seq ?_
          refine c_region ?_
          refine step_l (st_rd hf (Wn.none rfl) (rd_move hf rfl rfl) hS rfl rfl ?_)
          clear hf; intro a hf
          refine step_l (st_rd hf (Wn.none rfl) ((by first | exact rd_indexAddrN1 hf rfl rfl rfl Try.underlying35 sz3 (by omega) | exact rd_indexAddr hf rfl rfl rfl Try.underlying35 sz3 (by first | decide | omega) (by omega))) hS rfl rfl ?_)
          clear hf; intro a hf
          refine step_l (st_rd hf (Wn.none rfl) (rd_load1 hf rfl rfl ag3 (by intro _ h; exact (hvps _ (h.sub (by repeat (first | exact Sub.refl | exact Sub.none | exact Sub.behind | (apply Sub.cons; (focus ((repeat (first | exact Sel.head | apply Sel.tail)); done))) | apply Sub.skip)))).get (i64s_get hgy))) hS rfl rfl ?_)
          clear hf; intro a hf
          refine step_l (st_rd hf (Wn.none rfl) (rd_assign hf rfl rfl) hS rfl rfl ?_)
          clear hf; intro a hf
          refine step_l (st_rd hf (Wn.none rfl) (rd_assign hf rfl rfl) hS rfl rfl ?_)
          clear hf; intro a hf
          refine done_l ?_
          refine t_normal ?_
          refine c_seq ?_
          refine c_region ?_
          refine step_l (st_rd hf (Wn.none rfl) (rd_move hf rfl rfl) hS rfl rfl ?_)
          clear hf; intro a hf
          refine step_l (st_rdB hf (Wn.none rfl) (rd_lss hf rfl rfl rfl) hS rfl rfl ?_ ?_)
          · clear hf; intro hc5 a hf
            first
            | (first | exact Bool.noConfusion hc5 | exact absurd rfl hc5; done)
            | (
              refine step_l (st_rd hf (Wn.none rfl) (rd_move hf rfl rfl) hS rfl rfl ?_)
              clear hf; intro a hf
              refine step_l (st_rd hf (Wn.some hf rfl rfl rfl rfl) (rd_move hf rfl rfl) hS rfl rfl ?_)
              clear hf; intro a hf
              refine step_l (st_rd hf (Wn.some hf rfl rfl rfl rfl) (rd_len hf rfl rfl Try.underlying22) hS rfl rfl ?_)
              clear hf; intro a hf
              refine step_l (st_rdB hf (Wn.some hf rfl rfl rfl rfl) (rd_gtr hf rfl rfl rfl) hS rfl rfl ?_ ?_)
              · clear hf; intro hc6 a hf
                have hN0 : 0 < N := by omega
                obtain ⟨P, hP⟩ : ∃ P : Nat, P = (y % 18446744073709551616).toNat % N := ⟨_, rfl⟩
                have hPN : P < N := by rw [hP]; exact Nat.mod_lt _ hN0
                obtain ⟨c, hgc⟩ := get_of_lt (l := cs) (k := P) (by omega) rfl; obtain ⟨adc, rfl⟩ := (hS.slOfRw (xs := bvs cs) (by repeat (first | exact Sel.head | apply Sel.tail))).some (by omega)
                first
                | (first | exact Bool.noConfusion hc6 | exact absurd rfl hc6; done)
                | (
                  refine step_l (st_rd hf (Wn.none rfl) (rd_pick_t hf rfl rfl rfl) hS rfl rfl ?_)
                  clear hf; intro a hf
                  refine done_l ?_
                  refine t_normal ?_
                  refine c_true hf rfl ?_
                  refine c_region ?_
                  refine step_l (st_rd hf (Wn.none rfl) (rd_move hf rfl rfl) hS rfl rfl ?_)
                  clear hf; intro a hf
                  refine step_l (st_rd hf (Wn.none rfl) (rd_move hf rfl rfl) hS rfl rfl ?_)
                  clear hf; intro a hf
                  refine step_l (st_rd hf (Wn.none rfl) (rd_convInt hf rfl rfl Try.underlying3 Try.underlying29 rfl) hS rfl rfl ?_)
                  clear hf; intro a hf
                  refine step_l (st_rd hf (Wn.none rfl) (rd_move hf rfl rfl) hS rfl rfl ?_)
                  clear hf; intro a hf
                  refine step_l (st_rd hf (Wn.none rfl) (rd_len hf rfl rfl Try.underlying22) hS rfl rfl ?_)
                  clear hf; intro a hf
                  refine step_l (st_rd hf (Wn.none rfl) (rd_convInt hf rfl rfl Try.underlying3 Try.underlying29 (wrap64 (by omega))) hS rfl rfl ?_)
                  clear hf; intro a hf
                  refine step_l (st_rd hf (Wn.none rfl) (rd_rem hf rfl rfl rfl (by first | decide | omega) ((u64mod y hN0).trans (by rw [← hP]))) hS rfl rfl ?_)
                  clear hf; intro a hf
                  refine step_l (st_rd hf (Wn.none rfl) (rd_convInt hf rfl rfl Try.underlying29 Try.underlying3 (Go.IntWalk.i64_in _ (by omega))) hS rfl rfl ?_)
                  clear hf; intro a hf
                  refine step_l (st_rd hf (Wn.none rfl) ((by first | exact rd_indexAddrN1 hf rfl rfl rfl Try.underlying22 sz5 (by omega) | exact rd_indexAddr hf rfl rfl rfl Try.underlying22 sz5 (by first | decide | omega) (by omega))) hS rfl rfl ?_)
                  clear hf; intro a hf
                  refine step_l (st_rd hf (Wn.none rfl) (rd_load1 hf rfl rfl ag5 (by intro _ h; exact (h.slOfRw (xs := bvs cs) (by repeat (first | exact Sel.head | apply Sel.tail))).get (bvs_get hgc))) hS rfl rfl ?_)
                  clear hf; intro a hf
                  refine step_l (st_rd hf (Wn.none rfl) (rd_move hf rfl rfl) hS rfl rfl ?_)
                  clear hf; intro a hf
                  refine step_l (st_rd hf (Wn.none rfl) (rd_xor hf rfl rfl rfl (n8_xor _ _ rfl)) hS rfl rfl ?_)
                  clear hf; intro a hf
                  refine step_l (st_rd hf (Wn.none rfl) ((by first | exact rd_indexAddrN1 hf rfl rfl rfl Try.underlying22 sz5 (by omega) | exact rd_indexAddr hf rfl rfl rfl Try.underlying22 sz5 (by first | decide | omega) (by omega))) hS rfl rfl ?_)
                  clear hf; intro a hf
                  refine step_l (st_storeRw hf (Wn.none rfl) hS rfl rfl rfl (by rfl) sz5 (by rfl) (by repeat (first | exact Sel.head | apply Sel.tail)) (by omega) rfl ?_)
                  clear hf hS; intro a w hf hS
                  refine done_l ?_
                  refine b_normal ?_
                  refine t_normal ?_
                  refine c_region ?_
                  refine step_l (st_rd hf (Wn.none rfl) (rd_add hf rfl rfl rfl (by first | exact Go.IntWalk.i64_in _ (by omega) | exact rfl)) hS rfl rfl ?_)
                  clear hf; intro a hf
                  refine step_l (st_rd hf (Wn.none rfl) (rd_move hf rfl rfl) hS rfl rfl ?_)
                  clear hf; intro a hf
                  refine done_l ?_
                  refine t_normal ⟨(i + 1, cs.set P (c ^^^ x)), ((hf.back (by repeat (first | exact Behind.refl | refine Behind.skip rfl ?_)) hk1).kb hf 43 rfl (by first | rfl | exact int_eq (by omega))), ⟨(by rw [bvs_set]; exact hS.sub (by repeat (first | exact Sub.refl | exact Sub.none | exact Sub.behind | (apply Sub.cons; (focus ((repeat (first | exact Sel.head | apply Sel.tail)); done))) | apply Sub.skip))), ⟨by omega, by rw [List.length_set]; exact hN⟩⟩, by first | omega | (simp only []; omega)⟩
                  )
              · clear hf; intro hc6 a hf
                first
                | (first | exact Bool.noConfusion hc6 | exact absurd rfl hc6; done)
                | (
                  refine step_l (st_rd hf (Wn.none rfl) (rd_pick_t hf rfl rfl rfl) hS rfl rfl ?_)
                  clear hf; intro a hf
                  refine done_l ?_
                  refine t_normal ?_
                  refine c_false hf rfl ?_
                  refine c_skip ?_
                  refine b_normal ?_
                  refine t_normal ?_
                  refine c_region ?_
                  refine step_l (st_rd hf (Wn.none rfl) (rd_add hf rfl rfl rfl (by first | exact Go.IntWalk.i64_in _ (by omega) | exact rfl)) hS rfl rfl ?_)
                  clear hf; intro a hf
                  refine step_l (st_rd hf (Wn.none rfl) (rd_move hf rfl rfl) hS rfl rfl ?_)
                  clear hf; intro a hf
                  refine done_l ?_
                  refine t_normal ⟨(i + 1, cs), ((hf.back (by repeat (first | exact Behind.refl | refine Behind.skip rfl ?_)) hk1).kb hf 43 rfl (by first | rfl | exact int_eq (by omega))), ⟨hS.sub (by repeat (first | exact Sub.refl | exact Sub.none | exact Sub.behind | (apply Sub.cons; (focus ((repeat (first | exact Sel.head | apply Sel.tail)); done))) | apply Sub.skip)), ⟨by omega, hN⟩⟩, by first | omega | (simp only []; omega)⟩
                  )
              )
          · clear hf; intro hc5 a hf
            first
            | (first | exact Bool.noConfusion hc5 | exact absurd rfl hc5; done)
            | (
              refine step_l (st_rd hf (Wn.none rfl) (rd_move hf rfl rfl) hS rfl rfl ?_)
              clear hf; intro a hf
              refine step_l (st_skip hf (Wn.some hf rfl rfl rfl rfl) rfl rfl ?_)
              clear hf; intro a hf
              refine step_l (st_skip hf (Wn.some hf rfl rfl rfl rfl) rfl rfl ?_)
              clear hf; intro a hf
              refine step_l (st_skip hf (Wn.some hf rfl rfl rfl rfl) rfl rfl ?_)
              clear hf; intro a hf
              refine step_l (st_rd hf (Wn.none rfl) (rd_pick_f hf rfl rfl rfl) hS rfl rfl ?_)
              clear hf; intro a hf
              refine done_l ?_
              refine t_normal ?_
              refine c_false hf rfl ?_
              refine c_skip ?_
              refine b_normal ?_
              refine t_normal ?_
              refine c_region ?_
              refine step_l (st_rd hf (Wn.none rfl) (rd_add hf rfl rfl rfl (by first | exact Go.IntWalk.i64_in _ (by omega) | exact rfl)) hS rfl rfl ?_)
              clear hf; intro a hf
              refine step_l (st_rd hf (Wn.none rfl) (rd_move hf rfl rfl) hS rfl rfl ?_)
              clear hf; intro a hf
              refine done_l ?_
              refine t_normal ⟨(i + 1, cs), ((hf.back (by repeat (first | exact Behind.refl | refine Behind.skip rfl ?_)) hk1).kb hf 43 rfl (by first | rfl | exact int_eq (by omega))), ⟨hS.sub (by repeat (first | exact Sub.refl | exact Sub.none | exact Sub.behind | (apply Sub.cons; (focus ((repeat (first | exact Sel.head | apply Sel.tail)); done))) | apply Sub.skip)), ⟨by omega, hN⟩⟩, by first | omega | (simp only []; omega)⟩
              )
          )
      · clear hf; intro hc4 a hf
        first
        | (first | exact Bool.noConfusion hc4 | exact absurd rfl hc4; done)
        | (
          refine done_l ?_
          refine t_normal ?_
          refine c_seq ?_
          refine c_false hf rfl ?_
          refine c_exit ?_
          refine t_exit ?_
          refine t_exit ?_
          refine b_exit ?_
          refine t_normal ?_
          refine c_seq ?_
          refine c_region ?_
          refine step_l (st_rd hf (Wn.none rfl) (rd_move hf rfl rfl) hS rfl rfl ?_)
          clear hf; intro a hf
          refine step_l (st_call hf (Wn.none rfl) rfl rfl rfl fn13 (FTake_c cs _ _ _ hS hN (by omega) (by rw [← hN]; exact hcapa) (fun _ h => (by rw [← hN]; exact h.slOfRw (xs := bvs cs) (by repeat (first | exact Sel.head | apply Sel.tail))))) rfl rfl ?_)
          clear hf hS; rintro v a w ⟨qt, capt, rfl, hS⟩ hf
          refine step_l (st_rd hf (Wn.none rfl) (rd_move hf rfl rfl) hS rfl rfl ?_)
          clear hf; intro a hf
          refine step_l (st_rd hf (Wn.none rfl) (rd_extract hf rfl rfl rfl) hS rfl rfl ?_)
          clear hf; intro a hf
          refine step_l (st_rd hf (Wn.none rfl) (rd_extract hf rfl rfl rfl) hS rfl rfl ?_)
          clear hf; intro a hf
          refine step_l (st_rd hf (Wn.none rfl) (rd_extract hf rfl rfl rfl) hS rfl rfl ?_)
          clear hf; intro a hf
          refine step_l (st_rd hf (Wn.none rfl) (rd_assign hf rfl rfl) hS rfl rfl ?_)
          clear hf; intro a hf
          refine step_l (st_rd hf (Wn.none rfl) (rd_assign hf rfl rfl) hS rfl rfl ?_)
          clear hf; intro a hf
          refine step_l (st_rd hf (Wn.none rfl) (rd_assign hf rfl rfl) hS rfl rfl ?_)
          clear hf; intro a hf
          refine done_l ?_
          refine t_normal ?_
          refine c_seq ?_
          refine c_region ?_
          refine step_l (st_rd hf (Wn.none rfl) (rd_move hf rfl rfl) hS rfl rfl ?_)
          clear hf; intro a hf
          refine step_l (st_call hf (Wn.none rfl) rfl rfl rfl fn15 (RTake_c cs _ _ _ hS hN (by omega) (by rw [← hN]; exact hcapa) (fun _ h => (by rw [← hN]; exact h.slOfRw (xs := bvs cs) (by repeat (first | exact Sel.head | apply Sel.tail))))) rfl rfl ?_)
          clear hf hS; rintro v a w ⟨qr, capr, rfl, hS⟩ hf
          refine step_l (st_rd hf (Wn.none rfl) (rd_move hf rfl rfl) hS rfl rfl ?_)
          clear hf; intro a hf
          refine step_l (st_rd hf (Wn.none rfl) (rd_extract hf rfl rfl rfl) hS rfl rfl ?_)
          clear hf; intro a hf
          refine step_l (st_rd hf (Wn.none rfl) (rd_extract hf rfl rfl rfl) hS rfl rfl ?_)
          clear hf; intro a hf
          refine step_l (st_rd hf (Wn.none rfl) (rd_extract hf rfl rfl rfl) hS rfl rfl ?_)
          clear hf; intro a hf
          refine step_l (st_rd hf (Wn.none rfl) (rd_assign hf rfl rfl) hS rfl rfl ?_)
          clear hf; intro a hf
          refine step_l (st_rd hf (Wn.none rfl) (rd_assign hf rfl rfl) hS rfl rfl ?_)
          clear hf; intro a hf
          refine step_l (st_rd hf (Wn.none rfl) (rd_assign hf rfl rfl) hS rfl rfl ?_)
          clear hf; intro a hf
          refine done_l ?_
          refine t_normal ?_
          refine c_seq ?_
          refine c_seq ?_
          refine c_region ?_
          refine step_l (st_rd hf (Wn.none rfl) (rd_move hf rfl rfl) hS rfl rfl ?_)
          clear hf; intro a hf
          refine step_l (st_rd hf (Wn.none rfl) (rd_str hf rfl rfl Try.underlying22 Try.underlying9 Try.underlying5 (by intro _ h; first | exact h.slOfRw (by repeat (first | exact Sel.head | apply Sel.tail)) | exact h.slOfBlkPre (by repeat (first | exact Sel.head | apply Sel.tail)) (bvs_len1 _) | exact h.slOfRw (by repeat (first | exact Sel.head | apply Sel.tail)))) hS rfl rfl ?_)
          clear hf; intro a hf
          refine step_l (st_rd hf (Wn.none rfl) (rd_move hf rfl rfl) hS rfl rfl ?_)
          clear hf; intro a hf
          refine step_l (st_rd hf (Wn.none rfl) (rd_str hf rfl rfl Try.underlying22 Try.underlying9 Try.underlying5 (by intro _ h; first | exact h.slOfRw (by repeat (first | exact Sel.head | apply Sel.tail)) | exact h.slOfBlkPre (by repeat (first | exact Sel.head | apply Sel.tail)) (bvs_len1 _) | exact h.slOfRw (by repeat (first | exact Sel.head | apply Sel.tail)))) hS rfl rfl ?_)
          clear hf; intro a hf
          refine step_l (st_rdB hf (Wn.none rfl) (rd_neqS hf rfl rfl rfl) hS rfl rfl ?_ ?_)
          · clear hf; intro hc7 a hf
            exact absurd rfl hc7
          · clear hf; intro hc7 a hf
            first
            | (first | exact Bool.noConfusion hc7 | exact absurd rfl hc7; done)
            | (
              refine step_l (st_rd hf (Wn.none rfl) (rd_move hf rfl rfl) hS rfl rfl ?_)
              clear hf; intro a hf
              refine step_l (st_rd hf (Wn.some hf rfl rfl rfl rfl) (rd_move hf rfl rfl) hS rfl rfl ?_)
              clear hf; intro a hf
              refine step_l (st_rd hf (Wn.some hf rfl rfl rfl rfl) (rd_move hf rfl rfl) hS rfl rfl ?_)
              clear hf; intro a hf
              refine step_l (st_rdB hf (Wn.some hf rfl rfl rfl rfl) (rd_neq hf rfl rfl rfl) hS rfl rfl ?_ ?_)
              · clear hf; intro hc8 a hf
                exact absurd rfl hc8
              · clear hf; intro hc8 a hf
                first
                | (first | exact Bool.noConfusion hc8 | exact absurd rfl hc8; done)
                | (
                  refine step_l (st_rd hf (Wn.none rfl) (rd_pick_f hf rfl rfl rfl) hS rfl rfl ?_)
                  clear hf; intro a hf
                  refine step_l (st_rd hf (Wn.none rfl) (rd_move hf rfl rfl) hS rfl rfl ?_)
                  clear hf; intro a hf
                  refine step_l (st_rd hf (Wn.some hf rfl rfl rfl rfl) (rd_move hf rfl rfl) hS rfl rfl ?_)
                  clear hf; intro a hf
                  refine step_l (st_rd hf (Wn.some hf rfl rfl rfl rfl) (rd_move hf rfl rfl) hS rfl rfl ?_)
                  clear hf; intro a hf
                  refine step_l (st_rdB hf (Wn.some hf rfl rfl rfl rfl) (rd_neq hf rfl rfl rfl) hS rfl rfl ?_ ?_)
                  · clear hf; intro hc9 a hf
                    exact absurd rfl hc9
                  · clear hf; intro hc9 a hf
                    first
                    | (first | exact Bool.noConfusion hc9 | exact absurd rfl hc9; done)
                    | (
                      refine step_l (st_rd hf (Wn.none rfl) (rd_pick_f hf rfl rfl rfl) hS rfl rfl ?_)
                      clear hf; intro a hf
                      refine done_l ?_
                      refine t_normal ?_
                      refine c_false hf rfl ?_
                      refine c_skip ?_
                      refine t_normal ?_
                      refine c_seq ?_
                      refine c_region ?_
                      refine step_l (st_rd hf (Wn.none rfl) (rd_move hf rfl rfl) hS rfl rfl ?_)
                      clear hf; intro a hf
                      refine step_l (st_call hf (Wn.none rfl) rfl rfl rfl fn16 (FAll_c cs _ _ _ hS hN (by omega) (by rw [← hN]; exact hcapa) (fun _ h => (by rw [← hN]; exact h.slOfRw (xs := bvs cs) (by repeat (first | exact Sel.head | apply Sel.tail))))) rfl rfl ?_)
                      clear hf hS; rintro v a w ⟨qu, capu, Lu, hu, rfl, hS⟩ hf; have hu8 := allB_len hu
                      refine step_l (st_rd hf (Wn.none rfl) (rd_move hf rfl rfl) hS rfl rfl ?_)
                      clear hf; intro a hf
                      refine step_l (st_rd hf (Wn.none rfl) (rd_extract hf rfl rfl rfl) hS rfl rfl ?_)
                      clear hf; intro a hf
                      refine step_l (st_rd hf (Wn.none rfl) (rd_extract hf rfl rfl rfl) hS rfl rfl ?_)
                      clear hf; intro a hf
                      refine step_l (st_rd hf (Wn.none rfl) (rd_extract hf rfl rfl rfl) hS rfl rfl ?_)
                      clear hf; intro a hf
                      refine step_l (st_rd hf (Wn.none rfl) (rd_assign hf rfl rfl) hS rfl rfl ?_)
                      clear hf; intro a hf
                      refine step_l (st_rd hf (Wn.none rfl) (rd_assign hf rfl rfl) hS rfl rfl ?_)
                      clear hf; intro a hf
                      refine step_l (st_rd hf (Wn.none rfl) (rd_assign hf rfl rfl) hS rfl rfl ?_)
                      clear hf; intro a hf
                      refine done_l ?_
                      refine t_normal ?_
                      refine c_seq ?_
                      refine c_region ?_
                      refine step_l (st_rd hf (Wn.none rfl) (rd_move hf rfl rfl) hS rfl rfl ?_)
                      clear hf; intro a hf
                      refine step_l (st_call hf (Wn.none rfl) rfl rfl rfl fn17 (RAll_c cs _ _ _ hS hN (by omega) (by rw [← hN]; exact hcapa) (fun _ h => (by rw [← hN]; exact h.slOfRw (xs := bvs cs) (by repeat (first | exact Sel.head | apply Sel.tail))))) rfl rfl ?_)
                      clear hf hS; rintro v a w ⟨qz, capz, Lz, hz, rfl, hS⟩ hf
                      refine step_l (st_rd hf (Wn.none rfl) (rd_move hf rfl rfl) hS rfl rfl ?_)
                      clear hf; intro a hf
                      refine step_l (st_rd hf (Wn.none rfl) (rd_extract hf rfl rfl rfl) hS rfl rfl ?_)
                      clear hf; intro a hf
                      refine step_l (st_rd hf (Wn.none rfl) (rd_extract hf rfl rfl rfl) hS rfl rfl ?_)
                      clear hf; intro a hf
                      refine step_l (st_rd hf (Wn.none rfl) (rd_extract hf rfl rfl rfl) hS rfl rfl ?_)
                      clear hf; intro a hf
                      refine step_l (st_rd hf (Wn.none rfl) (rd_assign hf rfl rfl) hS rfl rfl ?_)
                      clear hf; intro a hf
                      refine step_l (st_rd hf (Wn.none rfl) (rd_assign hf rfl rfl) hS rfl rfl ?_)
                      clear hf; intro a hf
                      refine step_l (st_rd hf (Wn.none rfl) (rd_assign hf rfl rfl) hS rfl rfl ?_)
                      clear hf; intro a hf
                      refine done_l ?_
                      refine t_normal ?_
                      refine c_seq ?_
                      refine c_region ?_
                      refine step_l (st_rd hf (Wn.none rfl) (rd_move hf rfl rfl) hS rfl rfl ?_)
                      clear hf; intro a hf
                      refine step_l (st_rd hf (Wn.none rfl) (rd_move hf rfl rfl) hS rfl rfl ?_)
                      clear hf; intro a hf
                      refine step_l (st_call hf (Wn.none rfl) rfl rfl rfl fn18 (SameBytes_c Lu _ _ _ Lz _ _ _ hS rfl rfl (by omega) (fun _ h => BB.mk (h.slOfRw (xs := Lu.map sval) (by repeat (first | exact Sel.head | apply Sel.tail))) (h.rws (L := Lu) (by repeat (first | exact Sel.head | apply Sel.tail)))) (fun _ h => BB.mk (h.slOfRw (xs := Lz.map sval) (by repeat (first | exact Sel.head | apply Sel.tail))) (h.rws (L := Lz) (by repeat (first | exact Sel.head | apply Sel.tail))))) rfl rfl ?_)
                      clear hf hS; rintro v a w ⟨rfl, hS⟩ hf; rw [decide_eq_true (hu.trans hz.symm)] at hf
                      first | refine split_dec (d := 110) hf rfl ?_ ?_ | refine split_bool (d := 110) hf rfl ?_ ?_
                      · clear hf; intro hc10 hf
                        first
                        | (first | exact Bool.noConfusion hc10 | exact absurd rfl hc10; done)
                        | (
                          refine step_l (st_rd hf (Wn.none rfl) (rd_move hf rfl rfl) hS rfl rfl ?_)
                          clear hf; intro a hf
                          refine step_l (st_rd hf (Wn.some hf rfl rfl rfl rfl) (rd_move hf rfl rfl) hS rfl rfl ?_)
                          clear hf; intro a hf
                          refine step_l (st_rd hf (Wn.some hf rfl rfl rfl rfl) (rd_move hf rfl rfl) hS rfl rfl ?_)
                          clear hf; intro a hf
                          refine step_l (st_rdB hf (Wn.some hf rfl rfl rfl rfl) (rd_eql hf rfl rfl rfl) hS rfl rfl ?_ ?_)
                          · clear hf; intro hc11 a hf
                            first
                            | (first | exact Bool.noConfusion hc11 | exact absurd rfl hc11; done)
                            | (
                              refine step_l (st_rd hf (Wn.none rfl) (rd_pick_t hf rfl rfl rfl) hS rfl rfl ?_)
                              clear hf; intro a hf
                              refine step_l (st_rd hf (Wn.none rfl) (rd_move hf rfl rfl) hS rfl rfl ?_)
                              clear hf; intro a hf
                              refine step_l (st_rd hf (Wn.some hf rfl rfl rfl rfl) (rd_move hf rfl rfl) hS rfl rfl ?_)
                              clear hf; intro a hf
                              refine step_l (st_rd hf (Wn.some hf rfl rfl rfl rfl) (rd_move hf rfl rfl) hS rfl rfl ?_)
                              clear hf; intro a hf
                              refine step_l (st_rdB hf (Wn.some hf rfl rfl rfl rfl) (rd_eql hf rfl rfl rfl) hS rfl rfl ?_ ?_)
                              · clear hf; intro hc12 a hf
                                first
                                | (first | exact Bool.noConfusion hc12 | exact absurd rfl hc12; done)
                                | (
                                  refine step_l (st_rd hf (Wn.none rfl) (rd_pick_t hf rfl rfl rfl) hS rfl rfl ?_)
                                  clear hf; intro a hf
                                  refine step_l (st_rd hf (Wn.none rfl) (rd_move hf rfl rfl) hS rfl rfl ?_)
                                  clear hf; intro a hf
                                  refine step_l (st_call hf (Wn.some hf rfl rfl rfl rfl) rfl rfl rfl fn11 (awake_c hS) rfl rfl ?_)
                                  clear hf hS; rintro v a w ⟨rfl, hS⟩ hf
                                  refine step_l (st_rd hf (Wn.none rfl) (rd_pick_t hf rfl rfl rfl) hS rfl rfl ?_)
                                  clear hf; intro a hf
                                  refine step_l (st_rd hf (Wn.none rfl) (rd_assign hf rfl rfl) hS rfl rfl ?_)
                                  clear hf; intro a hf
                                  refine done_l ?_
                                  refine t_normal ?_
                                  refine c_ret ?_
                                  refine e_res1 hf.defers rfl (res_tmp hf rfl .nil) ?_
                                  exact ⟨rfl, hS.sub (by repeat (first | exact Sub.refl | exact Sub.none | exact Sub.behind | (apply Sub.cons; (focus ((repeat (first | exact Sel.head | apply Sel.tail)); done))) | apply Sub.skip))⟩
                                  )
                              · clear hf; intro hc12 a hf
                                exact absurd rfl hc12
                              )
                          · clear hf; intro hc11 a hf
                            exact absurd rfl hc11
                          )
                      · clear hf; intro hc10 hf
                        first
                        | (first | exact Bool.noConfusion hc10 | exact absurd rfl hc10; done)
                        | (
                          refine step_l (st_rd hf (Wn.none rfl) (rd_move hf rfl rfl) hS rfl rfl ?_)
                          clear hf; intro a hf
                          refine step_l (st_skip hf (Wn.some hf rfl rfl rfl rfl) rfl rfl ?_)
                          clear hf; intro a hf
                          refine step_l (st_skip hf (Wn.some hf rfl rfl rfl rfl) rfl rfl ?_)
                          clear hf; intro a hf
                          refine step_l (st_skip hf (Wn.some hf rfl rfl rfl rfl) rfl rfl ?_)
                          clear hf; intro a hf
                          refine step_l (st_rd hf (Wn.none rfl) (rd_pick_f hf rfl rfl rfl) hS rfl rfl ?_)
                          clear hf; intro a hf
                          refine step_l (st_rd hf (Wn.none rfl) (rd_move hf rfl rfl) hS rfl rfl ?_)
                          clear hf; intro a hf
                          refine step_l (st_skip hf (Wn.some hf rfl rfl rfl rfl) rfl rfl ?_)
                          clear hf; intro a hf
                          refine step_l (st_skip hf (Wn.some hf rfl rfl rfl rfl) rfl rfl ?_)
                          clear hf; intro a hf
                          refine step_l (st_skip hf (Wn.some hf rfl rfl rfl rfl) rfl rfl ?_)
                          clear hf; intro a hf
                          refine step_l (st_rd hf (Wn.none rfl) (rd_pick_f hf rfl rfl rfl) hS rfl rfl ?_)
                          clear hf; intro a hf
                          refine step_l (st_rd hf (Wn.none rfl) (rd_move hf rfl rfl) hS rfl rfl ?_)
                          clear hf; intro a hf
                          refine step_l (st_skip hf (Wn.some hf rfl rfl rfl rfl) rfl rfl ?_)
                          clear hf; intro a hf
                          refine step_l (st_rd hf (Wn.none rfl) (rd_pick_f hf rfl rfl rfl) hS rfl rfl ?_)
                          clear hf; intro a hf
                          refine step_l (st_rd hf (Wn.none rfl) (rd_assign hf rfl rfl) hS rfl rfl ?_)
                          clear hf; intro a hf
                          refine done_l ?_
                          refine t_normal ?_
                          refine c_ret ?_
                          refine e_res1 hf.defers rfl (res_tmp hf rfl .nil) ?_
                          exact ⟨rfl, hS.sub (by repeat (first | exact Sub.refl | exact Sub.none | exact Sub.behind | (apply Sub.cons; (focus ((repeat (first | exact Sel.head | apply Sel.tail)); done))) | apply Sub.skip))⟩
                          )
                      )
                  )
              )
          )
      )

end Go.Proofs.Ytbfjfffeeelikaa
