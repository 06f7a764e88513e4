/-
  What the laws of package wal share.
  Conditions: none.
-/
import Derived.Test.YtiibgekphgmjcaaWal1
namespace Go.Proofs.Ytiibgekphgmjcaa
open Go Go.Sl
set_option linter.unusedVariables false
set_option linter.unusedSimpArgs false
theorem bz5_1 : ((Array.range (1 * 1)).map (fun j => ((.int .u8 0 : Value)).cells[j % ((.int .u8 0 : Value)).cells.size]!)) = ([.int .u8 0] : List Value).toArray := by kernel_rfl
theorem bz5_3 : ((Array.range (3 * 1)).map (fun j => ((.int .u8 0 : Value)).cells[j % ((.int .u8 0 : Value)).cells.size]!)) = ([.int .u8 0, .int .u8 0, .int .u8 0] : List Value).toArray := by kernel_rfl
theorem fn10 : fnB Try.prog 10 = true := by kernel_rfl
theorem fn11 : fnB Try.prog 11 = true := by kernel_rfl
theorem fn14 : fnB Try.prog 14 = true := by kernel_rfl
theorem awake_c  {W : World} {R : List HP} {w : World} (hS : Sat W (R) w)  : Calls Try.prog 12 [].toArray w (Ret fun v w' => v = .bool true ∧ Sat W R w') := by
  refine fn_start 60 Try.func12 rfl rfl rfl ?_
  intro a hf
  refine c_seq ?_
  refine c_region ?_
  refine step_l (st_rd hf (Wn.none rfl) (rd_assign hf rfl rfl) hS rfl rfl ?_)
  clear hf; intro a hf
  refine done_l ?_
  refine t_normal ?_
  refine c_seq ?_
  refine c_region ?_
  refine step_l (st_call hf (Wn.none rfl) rfl rfl rfl fn10 (DNew_c _ hS) rfl rfl ?_)
  clear hf hS; rintro v a w ⟨pd, rfl, hS⟩ hf; rw [show max 0 (min (1000 : Int) 1048576) = 1000 by omega] at hS
  refine step_l (st_rd hf (Wn.none rfl) (rd_assign hf rfl rfl) hS rfl rfl ?_)
  clear hf; intro a hf
  refine done_l ?_
  refine t_normal ?_
  refine c_seq ?_
  refine c_region ?_
  refine step_l (st_rd hf (Wn.none rfl) (rd_move hf rfl rfl) hS rfl rfl ?_)
  clear hf; intro a hf
  refine step_l (st_call hf (Wn.none rfl) rfl rfl rfl fn11 (OpenOk_c _ _ [] _ (hS.sel (by repeat (first | exact Sel.head | apply Sel.tail))) (by simp) (by rw [allB_nil])) rfl rfl ?_)
  clear hf hS; rintro v a w ⟨g1, q1, cap1, L1, h1, rfl, hS⟩ hf; rw [allB_nil] at h1; have hl1 : L1.length = 0 := (by have := congrArg List.length h1; rwa [byts_len] at this); have hw0 : wB [] = [] := rfl; rw [hl1] at hf hS; rw [hw0] at hS
  refine step_l (st_rd hf (Wn.none rfl) (rd_move hf rfl rfl) hS rfl rfl ?_)
  clear hf; intro a hf
  refine step_l (st_rd hf (Wn.none rfl) (rd_extract hf rfl rfl rfl) hS rfl rfl ?_)
  clear hf; intro a hf
  refine step_l (st_rd hf (Wn.none rfl) (rd_extract hf rfl rfl rfl) hS rfl rfl ?_)
  clear hf; intro a hf
  refine step_l (st_rd hf (Wn.none rfl) (rd_extract hf rfl rfl rfl) hS rfl rfl ?_)
  clear hf; intro a hf
  refine step_l (st_rd hf (Wn.none rfl) (rd_assign hf rfl rfl) hS rfl rfl ?_)
  clear hf; intro a hf
  refine step_l (st_rd hf (Wn.none rfl) (rd_assign hf rfl rfl) hS rfl rfl ?_)
  clear hf; intro a hf
  refine step_l (st_rd hf (Wn.none rfl) (rd_assign hf rfl rfl) hS rfl rfl ?_)
  clear hf; intro a hf
  refine done_l ?_
  refine t_normal ?_
  refine c_seq ?_
  refine c_seq ?_
  refine c_region ?_
  refine step_l (st_rd hf (Wn.none rfl) (rd_move hf rfl rfl) hS rfl rfl ?_)
  clear hf; intro a hf
  refine step_l (st_rdB hf (Wn.none rfl) (rd_neq hf rfl rfl rfl) hS rfl rfl ?_ ?_)
  · clear hf; intro hc1 a hf
    exact absurd rfl hc1
  · clear hf; intro hc1 a hf
    first
    | (first | exact Bool.noConfusion hc1 | exact absurd rfl hc1; done)
    | (
      refine step_l (st_rd hf (Wn.none rfl) (rd_move hf rfl rfl) hS rfl rfl ?_)
      clear hf; intro a hf
      refine step_l (st_rd hf (Wn.some hf rfl rfl rfl rfl) (rd_move hf rfl rfl) hS rfl rfl ?_)
      clear hf; intro a hf
      refine step_l (st_rdb hf (Wn.some hf rfl rfl rfl rfl) (rd_eqlNilP hf rfl rfl rfl Try.underlying26) hS rfl rfl ?_ ?_)
      · clear hf; intro hc2 a hf
        first
        | (first | exact Bool.noConfusion hc2 | exact absurd rfl hc2; done)
        | (
          refine step_l (st_rd hf (Wn.none rfl) (rd_pick_f hf rfl rfl rfl) hS rfl rfl ?_)
          clear hf; intro a hf
          refine step_l (st_rd hf (Wn.none rfl) (rd_move hf rfl rfl) hS rfl rfl ?_)
          clear hf; intro a hf
          refine step_l (st_skip hf (Wn.some hf rfl rfl rfl rfl) rfl rfl ?_)
          clear hf; intro a hf
          refine step_l (st_skip hf (Wn.some hf rfl rfl rfl rfl) rfl rfl ?_)
          clear hf; intro a hf
          refine step_l (st_skip hf (Wn.some hf rfl rfl rfl rfl) rfl rfl ?_)
          clear hf; intro a hf
          refine step_l (st_skip hf (Wn.some hf rfl rfl rfl rfl) rfl rfl ?_)
          clear hf; intro a hf
          refine step_l (st_skip hf (Wn.some hf rfl rfl rfl rfl) rfl rfl ?_)
          clear hf; intro a hf
          refine step_l (st_rd hf (Wn.none rfl) (rd_pick_t hf rfl rfl rfl) hS rfl rfl ?_)
          clear hf; intro a hf
          refine done_l ?_
          refine t_normal ?_
          refine c_true hf rfl ?_
          refine c_seq ?_
          refine c_region ?_
          refine step_l (st_rd hf (Wn.none rfl) (rd_assign hf rfl rfl) hS rfl rfl ?_)
          clear hf; intro a hf
          refine done_l ?_
          refine t_normal ?_
          refine c_ret ?_
          refine t_ret ?_
          refine e_res1 hf.defers rfl (res_tmp hf rfl .nil) ?_
          exact ⟨rfl, hS.sub (by repeat (first | exact Sub.refl | exact Sub.none | exact Sub.behind | (apply Sub.cons; (focus ((repeat (first | exact Sel.head | apply Sel.tail)); done))) | apply Sub.skip))⟩
          )
      · clear hf; intro hc2 a hf
        first
        | (first | exact Bool.noConfusion hc2 | exact absurd rfl hc2; done)
        | (
          refine step_l (st_rd hf (Wn.none rfl) (rd_pick_f hf rfl rfl rfl) hS rfl rfl ?_)
          clear hf; intro a hf
          refine step_l (st_rd hf (Wn.none rfl) (rd_move hf rfl rfl) hS rfl rfl ?_)
          clear hf; intro a hf
          refine step_l (st_rd hf (Wn.some hf rfl rfl rfl rfl) (rd_move hf rfl rfl) hS rfl rfl ?_)
          clear hf; intro a hf
          refine step_l (st_buildRw hf (Wn.some hf rfl rfl rfl rfl) hS rfl rfl Try.underlying23 sz5 zr5 (by decide) (by decide) bz5_1 rfl (.cons rfl (by first | rfl) (by rfl) (by repeat (first | exact Put.nil | apply Put.cons | apply Put.succ)) .nil) rfl rfl rfl ?_)
          clear hf hS; intro b_3 a w hf hS
          refine step_l (st_conv hf (Wn.some hf rfl rfl rfl rfl) hS rfl rfl Try.underlying23 Try.underlying5 (by repeat (first | exact Sel.head | apply Sel.tail)) rfl rfl ?_)
          clear hf hS; intro a w hf hS
          refine step_l (st_call hf (Wn.some hf rfl rfl rfl rfl) rfl rfl rfl fn14 (WAppend_c _ _ 0 1000 [] _ [120] _ _ _ (hS.sels (.cons (by repeat (first | exact Sel.head | apply Sel.tail)) (.cons (by repeat (first | exact Sel.head | apply Sel.tail)) .nil))) (by omega) (by omega) (by omega) rfl (fun _ h => h.slOfBlk (by repeat (first | exact Sel.head | apply Sel.tail)) (by rfl))) rfl rfl ?_)
          clear hf hS; rintro v a w ⟨rfl, hS⟩ hf; have hfl := frB_len [120]; have he : aE 1000 [] [120] = 0 := a_fit (by simp) (by simp); obtain ⟨e1, e2, e3⟩ := a_yes (n := 0) (s := wS [] 0) he; rw [he] at hf; rw [e1, e2, e3, List.nil_append] at hS
          refine step_l (st_rdB hf (Wn.some hf rfl rfl rfl rfl) (rd_neq hf rfl rfl rfl) hS rfl rfl ?_ ?_)
          · clear hf; intro hc4 a hf
            exact absurd rfl hc4
          · clear hf; intro hc4 a hf
            first
            | (first | exact Bool.noConfusion hc4 | exact absurd rfl hc4; done)
            | (
              refine step_l (st_rd hf (Wn.none rfl) (rd_pick_f hf rfl rfl rfl) hS rfl rfl ?_)
              clear hf; intro a hf
              refine done_l ?_
              refine t_normal ?_
              refine c_false hf rfl ?_
              refine c_skip ?_
              refine t_normal ?_
              refine c_seq ?_
              refine c_region ?_
              refine step_l (st_rd hf (Wn.none rfl) (rd_move hf rfl rfl) hS rfl rfl ?_)
              clear hf; intro a hf
              refine step_l (st_buildSlice hf (Wn.none rfl) hS rfl rfl Try.underlying23 sz5 zr5 (by decide) bz5_3 rfl (.cons rfl (by first | rfl) (by rfl) (by repeat (first | exact Put.nil | apply Put.cons | apply Put.succ)) (.cons rfl (by first | rfl) (by rfl) (by repeat (first | exact Put.nil | apply Put.cons | apply Put.succ)) (.cons rfl (by first | rfl) (by rfl) (by repeat (first | exact Put.nil | apply Put.cons | apply Put.succ)) .nil))) rfl rfl ?_)
              clear hf hS; intro b_5 a w hf hS
              refine step_l (st_call hf (Wn.none rfl) rfl rfl rfl fn15 (DAppend_c _ 1000 (frB [120]) _ [0, 0, 0] _ _ _ (hS.sel (by repeat (first | exact Sel.head | apply Sel.tail))) rfl (by omega) (by omega) (fun _ h => h.slOfBlk (by repeat (first | exact Sel.head | apply Sel.tail)) (by rfl))) rfl rfl ?_)
              clear hf hS; rintro v a w ⟨rfl, hS⟩ hf; obtain ⟨d1, d2⟩ := dApp_fit (most := 1000) (b := frB [120]) (x := [0, 0, 0]) (by rw [hfl]; simp); rw [d1] at hS; have hfe : frB [120] ++ [0, 0, 0] = frs [[120]] ++ [0, 0, 0] := (by simp [frs]); rw [hfe] at hS; obtain ⟨w1, w2⟩ := w_frs (l := [[120]]) (t := [0, 0, 0]) (by simp) (tk_short (by simp)); have hf1 : frs [[120]] = frB [120] := by simp [frs]
              refine done_l ?_
              refine t_normal ?_
              refine c_seq ?_
              refine c_region ?_
              refine step_l (st_rd hf (Wn.none rfl) (rd_move hf rfl rfl) hS rfl rfl ?_)
              clear hf; intro a hf
              refine step_l (st_call hf (Wn.none rfl) rfl rfl rfl fn11 (OpenOk_c _ _ (frs [[120]] ++ [0, 0, 0]) _ (hS.sel (by repeat (first | exact Sel.head | apply Sel.tail))) (by rw [List.length_append, hf1, hfl]; simp) (by rw [w1])) rfl rfl ?_)
              clear hf hS; rintro v a w ⟨g2, q2, cap2, L2, h2, rfl, hS⟩ hf; rw [w1] at h2; rw [w2] at hS; have hl2 : L2.length = 1 := (by have := congrArg List.length h2; rwa [byts_len] at this); obtain ⟨x, hgx⟩ := get_of_lt (l := L2) (k := 0) (by omega) rfl; have hx : x.2.2 = [120] := (by have h3 := byts_get hgx; rw [h2] at h3; exact (Option.some.inj h3).symm); obtain ⟨ad, rfl⟩ := (hS.slOfRw (xs := L2.map sval) (by repeat (first | exact Sel.head | apply Sel.tail))).some (by omega)
              refine step_l (st_rd hf (Wn.none rfl) (rd_move hf rfl rfl) hS rfl rfl ?_)
              clear hf; intro a hf
              refine step_l (st_rd hf (Wn.none rfl) (rd_extract hf rfl rfl rfl) hS rfl rfl ?_)
              clear hf; intro a hf
              refine step_l (st_rd hf (Wn.none rfl) (rd_extract hf rfl rfl rfl) hS rfl rfl ?_)
              clear hf; intro a hf
              refine step_l (st_rd hf (Wn.none rfl) (rd_extract hf rfl rfl rfl) hS rfl rfl ?_)
              clear hf; intro a hf
              refine step_l (st_rd hf (Wn.none rfl) (rd_assign hf rfl rfl) hS rfl rfl ?_)
              clear hf; intro a hf
              refine step_l (st_rd hf (Wn.none rfl) (rd_assign hf rfl rfl) hS rfl rfl ?_)
              clear hf; intro a hf
              refine step_l (st_rd hf (Wn.none rfl) (rd_assign hf rfl rfl) hS rfl rfl ?_)
              clear hf; intro a hf
              refine done_l ?_
              refine t_normal ?_
              refine c_seq ?_
              refine c_region ?_
              refine step_l (st_rd hf (Wn.none rfl) (rd_move hf rfl rfl) hS rfl rfl ?_)
              clear hf; intro a hf
              refine step_l (st_rdB hf (Wn.none rfl) (rd_eql hf rfl rfl rfl) hS rfl rfl ?_ ?_)
              · clear hf; intro hc6 a hf
                first
                | (first | exact Bool.noConfusion hc6 | exact absurd rfl hc6; done)
                | (
                  refine step_l (st_rd hf (Wn.none rfl) (rd_move hf rfl rfl) hS rfl rfl ?_)
                  clear hf; intro a hf
                  refine step_l (st_rd hf (Wn.some hf rfl rfl rfl rfl) (rd_move hf rfl rfl) hS rfl rfl ?_)
                  clear hf; intro a hf
                  refine step_l (st_rdb hf (Wn.some hf rfl rfl rfl rfl) (rd_neqNilP hf rfl rfl rfl Try.underlying26) hS rfl rfl ?_ ?_)
                  · clear hf; intro hc7 a hf
                    first
                    | (first | exact Bool.noConfusion hc7 | exact absurd rfl hc7; done)
                    | (
                      refine step_l (st_rd hf (Wn.none rfl) (rd_pick_t hf rfl rfl rfl) hS rfl rfl ?_)
                      clear hf; intro a hf
                      refine step_l (st_rd hf (Wn.none rfl) (rd_move hf rfl rfl) hS rfl rfl ?_)
                      clear hf; intro a hf
                      refine step_l (st_rd hf (Wn.some hf rfl rfl rfl rfl) (rd_move hf rfl rfl) hS rfl rfl ?_)
                      clear hf; intro a hf
                      refine step_l (st_rd hf (Wn.some hf rfl rfl rfl rfl) (rd_len hf rfl rfl Try.underlying22) hS rfl rfl ?_)
                      clear hf; intro a hf
                      refine step_l (st_rdB hf (Wn.some hf rfl rfl rfl rfl) (rd_eql hf rfl rfl rfl) hS rfl rfl ?_ ?_)
                      · clear hf; intro hc8 a hf
                        first
                        | (first | exact Bool.noConfusion hc8 | exact absurd rfl hc8; done)
                        | (
                          refine step_l (st_rd hf (Wn.none rfl) (rd_pick_t hf rfl rfl rfl) hS rfl rfl ?_)
                          clear hf; intro a hf
                          refine step_l (st_rd hf (Wn.none rfl) (rd_move hf rfl rfl) hS rfl rfl ?_)
                          clear hf; intro a hf
                          refine step_l (st_rd hf (Wn.some hf rfl rfl rfl rfl) (rd_move hf rfl rfl) hS rfl rfl ?_)
                          clear hf; intro a hf
                          refine step_l (st_rd hf (Wn.some hf rfl rfl rfl rfl) ((by first | exact rd_indexAddrN1 hf rfl rfl rfl Try.underlying22 sz23 (by omega) | exact rd_indexAddr hf rfl rfl rfl Try.underlying22 sz23 (by first | decide | omega) (by omega))) hS rfl rfl ?_)
                          clear hf; intro a hf
                          refine step_l (st_rd hf (Wn.some hf rfl rfl rfl rfl) (rd_load1 hf rfl rfl ag23 (by intro _ h; exact (h.slOfRw (xs := L2.map sval) (by repeat (first | exact Sel.head | apply Sel.tail))).get (u := sval x) (by simp [hgx]))) hS rfl rfl ?_)
                          clear hf; intro a hf
                          refine step_l (st_rd hf (Wn.some hf rfl rfl rfl rfl) (rd_str hf rfl rfl Try.underlying23 Try.underlying9 Try.underlying5 (by intro _ h; first | exact h.slOfRw (by repeat (first | exact Sel.head | apply Sel.tail)) | exact h.slOfBlkPre (by repeat (first | exact Sel.head | apply Sel.tail)) (bvs_len1 _) | exact h.rws (L := L2) (by repeat (first | exact Sel.head | apply Sel.tail)) x (List.mem_of_getElem? hgx))) hS rfl rfl ?_)
                          clear hf; intro a hf
                          refine step_l (st_rdB hf (Wn.some hf rfl rfl rfl rfl) (rd_eqlS hf rfl rfl rfl) hS rfl rfl ?_ ?_)
                          · clear hf; intro hc9 a hf
                            first
                            | (first | exact Bool.noConfusion hc9 | exact absurd rfl hc9; done)
                            | (
                              refine step_l (st_rd hf (Wn.none rfl) (rd_pick_t hf rfl rfl rfl) hS rfl rfl ?_)
                              clear hf; intro a hf
                              refine step_l (st_rd hf (Wn.none rfl) (rd_move hf rfl rfl) hS rfl rfl ?_)
                              clear hf; intro a hf
                              refine step_l (st_rd hf (Wn.some hf rfl rfl rfl rfl) (rd_move hf rfl rfl) hS rfl rfl ?_)
                              clear hf; intro a hf
                              refine step_l (st_call hf (Wn.some hf rfl rfl rfl rfl) rfl rfl rfl fn26 (DSize_c _ _ _ _ (hS.sel (by repeat (first | exact Sel.head | apply Sel.tail)))) rfl rfl ?_)
                              clear hf hS; rintro v a w ⟨rfl, hS⟩ hf
                              refine step_l (st_rd hf (Wn.some hf rfl rfl rfl rfl) (rd_eql hf rfl rfl rfl) hS rfl rfl ?_)
                              clear hf; intro a hf
                              refine step_l (st_rd hf (Wn.none rfl) (rd_pick_t hf rfl rfl rfl) hS rfl rfl ?_)
                              clear hf; intro a hf
                              refine step_l (st_rd hf (Wn.none rfl) (rd_assign hf rfl rfl) hS rfl rfl ?_)
                              clear hf; intro a hf
                              refine done_l ?_
                              refine t_normal ?_
                              refine c_ret ?_
                              refine e_res1 hf.defers rfl (res_tmp hf rfl .nil) ?_
                              exact ⟨rfl, hS.sub (by repeat (first | exact Sub.refl | exact Sub.none | exact Sub.behind | (apply Sub.cons; (focus ((repeat (first | exact Sel.head | apply Sel.tail)); done))) | apply Sub.skip))⟩
                              )
                          · clear hf; intro hc9 a hf
                            exact absurd hx hc9
                          )
                      · clear hf; intro hc8 a hf
                        exact absurd (by omega) hc8
                      )
                  · clear hf; intro hc7 a hf
                    first
                    | (first | exact Bool.noConfusion hc7 | exact absurd rfl hc7; done)
                    | (
                      refine step_l (st_rd hf (Wn.none rfl) (rd_pick_t hf rfl rfl rfl) hS rfl rfl ?_)
                      clear hf; intro a hf
                      refine step_l (st_rd hf (Wn.none rfl) (rd_move hf rfl rfl) hS rfl rfl ?_)
                      clear hf; intro a hf
                      refine step_l (st_skip hf (Wn.some hf rfl rfl rfl rfl) rfl rfl ?_)
                      clear hf; intro a hf
                      refine step_l (st_skip hf (Wn.some hf rfl rfl rfl rfl) rfl rfl ?_)
                      clear hf; intro a hf
                      refine step_l (st_skip hf (Wn.some hf rfl rfl rfl rfl) rfl rfl ?_)
                      clear hf; intro a hf
                      refine step_l (st_rd hf (Wn.none rfl) (rd_pick_f hf rfl rfl rfl) hS rfl rfl ?_)
                      clear hf; intro a hf
                      refine step_l (st_rd hf (Wn.none rfl) (rd_move hf rfl rfl) hS rfl rfl ?_)
                      clear hf; intro a hf
                      refine step_l (st_skip hf (Wn.some hf rfl rfl rfl rfl) rfl rfl ?_)
                      clear hf; intro a hf
                      refine step_l (st_skip hf (Wn.some hf rfl rfl rfl rfl) rfl rfl ?_)
                      clear hf; intro a hf
                      refine step_l (st_skip hf (Wn.some hf rfl rfl rfl rfl) rfl rfl ?_)
                      clear hf; intro a hf
                      refine step_l (st_skip hf (Wn.some hf rfl rfl rfl rfl) rfl rfl ?_)
                      clear hf; intro a hf
                      refine step_l (st_skip hf (Wn.some hf rfl rfl rfl rfl) rfl rfl ?_)
                      clear hf; intro a hf
                      refine step_l (st_rd hf (Wn.none rfl) (rd_pick_f hf rfl rfl rfl) hS rfl rfl ?_)
                      clear hf; intro a hf
                      refine step_l (st_rd hf (Wn.none rfl) (rd_move hf rfl rfl) hS rfl rfl ?_)
                      clear hf; intro a hf
                      refine step_l (st_skip hf (Wn.some hf rfl rfl rfl rfl) rfl rfl ?_)
                      clear hf; intro a hf
                      refine step_l (st_skip hf (Wn.some hf rfl rfl rfl rfl) rfl rfl ?_)
                      clear hf; intro a hf
                      refine step_l (st_skip hf (Wn.some hf rfl rfl rfl rfl) rfl rfl ?_)
                      clear hf; intro a hf
                      refine step_l (st_rd hf (Wn.none rfl) (rd_pick_f hf rfl rfl rfl) hS rfl rfl ?_)
                      clear hf; intro a hf
                      refine step_l (st_rd hf (Wn.none rfl) (rd_assign hf rfl rfl) hS rfl rfl ?_)
                      clear hf; intro a hf
                      refine done_l ?_
                      refine t_normal ?_
                      refine c_ret ?_
                      refine e_res1 hf.defers rfl (res_tmp hf rfl .nil) ?_
                      exact ⟨rfl, hS.sub (by repeat (first | exact Sub.refl | exact Sub.none | exact Sub.behind | (apply Sub.cons; (focus ((repeat (first | exact Sel.head | apply Sel.tail)); done))) | apply Sub.skip))⟩
                      )
                  )
              · clear hf; intro hc6 a hf
                exact absurd rfl hc6
              )
          )
      )

theorem small_c (L : List (Sli UInt8)) (ql : Option Addr) (nl cl : Nat) {W : World} {R : List HP} {w : World} (hS : Sat W (R) w) (hnl : nl = L.length) (hl9 : L.length ≤ 9223372036854775806) (hv : ∀ w, Sat W R w → BB w ql L) : Calls Try.prog 13 [.slice ql nl cl].toArray w (Ret fun v w' => ∃ q cap, v = .slice q (smallW L).length cap ∧ Sat W (Rw 23 1 q (smallW L).length cap ((smallW L).map sval) :: R) w') := by
  refine fn_start 26 Try.func13 rfl rfl rfl ?_
  intro a hf
  subst hnl
  refine c_seq ?_
  refine c_region ?_
  refine step_l (st_rd hf (Wn.none rfl) (rd_assign hf rfl rfl) hS rfl rfl ?_)
  clear hf; intro a hf
  refine done_l ?_
  refine t_normal ?_
  refine c_seq ?_
  refine c_region ?_
  refine step_l (st_rd hf (Wn.none rfl) (rd_assign hf rfl rfl) hS rfl rfl ?_)
  clear hf; intro a hf
  refine done_l ?_
  refine t_normal ?_
  refine c_seq ?_
  refine c_seq ?_
  refine c_region ?_
  refine step_l (st_rd hf (Wn.none rfl) (rd_move hf rfl rfl) hS rfl rfl ?_)
  clear hf; intro a hf
  refine step_l (st_rd hf (Wn.none rfl) (rd_len hf rfl rfl Try.underlying22) hS rfl rfl ?_)
  clear hf; intro a hf
  refine step_l (st_rd hf (Wn.none rfl) (rd_move hf rfl rfl) hS rfl rfl ?_)
  clear hf; intro a hf
  refine done_l ?_
  refine t_normal ?_
  refine c_block ?_
  have hk0 := Keep.of hf [(3, 5), (8, 24)] (by repeat (first | exact Keep.nil | apply Keep.drop rfl | apply Keep.take rfl))
  refine c_loopK hk0 (α := Nat × Option Addr × Nat × Nat) (fun ⟨k, q, n, cap⟩ => [(3, .slice q n cap), (8, .int .i64 (k : Nat))]) (fun ⟨k, q, n, cap⟩ w => Sat W (Rw 23 1 q n cap ((smallW (L.take k)).map sval) :: R) w ∧ k ≤ L.length ∧ n = (smallW (L.take k)).length) (fun ⟨k, q, n, cap⟩ => L.length - k) (0, none, 0, 0) (((hf.keep hk0).kb hf 8 rfl (by first | rfl | exact int_eq (by omega))).kb hf 3 rfl (by first | rfl | exact int_eq (by omega))) ⟨(hS.rwNil 23 1).sub (by repeat (first | exact Sub.refl | exact Sub.none | exact Sub.behind | (apply Sub.cons; (focus ((repeat (first | exact Sel.head | apply Sel.tail)); done))) | apply Sub.skip)), ⟨by omega, rfl⟩⟩ ?_
  clear hf hS; rintro ⟨k, q, n, cap⟩ a w hf ⟨hS, ⟨hk, hn⟩⟩; (try dsimp only [List.cons_append, List.nil_append] at hf)
  refine c_seq ?_
  refine c_region ?_
  refine step_l (st_rdB hf (Wn.none rfl) (rd_lss hf rfl rfl rfl) hS rfl rfl ?_ ?_)
  · clear hf; intro hc1 a hf
    obtain ⟨x, hget⟩ := get_of_lt (l := L) (k := k) (by omega) rfl; obtain ⟨ad, rfl⟩ := (hv _ (hS.sub (by repeat (first | exact Sub.refl | exact Sub.none | exact Sub.behind | (apply Sub.cons; (focus ((repeat (first | exact Sel.head | apply Sel.tail)); done))) | apply Sub.skip)))).at'.some (by omega); have hsl := smallW_len (L.take k)
    refine done_l ?_
    refine t_normal ?_
    refine c_seq ?_
    refine c_true hf rfl ?_
    refine c_skip ?_
    refine t_normal ?_
    refine c_seq ?_
    refine c_block ?_
    refine c_seq ?_
    refine c_region ?_
    refine step_l (st_rd hf (Wn.none rfl) (rd_move hf rfl rfl) hS rfl rfl ?_)
    clear hf; intro a hf
    refine step_l (st_rd hf (Wn.none rfl) ((by first | exact rd_indexAddrN1 hf rfl rfl rfl Try.underlying22 sz23 (by omega) | exact rd_indexAddr hf rfl rfl rfl Try.underlying22 sz23 (by first | decide | omega) (by omega))) hS rfl rfl ?_)
    clear hf; intro a hf
    refine step_l (st_rd hf (Wn.none rfl) (rd_load1 hf rfl rfl ag23 (by intro _ h; exact (hv _ (h.sub (by repeat (first | exact Sub.refl | exact Sub.none | exact Sub.behind | (apply Sub.cons; (focus ((repeat (first | exact Sel.head | apply Sel.tail)); done))) | apply Sub.skip)))).get hget)) hS rfl rfl ?_)
    clear hf; intro a hf
    refine step_l (st_rd hf (Wn.none rfl) (rd_assign hf rfl rfl) hS rfl rfl ?_)
    clear hf; intro a hf
    refine step_l (st_rd hf (Wn.none rfl) (rd_assign hf rfl rfl) hS rfl rfl ?_)
    clear hf; intro a hf
    refine done_l ?_
    refine t_normal ?_
    refine c_seq ?_
    refine c_region ?_
    refine step_l (st_rd hf (Wn.none rfl) (rd_move hf rfl rfl) hS rfl rfl ?_)
    clear hf; intro a hf
    refine step_l (st_rdB hf (Wn.none rfl) (rd_lss hf rfl rfl rfl) hS rfl rfl ?_ ?_)
    · clear hf; intro hc2 a hf
      refine step_l (st_rd hf (Wn.none rfl) (rd_move hf rfl rfl) hS rfl rfl ?_)
      clear hf; intro a hf
      refine step_l (st_rd hf (Wn.some hf rfl rfl rfl rfl) (rd_move hf rfl rfl) hS rfl rfl ?_)
      clear hf; intro a hf
      refine step_l (st_rd hf (Wn.some hf rfl rfl rfl rfl) (rd_len hf rfl rfl Try.underlying23) hS rfl rfl ?_)
      clear hf; intro a hf
      refine step_l (st_rdB hf (Wn.some hf rfl rfl rfl rfl) (rd_leq hf rfl rfl rfl) hS rfl rfl ?_ ?_)
      · clear hf; intro hc3 a hf
        have e5 := (smallW_get hget).trans (if_pos ⟨by omega, by omega⟩)
        refine step_l (st_rd hf (Wn.none rfl) (rd_pick_t hf rfl rfl rfl) hS rfl rfl ?_)
        clear hf; intro a hf
        refine done_l ?_
        refine t_normal ?_
        refine c_true hf rfl ?_
        refine c_region ?_
        refine step_l (st_rd hf (Wn.none rfl) (rd_move hf rfl rfl) hS rfl rfl ?_)
        clear hf; intro a hf
        refine step_l (st_rd hf (Wn.none rfl) (rd_move hf rfl rfl) hS rfl rfl ?_)
        clear hf; intro a hf
        refine step_l (st_buildSlice hf (Wn.none rfl) hS rfl rfl Try.underlying22 sz23 zr23 (by decide) bz23_1 rfl (.cons rfl (by first | rfl) (by rfl) (by repeat (first | exact Put.nil | apply Put.cons | apply Put.succ)) .nil) rfl rfl ?_)
        clear hf hS; intro b_4 a w hf hS
        refine step_l (st_append hf (Wn.none rfl) rfl rfl rfl Try.underlying22 tyb23 (by rfl) (by decide) hS (by repeat (first | exact Sel.head | apply Sel.tail)) (by first | exact hS.slOfBlk (by repeat (first | exact Sel.head | apply Sel.tail)) (by rfl) | exact hS.slOfBlkPre (by repeat (first | exact Sel.head | apply Sel.tail)) (bvs_len1 _) | exact hS.slOfRw (by repeat (first | exact Sel.head | apply Sel.tail)) | exact SlAt.nil _ _ _) (by first | rfl | exact bvs_one _ | (simp [Value.oneCell']; done) | exact svs_one _) (by omega) rfl rfl ?_)
        clear hf hS; intro pA capA a w hf hS hnilA
        refine step_l (st_rd hf (Wn.none rfl) (rd_assign hf rfl rfl) hS rfl rfl ?_)
        clear hf; intro a hf
        refine done_l ?_
        refine b_normal ?_
        refine t_normal ?_
        refine c_region ?_
        refine step_l (st_rd hf (Wn.none rfl) (rd_add hf rfl rfl rfl (by first | exact Go.IntWalk.i64_in _ (by omega) | exact rfl)) hS rfl rfl ?_)
        clear hf; intro a hf
        refine step_l (st_rd hf (Wn.none rfl) (rd_move hf rfl rfl) hS rfl rfl ?_)
        clear hf; intro a hf
        refine done_l ?_
        refine t_normal ⟨(k + 1, pA, n + 1, capA), (((hf.back (by repeat (first | exact Behind.refl | refine Behind.skip rfl ?_)) hk0).kb hf 8 rfl (by first | rfl | exact int_eq (by omega))).kb hf 3 rfl (by first | rfl | exact int_eq (by omega))), ⟨((hS.sel (by repeat (first | exact Sel.head | apply Sel.tail)) : Sat W (Rw 23 1 pA (n + 1) capA _ :: _) _).rwCast (xs' := (smallW (L.take (k + 1))).map sval) (by rw [e5]; simp) rfl).sub (by repeat (first | exact Sub.refl | exact Sub.none | exact Sub.behind | (apply Sub.cons; (focus ((repeat (first | exact Sel.head | apply Sel.tail)); done))) | apply Sub.skip)), ⟨by omega, by rw [e5, List.length_append, hn]; rfl⟩⟩, by first | omega | (simp only []; omega)⟩
      · clear hf; intro hc3 a hf
        have e5 := (smallW_get hget).trans (if_neg (fun hh => by omega))
        refine step_l (st_rd hf (Wn.none rfl) (rd_pick_t hf rfl rfl rfl) hS rfl rfl ?_)
        clear hf; intro a hf
        refine done_l ?_
        refine t_normal ?_
        refine c_false hf rfl ?_
        refine c_skip ?_
        refine b_normal ?_
        refine t_normal ?_
        refine c_region ?_
        refine step_l (st_rd hf (Wn.none rfl) (rd_add hf rfl rfl rfl (by first | exact Go.IntWalk.i64_in _ (by omega) | exact rfl)) hS rfl rfl ?_)
        clear hf; intro a hf
        refine step_l (st_rd hf (Wn.none rfl) (rd_move hf rfl rfl) hS rfl rfl ?_)
        clear hf; intro a hf
        refine done_l ?_
        refine t_normal ⟨(k + 1, q, n, cap), (((hf.back (by repeat (first | exact Behind.refl | refine Behind.skip rfl ?_)) hk0).kb hf 8 rfl (by first | rfl | exact int_eq (by omega))).kb hf 3 rfl (by first | rfl | exact int_eq (by omega))), ⟨(by rw [e5]; exact hS.sub (by repeat (first | exact Sub.refl | exact Sub.none | exact Sub.behind | (apply Sub.cons; (focus ((repeat (first | exact Sel.head | apply Sel.tail)); done))) | apply Sub.skip))), ⟨by omega, by rw [e5, hn]⟩⟩, by first | omega | (simp only []; omega)⟩
    · clear hf; intro hc2 a hf
      have e5 := (smallW_get hget).trans (if_neg (fun hh => by omega))
      refine step_l (st_rd hf (Wn.none rfl) (rd_move hf rfl rfl) hS rfl rfl ?_)
      clear hf; intro a hf
      refine step_l (st_skip hf (Wn.some hf rfl rfl rfl rfl) rfl rfl ?_)
      clear hf; intro a hf
      refine step_l (st_skip hf (Wn.some hf rfl rfl rfl rfl) rfl rfl ?_)
      clear hf; intro a hf
      refine step_l (st_skip hf (Wn.some hf rfl rfl rfl rfl) rfl rfl ?_)
      clear hf; intro a hf
      refine step_l (st_rd hf (Wn.none rfl) (rd_pick_f hf rfl rfl rfl) hS rfl rfl ?_)
      clear hf; intro a hf
      refine done_l ?_
      refine t_normal ?_
      refine c_false hf rfl ?_
      refine c_skip ?_
      refine b_normal ?_
      refine t_normal ?_
      refine c_region ?_
      refine step_l (st_rd hf (Wn.none rfl) (rd_add hf rfl rfl rfl (by first | exact Go.IntWalk.i64_in _ (by omega) | exact rfl)) hS rfl rfl ?_)
      clear hf; intro a hf
      refine step_l (st_rd hf (Wn.none rfl) (rd_move hf rfl rfl) hS rfl rfl ?_)
      clear hf; intro a hf
      refine done_l ?_
      refine t_normal ⟨(k + 1, q, n, cap), (((hf.back (by repeat (first | exact Behind.refl | refine Behind.skip rfl ?_)) hk0).kb hf 8 rfl (by first | rfl | exact int_eq (by omega))).kb hf 3 rfl (by first | rfl | exact int_eq (by omega))), ⟨(by rw [e5]; exact hS.sub (by repeat (first | exact Sub.refl | exact Sub.none | exact Sub.behind | (apply Sub.cons; (focus ((repeat (first | exact Sel.head | apply Sel.tail)); done))) | apply Sub.skip))), ⟨by omega, by rw [e5, hn]⟩⟩, by first | omega | (simp only []; omega)⟩
  · clear hf; intro hc1 a hf
    obtain rfl : k = L.length := by omega
    rw [List.take_length] at hS hn; subst hn
    refine done_l ?_
    refine t_normal ?_
    refine c_seq ?_
    refine c_false hf rfl ?_
    refine c_exit ?_
    refine t_exit ?_
    refine t_exit ?_
    refine b_exit ?_
    refine t_normal ?_
    refine c_seq ?_
    refine c_region ?_
    refine step_l (st_rd hf (Wn.none rfl) (rd_move hf rfl rfl) hS rfl rfl ?_)
    clear hf; intro a hf
    refine step_l (st_rd hf (Wn.none rfl) (rd_assign hf rfl rfl) hS rfl rfl ?_)
    clear hf; intro a hf
    refine done_l ?_
    refine t_normal ?_
    refine c_ret ?_
    refine e_res1 hf.defers rfl (res_tmp hf rfl .nil) ?_
    exact ⟨_, _, rfl, hS.sub (by repeat (first | exact Sub.refl | exact Sub.none | exact Sub.behind | (apply Sub.cons; (focus ((repeat (first | exact Sel.head | apply Sel.tail)); done))) | apply Sub.skip))⟩

theorem size_c (L : List (Sli UInt8)) (ql : Option Addr) (nl cl : Nat) {W : World} {R : List HP} {w : World} (hS : Sat W (R) w) (hnl : nl = L.length) (hl9 : (frs (byts L)).length ≤ 9223372036854775806) (hl8 : L.length ≤ 9223372036854775806) (hv : ∀ w, Sat W R w → BB w ql L) : Calls Try.prog 28 [.slice ql nl cl].toArray w (Ret fun v w' => v = .int .i64 (((frs (byts L)).length : Nat) : Int) ∧ Sat W R w') := by
  refine fn_start 19 Try.func28 rfl rfl rfl ?_
  intro a hf
  subst hnl
  refine c_seq ?_
  refine c_region ?_
  refine step_l (st_rd hf (Wn.none rfl) (rd_assign hf rfl rfl) hS rfl rfl ?_)
  clear hf; intro a hf
  refine done_l ?_
  refine t_normal ?_
  refine c_seq ?_
  refine c_region ?_
  refine step_l (st_rd hf (Wn.none rfl) (rd_assign hf rfl rfl) hS rfl rfl ?_)
  clear hf; intro a hf
  refine done_l ?_
  refine t_normal ?_
  refine c_seq ?_
  refine c_seq ?_
  refine c_region ?_
  refine step_l (st_rd hf (Wn.none rfl) (rd_move hf rfl rfl) hS rfl rfl ?_)
  clear hf; intro a hf
  refine step_l (st_rd hf (Wn.none rfl) (rd_len hf rfl rfl Try.underlying22) hS rfl rfl ?_)
  clear hf; intro a hf
  refine step_l (st_rd hf (Wn.none rfl) (rd_move hf rfl rfl) hS rfl rfl ?_)
  clear hf; intro a hf
  refine done_l ?_
  refine t_normal ?_
  refine c_block ?_
  have hk0 := Keep.of hf [(3, 3), (5, 5), (8, 17)] (by repeat (first | exact Keep.nil | apply Keep.drop rfl | apply Keep.take rfl))
  refine c_loopK hk0 (α := Nat) (fun k => [(3, .int .i64 (((frs ((byts L).take k)).length : Nat) : Int)), (8, .int .i64 (k : Nat))]) (fun k w => Sat W (R) w ∧ k ≤ L.length) (fun k => L.length - k) 0 (((hf.keep hk0).kb hf 8 rfl (by first | rfl | exact int_eq (by omega))).kb hf 3 rfl (by first | rfl | exact int_eq (by omega))) ⟨hS.sub (by repeat (first | exact Sub.refl | exact Sub.none | exact Sub.behind | (apply Sub.cons; (focus ((repeat (first | exact Sel.head | apply Sel.tail)); done))) | apply Sub.skip)), by omega⟩ ?_
  clear hf hS; rintro k a w hf ⟨hS, hk⟩; (try dsimp only [List.cons_append, List.nil_append] at hf)
  refine c_seq ?_
  refine c_region ?_
  refine step_l (st_rdB hf (Wn.none rfl) (rd_lss hf rfl rfl rfl) hS rfl rfl ?_ ?_)
  · clear hf; intro hc1 a hf
    obtain ⟨x, hget⟩ := get_of_lt (l := L) (k := k) (by omega) rfl; obtain ⟨ad, rfl⟩ := (hv _ (hS.sub (by repeat (first | exact Sub.refl | exact Sub.none | exact Sub.behind | (apply Sub.cons; (focus ((repeat (first | exact Sel.head | apply Sel.tail)); done))) | apply Sub.skip)))).at'.some (by omega); have hst : (frs ((byts L).take (k + 1))).length = (frs ((byts L).take k)).length + (x.2.2.length + 8) := by rw [frs_step hget, List.length_append, frB_len]
    have hfle := frs_le (byts L) (k + 1)
    refine done_l ?_
    refine t_normal ?_
    refine c_seq ?_
    refine c_true hf rfl ?_
    refine c_skip ?_
    refine t_normal ?_
    refine c_seq ?_
    refine c_block ?_
    refine c_seq ?_
    refine c_region ?_
    refine step_l (st_rd hf (Wn.none rfl) ((by first | exact rd_indexAddrN1 hf rfl rfl rfl Try.underlying22 sz23 (by omega) | exact rd_indexAddr hf rfl rfl rfl Try.underlying22 sz23 (by first | decide | omega) (by omega))) hS rfl rfl ?_)
    clear hf; intro a hf
    refine step_l (st_rd hf (Wn.none rfl) (rd_load1 hf rfl rfl ag23 (by intro _ h; exact (hv _ (h.sub (by repeat (first | exact Sub.refl | exact Sub.none | exact Sub.behind | (apply Sub.cons; (focus ((repeat (first | exact Sel.head | apply Sel.tail)); done))) | apply Sub.skip)))).get hget)) hS rfl rfl ?_)
    clear hf; intro a hf
    refine step_l (st_rd hf (Wn.none rfl) (rd_assign hf rfl rfl) hS rfl rfl ?_)
    clear hf; intro a hf
    refine done_l ?_
    refine t_normal ?_
    refine c_region ?_
    refine step_l (st_rd hf (Wn.none rfl) (rd_move hf rfl rfl) hS rfl rfl ?_)
    clear hf; intro a hf
    refine step_l (st_rd hf (Wn.none rfl) (rd_move hf rfl rfl) hS rfl rfl ?_)
    clear hf; intro a hf
    refine step_l (st_rd hf (Wn.none rfl) (rd_len hf rfl rfl Try.underlying23) hS rfl rfl ?_)
    clear hf; intro a hf
    refine step_l (st_rd hf (Wn.none rfl) (rd_add hf rfl rfl rfl (by first | exact Go.IntWalk.i64_in _ (by omega) | exact rfl)) hS rfl rfl ?_)
    clear hf; intro a hf
    refine step_l (st_rd hf (Wn.none rfl) (rd_add hf rfl rfl rfl (by first | exact Go.IntWalk.i64_in _ (by omega) | exact rfl)) hS rfl rfl ?_)
    clear hf; intro a hf
    refine step_l (st_rd hf (Wn.none rfl) (rd_assign hf rfl rfl) hS rfl rfl ?_)
    clear hf; intro a hf
    refine done_l ?_
    refine b_normal ?_
    refine t_normal ?_
    refine c_region ?_
    refine step_l (st_rd hf (Wn.none rfl) (rd_add hf rfl rfl rfl (by first | exact Go.IntWalk.i64_in _ (by omega) | exact rfl)) hS rfl rfl ?_)
    clear hf; intro a hf
    refine step_l (st_rd hf (Wn.none rfl) (rd_move hf rfl rfl) hS rfl rfl ?_)
    clear hf; intro a hf
    refine done_l ?_
    refine t_normal ⟨k + 1, (((hf.back (by repeat (first | exact Behind.refl | refine Behind.skip rfl ?_)) hk0).kb hf 8 rfl (by first | rfl | exact int_eq (by omega))).kb hf 3 rfl (by rw [hst]; rfl)), ⟨hS.sub (by repeat (first | exact Sub.refl | exact Sub.none | exact Sub.behind | (apply Sub.cons; (focus ((repeat (first | exact Sel.head | apply Sel.tail)); done))) | apply Sub.skip)), by omega⟩, by first | omega | (simp only []; omega)⟩
  · clear hf; intro hc1 a hf
    obtain rfl : k = L.length := by omega
    rw [byts_all] at hf
    refine done_l ?_
    refine t_normal ?_
    refine c_seq ?_
    refine c_false hf rfl ?_
    refine c_exit ?_
    refine t_exit ?_
    refine t_exit ?_
    refine b_exit ?_
    refine t_normal ?_
    refine c_seq ?_
    refine c_region ?_
    refine step_l (st_rd hf (Wn.none rfl) (rd_move hf rfl rfl) hS rfl rfl ?_)
    clear hf; intro a hf
    refine step_l (st_rd hf (Wn.none rfl) (rd_assign hf rfl rfl) hS rfl rfl ?_)
    clear hf; intro a hf
    refine done_l ?_
    refine t_normal ?_
    refine c_ret ?_
    refine e_res1 hf.defers rfl (res_tmp hf rfl .nil) ?_
    exact ⟨rfl, hS.sub (by repeat (first | exact Sub.refl | exact Sub.none | exact Sub.behind | (apply Sub.cons; (focus ((repeat (first | exact Sel.head | apply Sel.tail)); done))) | apply Sub.skip))⟩

end Go.Proofs.Ytiibgekphgmjcaa
