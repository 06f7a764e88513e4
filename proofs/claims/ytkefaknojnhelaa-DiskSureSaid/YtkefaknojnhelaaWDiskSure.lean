/-
  The statement DiskSure, walked.
  Conditions: none.
-/
import Derived.Test.YtkefaknojnhelaaDisk1
namespace Go.Proofs.Ytkefaknojnhelaa
open Go Go.Sl
set_option linter.unusedVariables false
set_option linter.unusedSimpArgs false
theorem ag42 : aggO Try.prog 42 = some true := by kernel_rfl
theorem fb42_0 : fieldB Try.prog 42 0 0 = true := by kernel_rfl
theorem fb42_1 : fieldB Try.prog 42 1 1 = true := by kernel_rfl
theorem fb42_2 : fieldB Try.prog 42 2 2 = true := by kernel_rfl
theorem fn13 : fnB Try.prog 13 = true := by kernel_rfl
theorem fn16 : fnB Try.prog 16 = true := by kernel_rfl
theorem fn17 : fnB Try.prog 17 = true := by kernel_rfl
theorem fn18 : fnB Try.prog 18 = true := by kernel_rfl
theorem fn19 : fnB Try.prog 19 = true := by kernel_rfl
theorem fn20 : fnB Try.prog 20 = true := by kernel_rfl
theorem sz42 : (Try.prog.info? 42).map (·.size) = some 3 := by kernel_rfl
theorem zr42 : (Try.prog.info? 42).bind (·.zero) = some (.agg #[.int .i64 0, .int .i64 0, .slice none 0 0]) := by kernel_rfl
set_option maxHeartbeats 2000000 in
theorem DiskSure_c (ta : List UInt8) (qta : Option Addr) (capta : Nat) (tb : List UInt8) (qtb : Option Addr) (captb : Nat) (tc : List UInt8) (qtc : Option Addr) (captc : Nat) (picks : List Int) (qp : Option Addr) (capp : Nat) {W : World} {R : List HP} {w : World} (hS : Sat W (R) w) (hta : ta.length ≤ 140737488351232) (hvta : ∀ w, Sat W R w → SlAt w qta ta.length 1 (bvs ta)) (htb : tb.length ≤ 140737488351232) (hvtb : ∀ w, Sat W R w → SlAt w qtb tb.length 1 (bvs tb)) (htc : tc.length ≤ 140737488351232) (hvtc : ∀ w, Sat W R w → SlAt w qtc tc.length 1 (bvs tc)) (hcp : picks.length ≤ capp) (hmx : capp ≤ 4503599627370495) (hvp : ∀ w, Sat W R w → SlAt w qp picks.length 1 (picks.flatMap fun n : Int => [.int .i64 n])) : Calls Try.prog 3 [.slice qta ta.length capta, .slice qtb tb.length captb, .slice qtc tc.length captc, .slice qp picks.length capp].toArray w (Ret fun v w' => v = .bool true ∧ Sat W R w') := by
  refine fn_start 118 Try.func3 rfl rfl rfl ?_
  intro a hf
  have hall : (ta ++ tb ++ tc).length = ta.length + tb.length + tc.length := by rw [List.length_append, List.length_append]
  refine c_seq ?_
  refine c_region ?_
  refine step_l (st_rd hf (Wn.none rfl) (rd_assign hf rfl rfl) hS rfl rfl ?_)
  clear hf; intro a hf
  refine done_l ?_
  refine t_normal ?_
  refine c_seq ?_
  refine c_region ?_
  refine step_l (st_call hf (Wn.none rfl) rfl rfl rfl fn10 (DNew_c _ hS) rfl rfl ?_)
  clear hf hS; rintro v a w ⟨pd, rfl, hS⟩ hf; rw [show max 0 (min 1000000 1048576) = (1000000 : Int) from by decide] at hS
  refine step_l (st_rd hf (Wn.none rfl) (rd_assign hf rfl rfl) hS rfl rfl ?_)
  clear hf; intro a hf
  refine done_l ?_
  refine t_normal ?_
  refine c_seq ?_
  refine c_seq ?_
  refine c_region ?_
  refine step_l (st_rd hf (Wn.none rfl) (rd_move hf rfl rfl) hS rfl rfl ?_)
  clear hf; intro a hf
  refine step_l (st_rd hf (Wn.none rfl) (rd_len hf rfl rfl Try.underlying22) hS rfl rfl ?_)
  clear hf; intro a hf
  refine step_l (st_rd hf (Wn.none rfl) (rd_move hf rfl rfl) hS rfl rfl ?_)
  clear hf; intro a hf
  refine step_l (st_rd hf (Wn.none rfl) (rd_len hf rfl rfl Try.underlying22) hS rfl rfl ?_)
  clear hf; intro a hf
  refine step_l (st_rd hf (Wn.none rfl) (rd_add hf rfl rfl rfl (by first | exact Go.IntWalk.i64_in _ (by omega) | exact rfl)) hS rfl rfl ?_)
  clear hf; intro a hf
  refine step_l (st_rd hf (Wn.none rfl) (rd_move hf rfl rfl) hS rfl rfl ?_)
  clear hf; intro a hf
  refine step_l (st_rd hf (Wn.none rfl) (rd_len hf rfl rfl Try.underlying22) hS rfl rfl ?_)
  clear hf; intro a hf
  refine step_l (st_rd hf (Wn.none rfl) (rd_add hf rfl rfl rfl (by first | exact Go.IntWalk.i64_in _ (by omega) | exact rfl)) hS rfl rfl ?_)
  clear hf; intro a hf
  refine step_l (st_rdB hf (Wn.none rfl) (rd_gtr hf rfl rfl rfl) hS rfl rfl ?_ ?_)
  · clear hf; intro hc1 a hf
    first
    | (first | exact absurd rfl hc1 | exact Bool.noConfusion hc1 | exact absurd hc1 (by omega) | exact absurd (by omega) hc1 | exact absurd (by rw [Int.toNat_natCast, hlt]; exact htt) hc1; done)
    | (
      refine step_l (st_rd hf (Wn.none rfl) (rd_move hf rfl rfl) hS rfl rfl ?_)
      clear hf; intro a hf
      refine step_l (st_skip hf (Wn.some hf rfl rfl rfl rfl) rfl rfl ?_)
      clear hf; intro a hf
      refine step_l (st_skip hf (Wn.some hf rfl rfl rfl rfl) rfl rfl ?_)
      clear hf; intro a hf
      refine step_l (st_skip hf (Wn.some hf rfl rfl rfl rfl) rfl rfl ?_)
      clear hf; intro a hf
      refine step_l (st_skip hf (Wn.some hf rfl rfl rfl rfl) rfl rfl ?_)
      clear hf; intro a hf
      refine step_l (st_rd hf (Wn.none rfl) (rd_pick_t hf rfl rfl rfl) hS rfl rfl ?_)
      clear hf; intro a hf
      refine step_l (st_rd hf (Wn.none rfl) (rd_move hf rfl rfl) hS rfl rfl ?_)
      clear hf; intro a hf
      refine step_l (st_skip hf (Wn.some hf rfl rfl rfl rfl) rfl rfl ?_)
      clear hf; intro a hf
      refine step_l (st_skip hf (Wn.some hf rfl rfl rfl rfl) rfl rfl ?_)
      clear hf; intro a hf
      refine step_l (st_skip hf (Wn.some hf rfl rfl rfl rfl) rfl rfl ?_)
      clear hf; intro a hf
      refine step_l (st_rd hf (Wn.none rfl) (rd_pick_t hf rfl rfl rfl) hS rfl rfl ?_)
      clear hf; intro a hf
      refine step_l (st_rd hf (Wn.none rfl) (rd_move hf rfl rfl) hS rfl rfl ?_)
      clear hf; intro a hf
      refine step_l (st_skip hf (Wn.some hf rfl rfl rfl rfl) rfl rfl ?_)
      clear hf; intro a hf
      refine step_l (st_skip hf (Wn.some hf rfl rfl rfl rfl) rfl rfl ?_)
      clear hf; intro a hf
      refine step_l (st_skip hf (Wn.some hf rfl rfl rfl rfl) rfl rfl ?_)
      clear hf; intro a hf
      refine step_l (st_skip hf (Wn.some hf rfl rfl rfl rfl) rfl rfl ?_)
      clear hf; intro a hf
      refine step_l (st_rd hf (Wn.none rfl) (rd_pick_t hf rfl rfl rfl) hS rfl rfl ?_)
      clear hf; intro a hf
      refine step_l (st_rd hf (Wn.none rfl) (rd_move hf rfl rfl) hS rfl rfl ?_)
      clear hf; intro a hf
      refine step_l (st_skip hf (Wn.some hf rfl rfl rfl rfl) rfl rfl ?_)
      clear hf; intro a hf
      refine step_l (st_skip hf (Wn.some hf rfl rfl rfl rfl) rfl rfl ?_)
      clear hf; intro a hf
      refine step_l (st_skip hf (Wn.some hf rfl rfl rfl rfl) rfl rfl ?_)
      clear hf; intro a hf
      refine step_l (st_skip hf (Wn.some hf rfl rfl rfl rfl) rfl rfl ?_)
      clear hf; intro a hf
      refine step_l (st_rd hf (Wn.none rfl) (rd_pick_t hf rfl rfl rfl) hS rfl rfl ?_)
      clear hf; intro a hf
      refine done_l ?_
      refine t_normal ?_
      refine c_true hf rfl ?_
      refine c_seq ?_
      refine c_region ?_
      refine step_l (st_rd hf (Wn.none rfl) (rd_move hf rfl rfl) hS rfl rfl ?_)
      clear hf; intro a hf
      refine step_l (st_rd hf (Wn.none rfl) (rd_len hf rfl rfl Try.underlying22) hS rfl rfl ?_)
      clear hf; intro a hf
      refine step_l (st_rd hf (Wn.none rfl) (rd_move hf rfl rfl) hS rfl rfl ?_)
      clear hf; intro a hf
      refine step_l (st_rd hf (Wn.none rfl) (rd_len hf rfl rfl Try.underlying22) hS rfl rfl ?_)
      clear hf; intro a hf
      refine step_l (st_rd hf (Wn.none rfl) (rd_add hf rfl rfl rfl (by first | exact Go.IntWalk.i64_in _ (by omega) | exact rfl)) hS rfl rfl ?_)
      clear hf; intro a hf
      refine step_l (st_rd hf (Wn.none rfl) (rd_move hf rfl rfl) hS rfl rfl ?_)
      clear hf; intro a hf
      refine step_l (st_rd hf (Wn.none rfl) (rd_len hf rfl rfl Try.underlying22) hS rfl rfl ?_)
      clear hf; intro a hf
      refine step_l (st_rd hf (Wn.none rfl) (rd_add hf rfl rfl rfl (by first | exact Go.IntWalk.i64_in _ (by omega) | exact rfl)) hS rfl rfl ?_)
      clear hf; intro a hf
      refine step_l (st_rdB hf (Wn.none rfl) (rd_gtr hf rfl rfl rfl) hS rfl rfl ?_ ?_)
      · clear hf; intro hc2 a hf
        first
        | (first | exact absurd rfl hc2 | exact Bool.noConfusion hc2 | exact absurd hc2 (by omega) | exact absurd (by omega) hc2 | exact absurd (by rw [Int.toNat_natCast, hlt]; exact htt) hc2; done)
        | (
          refine step_l (st_rd hf (Wn.none rfl) (rd_move hf rfl rfl) hS rfl rfl ?_)
          clear hf; intro a hf
          refine step_l (st_call hf (Wn.some hf rfl rfl rfl rfl) rfl rfl rfl fn13 (awake_c hS) rfl rfl ?_)
          clear hf hS; rintro v a w ⟨rfl, hS⟩ hf
          refine step_l (st_rd hf (Wn.none rfl) (rd_pick_t hf rfl rfl rfl) hS rfl rfl ?_)
          clear hf; intro a hf
          refine step_l (st_rd hf (Wn.none rfl) (rd_assign hf rfl rfl) hS rfl rfl ?_)
          clear hf; intro a hf
          refine done_l ?_
          refine t_normal ?_
          refine c_ret ?_
          refine t_ret ?_
          refine e_res1 hf.defers rfl (res_tmp hf rfl .nil) ?_
          exact ⟨rfl, hS.sub (by repeat (first | exact Sub.refl | exact Sub.none | exact Sub.behind | (apply Sub.cons; (focus ((repeat (first | exact Sel.head | apply Sel.tail)); done))) | apply Sub.skip))⟩
          )
      · clear hf; intro hc2 a hf
        first
        | (first | exact absurd rfl hc2 | exact Bool.noConfusion hc2 | exact absurd hc2 (by omega) | exact absurd (by omega) hc2 | exact absurd (by rw [Int.toNat_natCast, hlt]; exact htt) hc2; done)
        | (
          refine step_l (st_rd hf (Wn.none rfl) (rd_move hf rfl rfl) hS rfl rfl ?_)
          clear hf; intro a hf
          refine step_l (st_skip hf (Wn.some hf rfl rfl rfl rfl) rfl rfl ?_)
          clear hf; intro a hf
          refine step_l (st_rd hf (Wn.none rfl) (rd_pick_f hf rfl rfl rfl) hS rfl rfl ?_)
          clear hf; intro a hf
          refine step_l (st_rd hf (Wn.none rfl) (rd_assign hf rfl rfl) hS rfl rfl ?_)
          clear hf; intro a hf
          refine done_l ?_
          refine t_normal ?_
          refine c_ret ?_
          refine t_ret ?_
          refine e_res1 hf.defers rfl (res_tmp hf rfl .nil) ?_
          exact ⟨rfl, hS.sub (by repeat (first | exact Sub.refl | exact Sub.none | exact Sub.behind | (apply Sub.cons; (focus ((repeat (first | exact Sel.head | apply Sel.tail)); done))) | apply Sub.skip))⟩
          )
      )
  · clear hf; intro hc1 a hf
    first
    | (first | exact absurd rfl hc1 | exact Bool.noConfusion hc1 | exact absurd hc1 (by omega) | exact absurd (by omega) hc1 | exact absurd (by rw [Int.toNat_natCast, hlt]; exact htt) hc1; done)
    | (
      refine step_l (st_rd hf (Wn.none rfl) (rd_move hf rfl rfl) hS rfl rfl ?_)
      clear hf; intro a hf
      refine step_l (st_rd hf (Wn.some hf rfl rfl rfl rfl) (rd_move hf rfl rfl) hS rfl rfl ?_)
      clear hf; intro a hf
      refine step_l (st_rd hf (Wn.some hf rfl rfl rfl rfl) (rd_move hf rfl rfl) hS rfl rfl ?_)
      clear hf; intro a hf
      refine step_l (st_call hf (Wn.some hf rfl rfl rfl rfl) rfl rfl rfl fn11 (DAppend_c _ _ _ _ ta _ _ _ (hS.sel (by repeat (first | exact Sel.head | apply Sel.tail))) rfl (by omega) (by omega) (fun _ h => hvta _ (h.sub (by repeat (first | exact Sub.refl | exact Sub.none | exact Sub.behind | (apply Sub.cons; (focus ((repeat (first | exact Sel.head | apply Sel.tail)); done))) | apply Sub.skip))))) rfl rfl ?_)
      clear hf hS; rintro v a w ⟨hvr, hS⟩ hf; obtain ⟨hB, hE⟩ := dApp_fit (most := 1000000) (b := []) (x := ta) (by simp only [List.length_nil, List.length_append, List.nil_append]; omega); rw [hE] at hvr; rw [hB] at hS; subst hvr
      refine step_l (st_rdB hf (Wn.some hf rfl rfl rfl rfl) (rd_neq hf rfl rfl rfl) hS rfl rfl ?_ ?_)
      · clear hf; intro hc3 a hf
        first
        | (first | exact absurd rfl hc3 | exact Bool.noConfusion hc3 | exact absurd hc3 (by omega) | exact absurd (by omega) hc3 | exact absurd (by rw [Int.toNat_natCast, hlt]; exact htt) hc3; done)
        | (
          refine step_l (st_rd hf (Wn.none rfl) (rd_pick_f hf rfl rfl rfl) hS rfl rfl ?_)
          clear hf; intro a hf
          refine step_l (st_rd hf (Wn.none rfl) (rd_move hf rfl rfl) hS rfl rfl ?_)
          clear hf; intro a hf
          refine step_l (st_skip hf (Wn.some hf rfl rfl rfl rfl) rfl rfl ?_)
          clear hf; intro a hf
          refine step_l (st_skip hf (Wn.some hf rfl rfl rfl rfl) rfl rfl ?_)
          clear hf; intro a hf
          refine step_l (st_skip hf (Wn.some hf rfl rfl rfl rfl) rfl rfl ?_)
          clear hf; intro a hf
          refine step_l (st_rd hf (Wn.none rfl) (rd_pick_t hf rfl rfl rfl) hS rfl rfl ?_)
          clear hf; intro a hf
          refine step_l (st_rd hf (Wn.none rfl) (rd_move hf rfl rfl) hS rfl rfl ?_)
          clear hf; intro a hf
          refine step_l (st_skip hf (Wn.some hf rfl rfl rfl rfl) rfl rfl ?_)
          clear hf; intro a hf
          refine step_l (st_skip hf (Wn.some hf rfl rfl rfl rfl) rfl rfl ?_)
          clear hf; intro a hf
          refine step_l (st_skip hf (Wn.some hf rfl rfl rfl rfl) rfl rfl ?_)
          clear hf; intro a hf
          refine step_l (st_skip hf (Wn.some hf rfl rfl rfl rfl) rfl rfl ?_)
          clear hf; intro a hf
          refine step_l (st_rd hf (Wn.none rfl) (rd_pick_t hf rfl rfl rfl) hS rfl rfl ?_)
          clear hf; intro a hf
          refine step_l (st_rd hf (Wn.none rfl) (rd_move hf rfl rfl) hS rfl rfl ?_)
          clear hf; intro a hf
          refine step_l (st_skip hf (Wn.some hf rfl rfl rfl rfl) rfl rfl ?_)
          clear hf; intro a hf
          refine step_l (st_skip hf (Wn.some hf rfl rfl rfl rfl) rfl rfl ?_)
          clear hf; intro a hf
          refine step_l (st_skip hf (Wn.some hf rfl rfl rfl rfl) rfl rfl ?_)
          clear hf; intro a hf
          refine step_l (st_skip hf (Wn.some hf rfl rfl rfl rfl) rfl rfl ?_)
          clear hf; intro a hf
          refine step_l (st_rd hf (Wn.none rfl) (rd_pick_t hf rfl rfl rfl) hS rfl rfl ?_)
          clear hf; intro a hf
          refine done_l ?_
          refine t_normal ?_
          refine c_true hf rfl ?_
          refine c_seq ?_
          refine c_region ?_
          refine step_l (st_rd hf (Wn.none rfl) (rd_move hf rfl rfl) hS rfl rfl ?_)
          clear hf; intro a hf
          refine step_l (st_rd hf (Wn.none rfl) (rd_len hf rfl rfl Try.underlying22) hS rfl rfl ?_)
          clear hf; intro a hf
          refine step_l (st_rd hf (Wn.none rfl) (rd_move hf rfl rfl) hS rfl rfl ?_)
          clear hf; intro a hf
          refine step_l (st_rd hf (Wn.none rfl) (rd_len hf rfl rfl Try.underlying22) hS rfl rfl ?_)
          clear hf; intro a hf
          refine step_l (st_rd hf (Wn.none rfl) (rd_add hf rfl rfl rfl (by first | exact Go.IntWalk.i64_in _ (by omega) | exact rfl)) hS rfl rfl ?_)
          clear hf; intro a hf
          refine step_l (st_rd hf (Wn.none rfl) (rd_move hf rfl rfl) hS rfl rfl ?_)
          clear hf; intro a hf
          refine step_l (st_rd hf (Wn.none rfl) (rd_len hf rfl rfl Try.underlying22) hS rfl rfl ?_)
          clear hf; intro a hf
          refine step_l (st_rd hf (Wn.none rfl) (rd_add hf rfl rfl rfl (by first | exact Go.IntWalk.i64_in _ (by omega) | exact rfl)) hS rfl rfl ?_)
          clear hf; intro a hf
          refine step_l (st_rdB hf (Wn.none rfl) (rd_gtr hf rfl rfl rfl) hS rfl rfl ?_ ?_)
          · clear hf; intro hc4 a hf
            first
            | (first | exact absurd rfl hc4 | exact Bool.noConfusion hc4 | exact absurd hc4 (by omega) | exact absurd (by omega) hc4 | exact absurd (by rw [Int.toNat_natCast, hlt]; exact htt) hc4; done)
            | (
              refine step_l (st_rd hf (Wn.none rfl) (rd_move hf rfl rfl) hS rfl rfl ?_)
              clear hf; intro a hf
              refine step_l (st_call hf (Wn.some hf rfl rfl rfl rfl) rfl rfl rfl fn13 (awake_c hS) rfl rfl ?_)
              clear hf hS; rintro v a w ⟨rfl, hS⟩ hf
              refine step_l (st_rd hf (Wn.none rfl) (rd_pick_t hf rfl rfl rfl) hS rfl rfl ?_)
              clear hf; intro a hf
              refine step_l (st_rd hf (Wn.none rfl) (rd_assign hf rfl rfl) hS rfl rfl ?_)
              clear hf; intro a hf
              refine done_l ?_
              refine t_normal ?_
              refine c_ret ?_
              refine t_ret ?_
              refine e_res1 hf.defers rfl (res_tmp hf rfl .nil) ?_
              exact ⟨rfl, hS.sub (by repeat (first | exact Sub.refl | exact Sub.none | exact Sub.behind | (apply Sub.cons; (focus ((repeat (first | exact Sel.head | apply Sel.tail)); done))) | apply Sub.skip))⟩
              )
          · clear hf; intro hc4 a hf
            first
            | (first | exact absurd rfl hc4 | exact Bool.noConfusion hc4 | exact absurd hc4 (by omega) | exact absurd (by omega) hc4 | exact absurd (by rw [Int.toNat_natCast, hlt]; exact htt) hc4; done)
            | (
              refine step_l (st_rd hf (Wn.none rfl) (rd_move hf rfl rfl) hS rfl rfl ?_)
              clear hf; intro a hf
              refine step_l (st_skip hf (Wn.some hf rfl rfl rfl rfl) rfl rfl ?_)
              clear hf; intro a hf
              refine step_l (st_rd hf (Wn.none rfl) (rd_pick_f hf rfl rfl rfl) hS rfl rfl ?_)
              clear hf; intro a hf
              refine step_l (st_rd hf (Wn.none rfl) (rd_assign hf rfl rfl) hS rfl rfl ?_)
              clear hf; intro a hf
              refine done_l ?_
              refine t_normal ?_
              refine c_ret ?_
              refine t_ret ?_
              refine e_res1 hf.defers rfl (res_tmp hf rfl .nil) ?_
              exact ⟨rfl, hS.sub (by repeat (first | exact Sub.refl | exact Sub.none | exact Sub.behind | (apply Sub.cons; (focus ((repeat (first | exact Sel.head | apply Sel.tail)); done))) | apply Sub.skip))⟩
              )
          )
      · clear hf; intro hc3 a hf
        first
        | (first | exact absurd rfl hc3 | exact Bool.noConfusion hc3 | exact absurd hc3 (by omega) | exact absurd (by omega) hc3 | exact absurd (by rw [Int.toNat_natCast, hlt]; exact htt) hc3; done)
        | (
          refine step_l (st_rd hf (Wn.none rfl) (rd_pick_f hf rfl rfl rfl) hS rfl rfl ?_)
          clear hf; intro a hf
          refine step_l (st_rd hf (Wn.none rfl) (rd_move hf rfl rfl) hS rfl rfl ?_)
          clear hf; intro a hf
          refine step_l (st_rd hf (Wn.some hf rfl rfl rfl rfl) (rd_move hf rfl rfl) hS rfl rfl ?_)
          clear hf; intro a hf
          refine step_l (st_call hf (Wn.some hf rfl rfl rfl rfl) rfl rfl rfl fn12 (DSync_c _ _ _ _ (hS.sel (by repeat (first | exact Sel.head | apply Sel.tail)))) rfl rfl ?_)
          clear hf hS; rintro v a w ⟨rfl, hS⟩ hf
          refine step_l (st_rdB hf (Wn.some hf rfl rfl rfl rfl) (rd_neq hf rfl rfl rfl) hS rfl rfl ?_ ?_)
          · clear hf; intro hc5 a hf
            first
            | (first | exact absurd rfl hc5 | exact Bool.noConfusion hc5 | exact absurd hc5 (by omega) | exact absurd (by omega) hc5 | exact absurd (by rw [Int.toNat_natCast, hlt]; exact htt) hc5; done)
            | (
              refine step_l (st_rd hf (Wn.none rfl) (rd_pick_f hf rfl rfl rfl) hS rfl rfl ?_)
              clear hf; intro a hf
              refine step_l (st_rd hf (Wn.none rfl) (rd_move hf rfl rfl) hS rfl rfl ?_)
              clear hf; intro a hf
              refine step_l (st_skip hf (Wn.some hf rfl rfl rfl rfl) rfl rfl ?_)
              clear hf; intro a hf
              refine step_l (st_skip hf (Wn.some hf rfl rfl rfl rfl) rfl rfl ?_)
              clear hf; intro a hf
              refine step_l (st_skip hf (Wn.some hf rfl rfl rfl rfl) rfl rfl ?_)
              clear hf; intro a hf
              refine step_l (st_skip hf (Wn.some hf rfl rfl rfl rfl) rfl rfl ?_)
              clear hf; intro a hf
              refine step_l (st_rd hf (Wn.none rfl) (rd_pick_t hf rfl rfl rfl) hS rfl rfl ?_)
              clear hf; intro a hf
              refine step_l (st_rd hf (Wn.none rfl) (rd_move hf rfl rfl) hS rfl rfl ?_)
              clear hf; intro a hf
              refine step_l (st_skip hf (Wn.some hf rfl rfl rfl rfl) rfl rfl ?_)
              clear hf; intro a hf
              refine step_l (st_skip hf (Wn.some hf rfl rfl rfl rfl) rfl rfl ?_)
              clear hf; intro a hf
              refine step_l (st_skip hf (Wn.some hf rfl rfl rfl rfl) rfl rfl ?_)
              clear hf; intro a hf
              refine step_l (st_skip hf (Wn.some hf rfl rfl rfl rfl) rfl rfl ?_)
              clear hf; intro a hf
              refine step_l (st_rd hf (Wn.none rfl) (rd_pick_t hf rfl rfl rfl) hS rfl rfl ?_)
              clear hf; intro a hf
              refine done_l ?_
              refine t_normal ?_
              refine c_true hf rfl ?_
              refine c_seq ?_
              refine c_region ?_
              refine step_l (st_rd hf (Wn.none rfl) (rd_move hf rfl rfl) hS rfl rfl ?_)
              clear hf; intro a hf
              refine step_l (st_rd hf (Wn.none rfl) (rd_len hf rfl rfl Try.underlying22) hS rfl rfl ?_)
              clear hf; intro a hf
              refine step_l (st_rd hf (Wn.none rfl) (rd_move hf rfl rfl) hS rfl rfl ?_)
              clear hf; intro a hf
              refine step_l (st_rd hf (Wn.none rfl) (rd_len hf rfl rfl Try.underlying22) hS rfl rfl ?_)
              clear hf; intro a hf
              refine step_l (st_rd hf (Wn.none rfl) (rd_add hf rfl rfl rfl (by first | exact Go.IntWalk.i64_in _ (by omega) | exact rfl)) hS rfl rfl ?_)
              clear hf; intro a hf
              refine step_l (st_rd hf (Wn.none rfl) (rd_move hf rfl rfl) hS rfl rfl ?_)
              clear hf; intro a hf
              refine step_l (st_rd hf (Wn.none rfl) (rd_len hf rfl rfl Try.underlying22) hS rfl rfl ?_)
              clear hf; intro a hf
              refine step_l (st_rd hf (Wn.none rfl) (rd_add hf rfl rfl rfl (by first | exact Go.IntWalk.i64_in _ (by omega) | exact rfl)) hS rfl rfl ?_)
              clear hf; intro a hf
              refine step_l (st_rdB hf (Wn.none rfl) (rd_gtr hf rfl rfl rfl) hS rfl rfl ?_ ?_)
              · clear hf; intro hc6 a hf
                first
                | (first | exact absurd rfl hc6 | exact Bool.noConfusion hc6 | exact absurd hc6 (by omega) | exact absurd (by omega) hc6 | exact absurd (by rw [Int.toNat_natCast, hlt]; exact htt) hc6; done)
                | (
                  refine step_l (st_rd hf (Wn.none rfl) (rd_move hf rfl rfl) hS rfl rfl ?_)
                  clear hf; intro a hf
                  refine step_l (st_call hf (Wn.some hf rfl rfl rfl rfl) rfl rfl rfl fn13 (awake_c hS) rfl rfl ?_)
                  clear hf hS; rintro v a w ⟨rfl, hS⟩ hf
                  refine step_l (st_rd hf (Wn.none rfl) (rd_pick_t hf rfl rfl rfl) hS rfl rfl ?_)
                  clear hf; intro a hf
                  refine step_l (st_rd hf (Wn.none rfl) (rd_assign hf rfl rfl) hS rfl rfl ?_)
                  clear hf; intro a hf
                  refine done_l ?_
                  refine t_normal ?_
                  refine c_ret ?_
                  refine t_ret ?_
                  refine e_res1 hf.defers rfl (res_tmp hf rfl .nil) ?_
                  exact ⟨rfl, hS.sub (by repeat (first | exact Sub.refl | exact Sub.none | exact Sub.behind | (apply Sub.cons; (focus ((repeat (first | exact Sel.head | apply Sel.tail)); done))) | apply Sub.skip))⟩
                  )
              · clear hf; intro hc6 a hf
                first
                | (first | exact absurd rfl hc6 | exact Bool.noConfusion hc6 | exact absurd hc6 (by omega) | exact absurd (by omega) hc6 | exact absurd (by rw [Int.toNat_natCast, hlt]; exact htt) hc6; done)
                | (
                  refine step_l (st_rd hf (Wn.none rfl) (rd_move hf rfl rfl) hS rfl rfl ?_)
                  clear hf; intro a hf
                  refine step_l (st_skip hf (Wn.some hf rfl rfl rfl rfl) rfl rfl ?_)
                  clear hf; intro a hf
                  refine step_l (st_rd hf (Wn.none rfl) (rd_pick_f hf rfl rfl rfl) hS rfl rfl ?_)
                  clear hf; intro a hf
                  refine step_l (st_rd hf (Wn.none rfl) (rd_assign hf rfl rfl) hS rfl rfl ?_)
                  clear hf; intro a hf
                  refine done_l ?_
                  refine t_normal ?_
                  refine c_ret ?_
                  refine t_ret ?_
                  refine e_res1 hf.defers rfl (res_tmp hf rfl .nil) ?_
                  exact ⟨rfl, hS.sub (by repeat (first | exact Sub.refl | exact Sub.none | exact Sub.behind | (apply Sub.cons; (focus ((repeat (first | exact Sel.head | apply Sel.tail)); done))) | apply Sub.skip))⟩
                  )
              )
          · clear hf; intro hc5 a hf
            first
            | (first | exact absurd rfl hc5 | exact Bool.noConfusion hc5 | exact absurd hc5 (by omega) | exact absurd (by omega) hc5 | exact absurd (by rw [Int.toNat_natCast, hlt]; exact htt) hc5; done)
            | (
              refine step_l (st_rd hf (Wn.none rfl) (rd_pick_f hf rfl rfl rfl) hS rfl rfl ?_)
              clear hf; intro a hf
              refine step_l (st_rd hf (Wn.none rfl) (rd_move hf rfl rfl) hS rfl rfl ?_)
              clear hf; intro a hf
              refine step_l (st_rd hf (Wn.some hf rfl rfl rfl rfl) (rd_move hf rfl rfl) hS rfl rfl ?_)
              clear hf; intro a hf
              refine step_l (st_rd hf (Wn.some hf rfl rfl rfl rfl) (rd_move hf rfl rfl) hS rfl rfl ?_)
              clear hf; intro a hf
              refine step_l (st_call hf (Wn.some hf rfl rfl rfl rfl) rfl rfl rfl fn11 (DAppend_c _ _ _ _ tb _ _ _ (hS.sel (by repeat (first | exact Sel.head | apply Sel.tail))) rfl (by omega) (by omega) (fun _ h => hvtb _ (h.sub (by repeat (first | exact Sub.refl | exact Sub.none | exact Sub.behind | (apply Sub.cons; (focus ((repeat (first | exact Sel.head | apply Sel.tail)); done))) | apply Sub.skip))))) rfl rfl ?_)
              clear hf hS; rintro v a w ⟨hvr, hS⟩ hf; obtain ⟨hB, hE⟩ := dApp_fit (most := 1000000) (b := ([] ++ ta)) (x := tb) (by simp only [List.length_nil, List.length_append, List.nil_append]; omega); rw [hE] at hvr; rw [hB] at hS; subst hvr
              refine step_l (st_rdB hf (Wn.some hf rfl rfl rfl rfl) (rd_neq hf rfl rfl rfl) hS rfl rfl ?_ ?_)
              · clear hf; intro hc7 a hf
                first
                | (first | exact absurd rfl hc7 | exact Bool.noConfusion hc7 | exact absurd hc7 (by omega) | exact absurd (by omega) hc7 | exact absurd (by rw [Int.toNat_natCast, hlt]; exact htt) hc7; done)
                | (
                  refine step_l (st_rd hf (Wn.none rfl) (rd_pick_f hf rfl rfl rfl) hS rfl rfl ?_)
                  clear hf; intro a hf
                  refine step_l (st_rd hf (Wn.none rfl) (rd_move hf rfl rfl) hS rfl rfl ?_)
                  clear hf; intro a hf
                  refine step_l (st_skip hf (Wn.some hf rfl rfl rfl rfl) rfl rfl ?_)
                  clear hf; intro a hf
                  refine step_l (st_skip hf (Wn.some hf rfl rfl rfl rfl) rfl rfl ?_)
                  clear hf; intro a hf
                  refine step_l (st_skip hf (Wn.some hf rfl rfl rfl rfl) rfl rfl ?_)
                  clear hf; intro a hf
                  refine step_l (st_skip hf (Wn.some hf rfl rfl rfl rfl) rfl rfl ?_)
                  clear hf; intro a hf
                  refine step_l (st_rd hf (Wn.none rfl) (rd_pick_t hf rfl rfl rfl) hS rfl rfl ?_)
                  clear hf; intro a hf
                  refine done_l ?_
                  refine t_normal ?_
                  refine c_true hf rfl ?_
                  refine c_seq ?_
                  refine c_region ?_
                  refine step_l (st_rd hf (Wn.none rfl) (rd_move hf rfl rfl) hS rfl rfl ?_)
                  clear hf; intro a hf
                  refine step_l (st_rd hf (Wn.none rfl) (rd_len hf rfl rfl Try.underlying22) hS rfl rfl ?_)
                  clear hf; intro a hf
                  refine step_l (st_rd hf (Wn.none rfl) (rd_move hf rfl rfl) hS rfl rfl ?_)
                  clear hf; intro a hf
                  refine step_l (st_rd hf (Wn.none rfl) (rd_len hf rfl rfl Try.underlying22) hS rfl rfl ?_)
                  clear hf; intro a hf
                  refine step_l (st_rd hf (Wn.none rfl) (rd_add hf rfl rfl rfl (by first | exact Go.IntWalk.i64_in _ (by omega) | exact rfl)) hS rfl rfl ?_)
                  clear hf; intro a hf
                  refine step_l (st_rd hf (Wn.none rfl) (rd_move hf rfl rfl) hS rfl rfl ?_)
                  clear hf; intro a hf
                  refine step_l (st_rd hf (Wn.none rfl) (rd_len hf rfl rfl Try.underlying22) hS rfl rfl ?_)
                  clear hf; intro a hf
                  refine step_l (st_rd hf (Wn.none rfl) (rd_add hf rfl rfl rfl (by first | exact Go.IntWalk.i64_in _ (by omega) | exact rfl)) hS rfl rfl ?_)
                  clear hf; intro a hf
                  refine step_l (st_rdB hf (Wn.none rfl) (rd_gtr hf rfl rfl rfl) hS rfl rfl ?_ ?_)
                  · clear hf; intro hc8 a hf
                    first
                    | (first | exact absurd rfl hc8 | exact Bool.noConfusion hc8 | exact absurd hc8 (by omega) | exact absurd (by omega) hc8 | exact absurd (by rw [Int.toNat_natCast, hlt]; exact htt) hc8; done)
                    | (
                      refine step_l (st_rd hf (Wn.none rfl) (rd_move hf rfl rfl) hS rfl rfl ?_)
                      clear hf; intro a hf
                      refine step_l (st_call hf (Wn.some hf rfl rfl rfl rfl) rfl rfl rfl fn13 (awake_c hS) rfl rfl ?_)
                      clear hf hS; rintro v a w ⟨rfl, hS⟩ hf
                      refine step_l (st_rd hf (Wn.none rfl) (rd_pick_t hf rfl rfl rfl) hS rfl rfl ?_)
                      clear hf; intro a hf
                      refine step_l (st_rd hf (Wn.none rfl) (rd_assign hf rfl rfl) hS rfl rfl ?_)
                      clear hf; intro a hf
                      refine done_l ?_
                      refine t_normal ?_
                      refine c_ret ?_
                      refine t_ret ?_
                      refine e_res1 hf.defers rfl (res_tmp hf rfl .nil) ?_
                      exact ⟨rfl, hS.sub (by repeat (first | exact Sub.refl | exact Sub.none | exact Sub.behind | (apply Sub.cons; (focus ((repeat (first | exact Sel.head | apply Sel.tail)); done))) | apply Sub.skip))⟩
                      )
                  · clear hf; intro hc8 a hf
                    first
                    | (first | exact absurd rfl hc8 | exact Bool.noConfusion hc8 | exact absurd hc8 (by omega) | exact absurd (by omega) hc8 | exact absurd (by rw [Int.toNat_natCast, hlt]; exact htt) hc8; done)
                    | (
                      refine step_l (st_rd hf (Wn.none rfl) (rd_move hf rfl rfl) hS rfl rfl ?_)
                      clear hf; intro a hf
                      refine step_l (st_skip hf (Wn.some hf rfl rfl rfl rfl) rfl rfl ?_)
                      clear hf; intro a hf
                      refine step_l (st_rd hf (Wn.none rfl) (rd_pick_f hf rfl rfl rfl) hS rfl rfl ?_)
                      clear hf; intro a hf
                      refine step_l (st_rd hf (Wn.none rfl) (rd_assign hf rfl rfl) hS rfl rfl ?_)
                      clear hf; intro a hf
                      refine done_l ?_
                      refine t_normal ?_
                      refine c_ret ?_
                      refine t_ret ?_
                      refine e_res1 hf.defers rfl (res_tmp hf rfl .nil) ?_
                      exact ⟨rfl, hS.sub (by repeat (first | exact Sub.refl | exact Sub.none | exact Sub.behind | (apply Sub.cons; (focus ((repeat (first | exact Sel.head | apply Sel.tail)); done))) | apply Sub.skip))⟩
                      )
                  )
              · clear hf; intro hc7 a hf
                first
                | (first | exact absurd rfl hc7 | exact Bool.noConfusion hc7 | exact absurd hc7 (by omega) | exact absurd (by omega) hc7 | exact absurd (by rw [Int.toNat_natCast, hlt]; exact htt) hc7; done)
                | (
                  refine step_l (st_rd hf (Wn.none rfl) (rd_pick_f hf rfl rfl rfl) hS rfl rfl ?_)
                  clear hf; intro a hf
                  refine step_l (st_rd hf (Wn.none rfl) (rd_move hf rfl rfl) hS rfl rfl ?_)
                  clear hf; intro a hf
                  refine step_l (st_rd hf (Wn.some hf rfl rfl rfl rfl) (rd_move hf rfl rfl) hS rfl rfl ?_)
                  clear hf; intro a hf
                  refine step_l (st_rd hf (Wn.some hf rfl rfl rfl rfl) (rd_move hf rfl rfl) hS rfl rfl ?_)
                  clear hf; intro a hf
                  refine step_l (st_call hf (Wn.some hf rfl rfl rfl rfl) rfl rfl rfl fn11 (DAppend_c _ _ _ _ tc _ _ _ (hS.sel (by repeat (first | exact Sel.head | apply Sel.tail))) rfl (by omega) (by omega) (fun _ h => hvtc _ (h.sub (by repeat (first | exact Sub.refl | exact Sub.none | exact Sub.behind | (apply Sub.cons; (focus ((repeat (first | exact Sel.head | apply Sel.tail)); done))) | apply Sub.skip))))) rfl rfl ?_)
                  clear hf hS; rintro v a w ⟨hvr, hS⟩ hf; obtain ⟨hB, hE⟩ := dApp_fit (most := 1000000) (b := ([] ++ ta ++ tb)) (x := tc) (by simp only [List.length_nil, List.length_append, List.nil_append]; omega); rw [hE] at hvr; rw [hB] at hS; subst hvr; simp only [List.nil_append] at hS
                  refine step_l (st_rdB hf (Wn.some hf rfl rfl rfl rfl) (rd_neq hf rfl rfl rfl) hS rfl rfl ?_ ?_)
                  · clear hf; intro hc9 a hf
                    first
                    | (first | exact absurd rfl hc9 | exact Bool.noConfusion hc9 | exact absurd hc9 (by omega) | exact absurd (by omega) hc9 | exact absurd (by rw [Int.toNat_natCast, hlt]; exact htt) hc9; done)
                    | (
                      refine step_l (st_rd hf (Wn.none rfl) (rd_pick_f hf rfl rfl rfl) hS rfl rfl ?_)
                      clear hf; intro a hf
                      refine done_l ?_
                      refine t_normal ?_
                      refine c_true hf rfl ?_
                      refine c_seq ?_
                      refine c_region ?_
                      refine step_l (st_rd hf (Wn.none rfl) (rd_move hf rfl rfl) hS rfl rfl ?_)
                      clear hf; intro a hf
                      refine step_l (st_rd hf (Wn.none rfl) (rd_len hf rfl rfl Try.underlying22) hS rfl rfl ?_)
                      clear hf; intro a hf
                      refine step_l (st_rd hf (Wn.none rfl) (rd_move hf rfl rfl) hS rfl rfl ?_)
                      clear hf; intro a hf
                      refine step_l (st_rd hf (Wn.none rfl) (rd_len hf rfl rfl Try.underlying22) hS rfl rfl ?_)
                      clear hf; intro a hf
                      refine step_l (st_rd hf (Wn.none rfl) (rd_add hf rfl rfl rfl (by first | exact Go.IntWalk.i64_in _ (by omega) | exact rfl)) hS rfl rfl ?_)
                      clear hf; intro a hf
                      refine step_l (st_rd hf (Wn.none rfl) (rd_move hf rfl rfl) hS rfl rfl ?_)
                      clear hf; intro a hf
                      refine step_l (st_rd hf (Wn.none rfl) (rd_len hf rfl rfl Try.underlying22) hS rfl rfl ?_)
                      clear hf; intro a hf
                      refine step_l (st_rd hf (Wn.none rfl) (rd_add hf rfl rfl rfl (by first | exact Go.IntWalk.i64_in _ (by omega) | exact rfl)) hS rfl rfl ?_)
                      clear hf; intro a hf
                      refine step_l (st_rdB hf (Wn.none rfl) (rd_gtr hf rfl rfl rfl) hS rfl rfl ?_ ?_)
                      · clear hf; intro hc10 a hf
                        first
                        | (first | exact absurd rfl hc10 | exact Bool.noConfusion hc10 | exact absurd hc10 (by omega) | exact absurd (by omega) hc10 | exact absurd (by rw [Int.toNat_natCast, hlt]; exact htt) hc10; done)
                        | (
                          refine step_l (st_rd hf (Wn.none rfl) (rd_move hf rfl rfl) hS rfl rfl ?_)
                          clear hf; intro a hf
                          refine step_l (st_call hf (Wn.some hf rfl rfl rfl rfl) rfl rfl rfl fn13 (awake_c hS) rfl rfl ?_)
                          clear hf hS; rintro v a w ⟨rfl, hS⟩ hf
                          refine step_l (st_rd hf (Wn.none rfl) (rd_pick_t hf rfl rfl rfl) hS rfl rfl ?_)
                          clear hf; intro a hf
                          refine step_l (st_rd hf (Wn.none rfl) (rd_assign hf rfl rfl) hS rfl rfl ?_)
                          clear hf; intro a hf
                          refine done_l ?_
                          refine t_normal ?_
                          refine c_ret ?_
                          refine t_ret ?_
                          refine e_res1 hf.defers rfl (res_tmp hf rfl .nil) ?_
                          exact ⟨rfl, hS.sub (by repeat (first | exact Sub.refl | exact Sub.none | exact Sub.behind | (apply Sub.cons; (focus ((repeat (first | exact Sel.head | apply Sel.tail)); done))) | apply Sub.skip))⟩
                          )
                      · clear hf; intro hc10 a hf
                        first
                        | (first | exact absurd rfl hc10 | exact Bool.noConfusion hc10 | exact absurd hc10 (by omega) | exact absurd (by omega) hc10 | exact absurd (by rw [Int.toNat_natCast, hlt]; exact htt) hc10; done)
                        | (
                          refine step_l (st_rd hf (Wn.none rfl) (rd_move hf rfl rfl) hS rfl rfl ?_)
                          clear hf; intro a hf
                          refine step_l (st_skip hf (Wn.some hf rfl rfl rfl rfl) rfl rfl ?_)
                          clear hf; intro a hf
                          refine step_l (st_rd hf (Wn.none rfl) (rd_pick_f hf rfl rfl rfl) hS rfl rfl ?_)
                          clear hf; intro a hf
                          refine step_l (st_rd hf (Wn.none rfl) (rd_assign hf rfl rfl) hS rfl rfl ?_)
                          clear hf; intro a hf
                          refine done_l ?_
                          refine t_normal ?_
                          refine c_ret ?_
                          refine t_ret ?_
                          refine e_res1 hf.defers rfl (res_tmp hf rfl .nil) ?_
                          exact ⟨rfl, hS.sub (by repeat (first | exact Sub.refl | exact Sub.none | exact Sub.behind | (apply Sub.cons; (focus ((repeat (first | exact Sel.head | apply Sel.tail)); done))) | apply Sub.skip))⟩
                          )
                      )
                  · clear hf; intro hc9 a hf
                    first
                    | (first | exact absurd rfl hc9 | exact Bool.noConfusion hc9 | exact absurd hc9 (by omega) | exact absurd (by omega) hc9 | exact absurd (by rw [Int.toNat_natCast, hlt]; exact htt) hc9; done)
                    | (
                      refine step_l (st_rd hf (Wn.none rfl) (rd_pick_f hf rfl rfl rfl) hS rfl rfl ?_)
                      clear hf; intro a hf
                      refine done_l ?_
                      refine t_normal ?_
                      refine c_false hf rfl ?_
                      refine c_skip ?_
                      refine t_normal ?_
                      refine c_seq ?_
                      refine c_region ?_
                      refine step_l (st_rd hf (Wn.none rfl) (rd_move hf rfl rfl) hS rfl rfl ?_)
                      clear hf; intro a hf
                      refine step_l (st_rd hf (Wn.none rfl) (rd_str hf rfl rfl Try.underlying22 Try.underlying9 Try.underlying5 (by intro _ h; first | exact h.slOfRw (by repeat (first | exact Sel.head | apply Sel.tail)) | exact h.slOfBlkPre (by repeat (first | exact Sel.head | apply Sel.tail)) (bvs_len1 _) | exact hvta _ (h.sub (by repeat (first | exact Sub.refl | exact Sub.none | exact Sub.behind | (apply Sub.cons; (focus ((repeat (first | exact Sel.head | apply Sel.tail)); done))) | apply Sub.skip))) | exact hvtb _ (h.sub (by repeat (first | exact Sub.refl | exact Sub.none | exact Sub.behind | (apply Sub.cons; (focus ((repeat (first | exact Sel.head | apply Sel.tail)); done))) | apply Sub.skip))) | exact hvtc _ (h.sub (by repeat (first | exact Sub.refl | exact Sub.none | exact Sub.behind | (apply Sub.cons; (focus ((repeat (first | exact Sel.head | apply Sel.tail)); done))) | apply Sub.skip))))) hS rfl rfl ?_)
                      clear hf; intro a hf
                      refine step_l (st_rd hf (Wn.none rfl) (rd_move hf rfl rfl) hS rfl rfl ?_)
                      clear hf; intro a hf
                      refine step_l (st_rd hf (Wn.none rfl) (rd_str hf rfl rfl Try.underlying22 Try.underlying9 Try.underlying5 (by intro _ h; first | exact h.slOfRw (by repeat (first | exact Sel.head | apply Sel.tail)) | exact h.slOfBlkPre (by repeat (first | exact Sel.head | apply Sel.tail)) (bvs_len1 _) | exact hvta _ (h.sub (by repeat (first | exact Sub.refl | exact Sub.none | exact Sub.behind | (apply Sub.cons; (focus ((repeat (first | exact Sel.head | apply Sel.tail)); done))) | apply Sub.skip))) | exact hvtb _ (h.sub (by repeat (first | exact Sub.refl | exact Sub.none | exact Sub.behind | (apply Sub.cons; (focus ((repeat (first | exact Sel.head | apply Sel.tail)); done))) | apply Sub.skip))) | exact hvtc _ (h.sub (by repeat (first | exact Sub.refl | exact Sub.none | exact Sub.behind | (apply Sub.cons; (focus ((repeat (first | exact Sel.head | apply Sel.tail)); done))) | apply Sub.skip))))) hS rfl rfl ?_)
                      clear hf; intro a hf
                      refine step_l (st_rd hf (Wn.none rfl) (rd_concat hf rfl rfl rfl (by (try simp only [List.length_append]); omega)) hS rfl rfl ?_)
                      clear hf; intro a hf
                      refine step_l (st_rd hf (Wn.none rfl) (rd_move hf rfl rfl) hS rfl rfl ?_)
                      clear hf; intro a hf
                      refine step_l (st_rd hf (Wn.none rfl) (rd_str hf rfl rfl Try.underlying22 Try.underlying9 Try.underlying5 (by intro _ h; first | exact h.slOfRw (by repeat (first | exact Sel.head | apply Sel.tail)) | exact h.slOfBlkPre (by repeat (first | exact Sel.head | apply Sel.tail)) (bvs_len1 _) | exact hvta _ (h.sub (by repeat (first | exact Sub.refl | exact Sub.none | exact Sub.behind | (apply Sub.cons; (focus ((repeat (first | exact Sel.head | apply Sel.tail)); done))) | apply Sub.skip))) | exact hvtb _ (h.sub (by repeat (first | exact Sub.refl | exact Sub.none | exact Sub.behind | (apply Sub.cons; (focus ((repeat (first | exact Sel.head | apply Sel.tail)); done))) | apply Sub.skip))) | exact hvtc _ (h.sub (by repeat (first | exact Sub.refl | exact Sub.none | exact Sub.behind | (apply Sub.cons; (focus ((repeat (first | exact Sel.head | apply Sel.tail)); done))) | apply Sub.skip))))) hS rfl rfl ?_)
                      clear hf; intro a hf
                      refine step_l (st_rd hf (Wn.none rfl) (rd_concat hf rfl rfl rfl (by (try simp only [List.length_append]); omega)) hS rfl rfl ?_)
                      clear hf; intro a hf
                      refine step_l (st_rd hf (Wn.none rfl) (rd_assign hf rfl rfl) hS rfl rfl ?_)
                      clear hf; intro a hf
                      refine done_l ?_
                      refine t_normal ?_
                      refine c_seq ?_
                      refine c_region ?_
                      refine step_l (st_rd hf (Wn.none rfl) (rd_move hf rfl rfl) hS rfl rfl ?_)
                      clear hf; intro a hf
                      refine step_l (st_rd hf (Wn.none rfl) (rd_lenS hf rfl rfl Try.underlying9) hS rfl rfl ?_)
                      clear hf; intro a hf
                      refine step_l (st_rd hf (Wn.none rfl) (rd_assign hf rfl rfl) hS rfl rfl ?_)
                      clear hf; intro a hf
                      refine done_l ?_
                      refine t_normal ?_
                      refine c_seq ?_
                      refine c_seq ?_
                      refine c_region ?_
                      refine step_l (st_rd hf (Wn.none rfl) (rd_move hf rfl rfl) hS rfl rfl ?_)
                      clear hf; intro a hf
                      refine step_l (st_rd hf (Wn.none rfl) (rd_len hf rfl rfl Try.underlying23) hS rfl rfl ?_)
                      clear hf; intro a hf
                      refine step_l (st_rd hf (Wn.none rfl) (rd_move hf rfl rfl) hS rfl rfl ?_)
                      clear hf; intro a hf
                      refine done_l ?_
                      refine t_normal ?_
                      refine c_block ?_
                      have hk0 := Keep.of hf [(8, 8), (11, 14), (72, 116)] (by repeat (first | exact Keep.nil | apply Keep.drop rfl | apply Keep.take rfl))
                      refine c_loopK hk0 (α := Nat × Nat × Nat) (fun ⟨k, n, su⟩ => [(11, .int .i64 (n : Nat)), (72, .int .i64 (k : Nat))]) (fun ⟨k, n, su⟩ w => Sat W (DkP 5 46 pd 1000000 ((ta ++ tb ++ tc).take n) su :: R) w ∧ k ≤ picks.length ∧ k ≤ 6 ∧ ta.length ≤ su ∧ su ≤ n ∧ n ≤ (ta ++ tb ++ tc).length ∧ (0 < k → su = n)) (fun ⟨k, n, su⟩ => picks.length - k) (0, (ta ++ tb ++ tc).length, ta.length) (((hf.keep hk0).kb hf 72 rfl (by first | rfl | exact int_eq (by omega))).kb hf 11 rfl (by first | rfl | exact int_eq (by omega))) ⟨(by rw [List.take_length]; exact hS.sub (by repeat (first | exact Sub.refl | exact Sub.none | exact Sub.behind | (apply Sub.cons; (focus ((repeat (first | exact Sel.head | apply Sel.tail)); done))) | apply Sub.skip))), ⟨by omega, by omega, by omega, by rw [hall]; omega, by omega, by omega⟩⟩ ?_
                      clear hf hS; rintro ⟨k, n, su⟩ a w hf ⟨hS, ⟨hk1, hk2, hsu, hsn, hn, hkn⟩⟩; (try dsimp only [List.cons_append, List.nil_append] at hf)
                      refine c_seq ?_
                      refine c_region ?_
                      refine step_l (st_rdB hf (Wn.none rfl) (rd_lss hf rfl rfl rfl) hS rfl rfl ?_ ?_)
                      · clear hf; intro hc11 a hf
                        obtain ⟨p, hget⟩ := get_of_lt (l := picks) (k := k) (by omega) rfl; obtain ⟨adp, rfl⟩ := (hvp _ (hS.sub (by repeat (first | exact Sub.refl | exact Sub.none | exact Sub.behind | (apply Sub.cons; (focus ((repeat (first | exact Sel.head | apply Sel.tail)); done))) | apply Sub.skip)))).some (by omega); have hln : ((ta ++ tb ++ tc).take n).length = n := by rw [List.length_take]; omega
                        have hcr := dCraN_le p (show su ≤ ((ta ++ tb ++ tc).take n).length by omega); have htt : ((ta ++ tb ++ tc).take n).take (dCraN ((ta ++ tb ++ tc).take n) su p) = (ta ++ tb ++ tc).take (dCraN ((ta ++ tb ++ tc).take n) su p) := by rw [List.take_take, Nat.min_eq_left (by omega)]
                        have hlt : (((ta ++ tb ++ tc).take n).take (dCraN ((ta ++ tb ++ tc).take n) su p)).length = dCraN ((ta ++ tb ++ tc).take n) su p := by rw [htt, List.length_take]; omega
                        first
                        | (first | exact absurd rfl hc11 | exact Bool.noConfusion hc11 | exact absurd hc11 (by omega) | exact absurd (by omega) hc11 | exact absurd (by rw [Int.toNat_natCast, hlt]; exact htt) hc11; done)
                        | (
                          refine done_l ?_
                          refine t_normal ?_
                          refine c_seq ?_
                          refine c_true hf rfl ?_
                          refine c_skip ?_
                          refine t_normal ?_
                          refine c_seq ?_
                          refine c_block ?_
                          refine c_seq ?_
                          refine c_region ?_
                          refine step_l (st_rd hf (Wn.none rfl) (rd_move hf rfl rfl) hS rfl rfl ?_)
                          clear hf; intro a hf
                          refine step_l (st_rd hf (Wn.none rfl) ((by first | exact rd_indexAddrN1 hf rfl rfl rfl Try.underlying23 sz3 (by omega) | exact rd_indexAddr hf rfl rfl rfl Try.underlying23 sz3 (by first | decide | omega) (by omega))) hS rfl rfl ?_)
                          clear hf; intro a hf
                          refine step_l (st_rd hf (Wn.none rfl) (rd_load1 hf rfl rfl ag3 (by intro _ h; exact one_elem (hvp _ (h.sub (by repeat (first | exact Sub.refl | exact Sub.none | exact Sub.behind | (apply Sub.cons; (focus ((repeat (first | exact Sel.head | apply Sel.tail)); done))) | apply Sub.skip)))) hget)) hS rfl rfl ?_)
                          clear hf; intro a hf
                          refine step_l (st_rd hf (Wn.none rfl) (rd_assign hf rfl rfl) hS rfl rfl ?_)
                          clear hf; intro a hf
                          refine step_l (st_rd hf (Wn.none rfl) (rd_assign hf rfl rfl) hS rfl rfl ?_)
                          clear hf; intro a hf
                          refine done_l ?_
                          refine t_normal ?_
                          refine c_seq ?_
                          refine c_seq ?_
                          refine c_region ?_
                          refine step_l (st_rd hf (Wn.none rfl) (rd_move hf rfl rfl) hS rfl rfl ?_)
                          clear hf; intro a hf
                          refine step_l (st_rdB hf (Wn.none rfl) (rd_geq hf rfl rfl rfl) hS rfl rfl ?_ ?_)
                          · clear hf; intro hc12 a hf
                            first
                            | (first | exact absurd rfl hc12 | exact Bool.noConfusion hc12 | exact absurd hc12 (by omega) | exact absurd (by omega) hc12 | exact absurd (by rw [Int.toNat_natCast, hlt]; exact htt) hc12; done)
                            | (
                              refine done_l ?_
                              refine t_normal ?_
                              refine c_true hf rfl ?_
                              refine c_exit ?_
                              refine t_exit ?_
                              refine b_exit' (by decide) ?_
                              refine t_exit ?_
                              refine t_exit ?_
                              refine b_exit ?_
                              refine t_normal ?_
                              refine c_seq ?_
                              refine c_region ?_
                              refine step_l (st_call hf (Wn.none rfl) rfl rfl rfl fn13 (awake_c hS) rfl rfl ?_)
                              clear hf hS; rintro v a w ⟨rfl, hS⟩ hf
                              refine step_l (st_rd hf (Wn.none rfl) (rd_assign hf rfl rfl) hS rfl rfl ?_)
                              clear hf; intro a hf
                              refine done_l ?_
                              refine t_normal ?_
                              refine c_ret ?_
                              refine e_res1 hf.defers rfl (res_tmp hf rfl .nil) ?_
                              exact ⟨rfl, hS.sub (by repeat (first | exact Sub.refl | exact Sub.none | exact Sub.behind | (apply Sub.cons; (focus ((repeat (first | exact Sel.head | apply Sel.tail)); done))) | apply Sub.skip))⟩
                              )
                          · clear hf; intro hc12 a hf
                            first
                            | (first | exact absurd rfl hc12 | exact Bool.noConfusion hc12 | exact absurd hc12 (by omega) | exact absurd (by omega) hc12 | exact absurd (by rw [Int.toNat_natCast, hlt]; exact htt) hc12; done)
                            | (
                              refine done_l ?_
                              refine t_normal ?_
                              refine c_false hf rfl ?_
                              refine c_skip ?_
                              refine t_normal ?_
                              refine c_seq ?_
                              refine c_region ?_
                              refine step_l (st_rd hf (Wn.none rfl) (rd_move hf rfl rfl) hS rfl rfl ?_)
                              clear hf; intro a hf
                              refine step_l (st_rd hf (Wn.none rfl) (rd_move hf rfl rfl) hS rfl rfl ?_)
                              clear hf; intro a hf
                              refine step_l (st_call hf (Wn.none rfl) rfl rfl rfl fn14 (DCrash_c _ _ _ _ _ (hS.sel (by repeat (first | exact Sel.head | apply Sel.tail))) (by omega)) rfl rfl ?_)
                              clear hf hS; rintro v a w ⟨rfl, hS⟩ hf
                              refine done_l ?_
                              refine t_normal ?_
                              refine c_seq ?_
                              refine c_region ?_
                              refine step_l (st_rd hf (Wn.none rfl) (rd_move hf rfl rfl) hS rfl rfl ?_)
                              clear hf; intro a hf
                              refine step_l (st_call hf (Wn.none rfl) rfl rfl rfl fn15 (DBytes_c _ _ _ _ (hS.sel (by repeat (first | exact Sel.head | apply Sel.tail))) (by omega)) rfl rfl ?_)
                              clear hf hS; rintro v a w ⟨qb_13, capb_13, rfl, hS⟩ hf
                              refine step_l (st_rd hf (Wn.none rfl) (rd_str hf rfl rfl Try.underlying22 Try.underlying9 Try.underlying5 (by intro _ h; first | exact h.slOfRw (by repeat (first | exact Sel.head | apply Sel.tail)) | exact h.slOfBlkPre (by repeat (first | exact Sel.head | apply Sel.tail)) (bvs_len1 _) | exact hvta _ (h.sub (by repeat (first | exact Sub.refl | exact Sub.none | exact Sub.behind | (apply Sub.cons; (focus ((repeat (first | exact Sel.head | apply Sel.tail)); done))) | apply Sub.skip))) | exact hvtb _ (h.sub (by repeat (first | exact Sub.refl | exact Sub.none | exact Sub.behind | (apply Sub.cons; (focus ((repeat (first | exact Sel.head | apply Sel.tail)); done))) | apply Sub.skip))) | exact hvtc _ (h.sub (by repeat (first | exact Sub.refl | exact Sub.none | exact Sub.behind | (apply Sub.cons; (focus ((repeat (first | exact Sel.head | apply Sel.tail)); done))) | apply Sub.skip))))) hS rfl rfl ?_)
                              clear hf; intro a hf
                              refine step_l (st_rd hf (Wn.none rfl) (rd_assign hf rfl rfl) hS rfl rfl ?_)
                              clear hf; intro a hf
                              refine done_l ?_
                              refine t_normal ?_
                              refine c_seq ?_
                              refine c_seq ?_
                              refine c_region ?_
                              refine step_l (st_rd hf (Wn.none rfl) (rd_move hf rfl rfl) hS rfl rfl ?_)
                              clear hf; intro a hf
                              refine step_l (st_rd hf (Wn.none rfl) (rd_lenS hf rfl rfl Try.underlying9) hS rfl rfl ?_)
                              clear hf; intro a hf
                              refine step_l (st_rd hf (Wn.none rfl) (rd_move hf rfl rfl) hS rfl rfl ?_)
                              clear hf; intro a hf
                              refine step_l (st_rd hf (Wn.none rfl) (rd_len hf rfl rfl Try.underlying22) hS rfl rfl ?_)
                              clear hf; intro a hf
                              refine step_l (st_rdB hf (Wn.none rfl) (rd_lss hf rfl rfl rfl) hS rfl rfl ?_ ?_)
                              · clear hf; intro hc14 a hf
                                first
                                | (first | exact absurd rfl hc14 | exact Bool.noConfusion hc14 | exact absurd hc14 (by omega) | exact absurd (by omega) hc14 | exact absurd (by rw [Int.toNat_natCast, hlt]; exact htt) hc14; done)
                                | (
                                  refine step_l (st_rd hf (Wn.none rfl) (rd_move hf rfl rfl) hS rfl rfl ?_)
                                  clear hf; intro a hf
                                  refine step_l (st_skip hf (Wn.some hf rfl rfl rfl rfl) rfl rfl ?_)
                                  clear hf; intro a hf
                                  refine step_l (st_skip hf (Wn.some hf rfl rfl rfl rfl) rfl rfl ?_)
                                  clear hf; intro a hf
                                  refine step_l (st_skip hf (Wn.some hf rfl rfl rfl rfl) rfl rfl ?_)
                                  clear hf; intro a hf
                                  refine step_l (st_skip hf (Wn.some hf rfl rfl rfl rfl) rfl rfl ?_)
                                  clear hf; intro a hf
                                  refine step_l (st_rd hf (Wn.none rfl) (rd_pick_t hf rfl rfl rfl) hS rfl rfl ?_)
                                  clear hf; intro a hf
                                  refine step_l (st_rd hf (Wn.none rfl) (rd_move hf rfl rfl) hS rfl rfl ?_)
                                  clear hf; intro a hf
                                  refine step_l (st_skip hf (Wn.some hf rfl rfl rfl rfl) rfl rfl ?_)
                                  clear hf; intro a hf
                                  refine step_l (st_skip hf (Wn.some hf rfl rfl rfl rfl) rfl rfl ?_)
                                  clear hf; intro a hf
                                  refine step_l (st_skip hf (Wn.some hf rfl rfl rfl rfl) rfl rfl ?_)
                                  clear hf; intro a hf
                                  refine step_l (st_skip hf (Wn.some hf rfl rfl rfl rfl) rfl rfl ?_)
                                  clear hf; intro a hf
                                  refine step_l (st_skip hf (Wn.some hf rfl rfl rfl rfl) rfl rfl ?_)
                                  clear hf; intro a hf
                                  refine step_l (st_skip hf (Wn.some hf rfl rfl rfl rfl) rfl rfl ?_)
                                  clear hf; intro a hf
                                  refine step_l (st_rd hf (Wn.none rfl) (rd_pick_t hf rfl rfl rfl) hS rfl rfl ?_)
                                  clear hf; intro a hf
                                  refine step_l (st_rd hf (Wn.none rfl) (rd_move hf rfl rfl) hS rfl rfl ?_)
                                  clear hf; intro a hf
                                  refine step_l (st_skip hf (Wn.some hf rfl rfl rfl rfl) rfl rfl ?_)
                                  clear hf; intro a hf
                                  refine step_l (st_skip hf (Wn.some hf rfl rfl rfl rfl) rfl rfl ?_)
                                  clear hf; intro a hf
                                  refine step_l (st_skip hf (Wn.some hf rfl rfl rfl rfl) rfl rfl ?_)
                                  clear hf; intro a hf
                                  refine step_l (st_skip hf (Wn.undef hf rfl rfl rfl) rfl rfl ?_)
                                  clear hf; intro a hf
                                  refine step_l (st_skip hf (Wn.undef hf rfl rfl rfl) rfl rfl ?_)
                                  clear hf; intro a hf
                                  refine step_l (st_skip hf (Wn.undef hf rfl rfl rfl) rfl rfl ?_)
                                  clear hf; intro a hf
                                  refine step_l (st_skip hf (Wn.undef hf rfl rfl rfl) rfl rfl ?_)
                                  clear hf; intro a hf
                                  refine step_l (st_skip hf (Wn.some hf rfl rfl rfl rfl) rfl rfl ?_)
                                  clear hf; intro a hf
                                  refine step_l (st_rd hf (Wn.none rfl) (rd_pick_t hf rfl rfl rfl) hS rfl rfl ?_)
                                  clear hf; intro a hf
                                  refine done_l ?_
                                  refine t_normal ?_
                                  refine c_true hf rfl ?_
                                  refine c_seq ?_
                                  refine c_region ?_
                                  refine step_l (st_rd hf (Wn.none rfl) (rd_assign hf rfl rfl) hS rfl rfl ?_)
                                  clear hf; intro a hf
                                  refine done_l ?_
                                  refine t_normal ?_
                                  refine c_ret ?_
                                  refine t_ret ?_
                                  refine b_ret ?_
                                  refine t_ret ?_
                                  refine t_ret ?_
                                  refine b_ret ?_
                                  refine t_ret ?_
                                  refine e_res1 hf.defers rfl (res_tmp hf rfl .nil) ?_
                                  exact ⟨rfl, hS.sub (by repeat (first | exact Sub.refl | exact Sub.none | exact Sub.behind | (apply Sub.cons; (focus ((repeat (first | exact Sel.head | apply Sel.tail)); done))) | apply Sub.skip))⟩
                                  )
                              · clear hf; intro hc14 a hf
                                first
                                | (first | exact absurd rfl hc14 | exact Bool.noConfusion hc14 | exact absurd hc14 (by omega) | exact absurd (by omega) hc14 | exact absurd (by rw [Int.toNat_natCast, hlt]; exact htt) hc14; done)
                                | (
                                  refine step_l (st_rd hf (Wn.none rfl) (rd_move hf rfl rfl) hS rfl rfl ?_)
                                  clear hf; intro a hf
                                  refine step_l (st_rd hf (Wn.some hf rfl rfl rfl rfl) (rd_move hf rfl rfl) hS rfl rfl ?_)
                                  clear hf; intro a hf
                                  refine step_l (st_rd hf (Wn.some hf rfl rfl rfl rfl) (rd_lenS hf rfl rfl Try.underlying9) hS rfl rfl ?_)
                                  clear hf; intro a hf
                                  refine step_l (st_rd hf (Wn.some hf rfl rfl rfl rfl) (rd_move hf rfl rfl) hS rfl rfl ?_)
                                  clear hf; intro a hf
                                  refine step_l (st_rdB hf (Wn.some hf rfl rfl rfl rfl) (rd_gtr hf rfl rfl rfl) hS rfl rfl ?_ ?_)
                                  · clear hf; intro hc15 a hf
                                    first
                                    | (first | exact absurd rfl hc15 | exact Bool.noConfusion hc15 | exact absurd hc15 (by omega) | exact absurd (by omega) hc15 | exact absurd (by rw [Int.toNat_natCast, hlt]; exact htt) hc15; done)
                                    | (
                                      refine step_l (st_rd hf (Wn.none rfl) (rd_pick_f hf rfl rfl rfl) hS rfl rfl ?_)
                                      clear hf; intro a hf
                                      refine step_l (st_rd hf (Wn.none rfl) (rd_move hf rfl rfl) hS rfl rfl ?_)
                                      clear hf; intro a hf
                                      refine step_l (st_skip hf (Wn.some hf rfl rfl rfl rfl) rfl rfl ?_)
                                      clear hf; intro a hf
                                      refine step_l (st_skip hf (Wn.some hf rfl rfl rfl rfl) rfl rfl ?_)
                                      clear hf; intro a hf
                                      refine step_l (st_skip hf (Wn.some hf rfl rfl rfl rfl) rfl rfl ?_)
                                      clear hf; intro a hf
                                      refine step_l (st_skip hf (Wn.some hf rfl rfl rfl rfl) rfl rfl ?_)
                                      clear hf; intro a hf
                                      refine step_l (st_skip hf (Wn.some hf rfl rfl rfl rfl) rfl rfl ?_)
                                      clear hf; intro a hf
                                      refine step_l (st_skip hf (Wn.some hf rfl rfl rfl rfl) rfl rfl ?_)
                                      clear hf; intro a hf
                                      refine step_l (st_rd hf (Wn.none rfl) (rd_pick_t hf rfl rfl rfl) hS rfl rfl ?_)
                                      clear hf; intro a hf
                                      refine step_l (st_rd hf (Wn.none rfl) (rd_move hf rfl rfl) hS rfl rfl ?_)
                                      clear hf; intro a hf
                                      refine step_l (st_skip hf (Wn.some hf rfl rfl rfl rfl) rfl rfl ?_)
                                      clear hf; intro a hf
                                      refine step_l (st_skip hf (Wn.some hf rfl rfl rfl rfl) rfl rfl ?_)
                                      clear hf; intro a hf
                                      refine step_l (st_skip hf (Wn.some hf rfl rfl rfl rfl) rfl rfl ?_)
                                      clear hf; intro a hf
                                      refine step_l (st_skip hf (Wn.undef hf rfl rfl rfl) rfl rfl ?_)
                                      clear hf; intro a hf
                                      refine step_l (st_skip hf (Wn.undef hf rfl rfl rfl) rfl rfl ?_)
                                      clear hf; intro a hf
                                      refine step_l (st_skip hf (Wn.undef hf rfl rfl rfl) rfl rfl ?_)
                                      clear hf; intro a hf
                                      refine step_l (st_skip hf (Wn.undef hf rfl rfl rfl) rfl rfl ?_)
                                      clear hf; intro a hf
                                      refine step_l (st_skip hf (Wn.some hf rfl rfl rfl rfl) rfl rfl ?_)
                                      clear hf; intro a hf
                                      refine step_l (st_rd hf (Wn.none rfl) (rd_pick_t hf rfl rfl rfl) hS rfl rfl ?_)
                                      clear hf; intro a hf
                                      refine done_l ?_
                                      refine t_normal ?_
                                      refine c_true hf rfl ?_
                                      refine c_seq ?_
                                      refine c_region ?_
                                      refine step_l (st_rd hf (Wn.none rfl) (rd_assign hf rfl rfl) hS rfl rfl ?_)
                                      clear hf; intro a hf
                                      refine done_l ?_
                                      refine t_normal ?_
                                      refine c_ret ?_
                                      refine t_ret ?_
                                      refine b_ret ?_
                                      refine t_ret ?_
                                      refine t_ret ?_
                                      refine b_ret ?_
                                      refine t_ret ?_
                                      refine e_res1 hf.defers rfl (res_tmp hf rfl .nil) ?_
                                      exact ⟨rfl, hS.sub (by repeat (first | exact Sub.refl | exact Sub.none | exact Sub.behind | (apply Sub.cons; (focus ((repeat (first | exact Sel.head | apply Sel.tail)); done))) | apply Sub.skip))⟩
                                      )
                                  · clear hf; intro hc15 a hf
                                    first
                                    | (first | exact absurd rfl hc15 | exact Bool.noConfusion hc15 | exact absurd hc15 (by omega) | exact absurd (by omega) hc15 | exact absurd (by rw [Int.toNat_natCast, hlt]; exact htt) hc15; done)
                                    | (
                                      refine step_l (st_rd hf (Wn.none rfl) (rd_pick_f hf rfl rfl rfl) hS rfl rfl ?_)
                                      clear hf; intro a hf
                                      refine step_l (st_rd hf (Wn.none rfl) (rd_move hf rfl rfl) hS rfl rfl ?_)
                                      clear hf; intro a hf
                                      refine step_l (st_rd hf (Wn.some hf rfl rfl rfl rfl) (rd_move hf rfl rfl) hS rfl rfl ?_)
                                      clear hf; intro a hf
                                      refine step_l (st_rd hf (Wn.some hf rfl rfl rfl rfl) (rd_move hf rfl rfl) hS rfl rfl ?_)
                                      clear hf; intro a hf
                                      refine step_l (st_rd hf (Wn.some hf rfl rfl rfl rfl) (rd_move hf rfl rfl) hS rfl rfl ?_)
                                      clear hf; intro a hf
                                      refine step_l (st_rd hf (Wn.some hf rfl rfl rfl rfl) (rd_lenS hf rfl rfl Try.underlying9) hS rfl rfl ?_)
                                      clear hf; intro a hf
                                      refine step_l (st_rd hf (Wn.some hf rfl rfl rfl rfl) (rd_sliceSH hf rfl rfl rfl Try.underlying9 (by omega) (by omega)) hS rfl rfl ?_)
                                      clear hf; intro a hf
                                      refine step_l (st_rdB hf (Wn.some hf rfl rfl rfl rfl) (rd_neqS hf rfl rfl rfl) hS rfl rfl ?_ ?_)
                                      · clear hf; intro hc16 a hf
                                        first
                                        | (first | exact absurd rfl hc16 | exact Bool.noConfusion hc16 | exact absurd hc16 (by omega) | exact absurd (by omega) hc16 | exact absurd (by rw [Int.toNat_natCast, hlt]; exact htt) hc16; done)
                                        | (
                                          refine step_l (st_rd hf (Wn.none rfl) (rd_pick_f hf rfl rfl rfl) hS rfl rfl ?_)
                                          clear hf; intro a hf
                                          refine step_l (st_rd hf (Wn.none rfl) (rd_move hf rfl rfl) hS rfl rfl ?_)
                                          clear hf; intro a hf
                                          refine step_l (st_skip hf (Wn.some hf rfl rfl rfl rfl) rfl rfl ?_)
                                          clear hf; intro a hf
                                          refine step_l (st_skip hf (Wn.some hf rfl rfl rfl rfl) rfl rfl ?_)
                                          clear hf; intro a hf
                                          refine step_l (st_skip hf (Wn.some hf rfl rfl rfl rfl) rfl rfl ?_)
                                          clear hf; intro a hf
                                          refine step_l (st_skip hf (Wn.undef hf rfl rfl rfl) rfl rfl ?_)
                                          clear hf; intro a hf
                                          refine step_l (st_skip hf (Wn.undef hf rfl rfl rfl) rfl rfl ?_)
                                          clear hf; intro a hf
                                          refine step_l (st_skip hf (Wn.undef hf rfl rfl rfl) rfl rfl ?_)
                                          clear hf; intro a hf
                                          refine step_l (st_skip hf (Wn.undef hf rfl rfl rfl) rfl rfl ?_)
                                          clear hf; intro a hf
                                          refine step_l (st_skip hf (Wn.some hf rfl rfl rfl rfl) rfl rfl ?_)
                                          clear hf; intro a hf
                                          refine step_l (st_rd hf (Wn.none rfl) (rd_pick_t hf rfl rfl rfl) hS rfl rfl ?_)
                                          clear hf; intro a hf
                                          refine done_l ?_
                                          refine t_normal ?_
                                          refine c_true hf rfl ?_
                                          refine c_seq ?_
                                          refine c_region ?_
                                          refine step_l (st_rd hf (Wn.none rfl) (rd_assign hf rfl rfl) hS rfl rfl ?_)
                                          clear hf; intro a hf
                                          refine done_l ?_
                                          refine t_normal ?_
                                          refine c_ret ?_
                                          refine t_ret ?_
                                          refine b_ret ?_
                                          refine t_ret ?_
                                          refine t_ret ?_
                                          refine b_ret ?_
                                          refine t_ret ?_
                                          refine e_res1 hf.defers rfl (res_tmp hf rfl .nil) ?_
                                          exact ⟨rfl, hS.sub (by repeat (first | exact Sub.refl | exact Sub.none | exact Sub.behind | (apply Sub.cons; (focus ((repeat (first | exact Sel.head | apply Sel.tail)); done))) | apply Sub.skip))⟩
                                          )
                                      · clear hf; intro hc16 a hf
                                        first
                                        | (first | exact absurd rfl hc16 | exact Bool.noConfusion hc16 | exact absurd hc16 (by omega) | exact absurd (by omega) hc16 | exact absurd (by rw [Int.toNat_natCast, hlt]; exact htt) hc16; done)
                                        | (
                                          refine step_l (st_rd hf (Wn.none rfl) (rd_pick_f hf rfl rfl rfl) hS rfl rfl ?_)
                                          clear hf; intro a hf
                                          refine step_l (st_rd hf (Wn.none rfl) (rd_move hf rfl rfl) hS rfl rfl ?_)
                                          clear hf; intro a hf
                                          refine step_l (st_rd hf (Wn.some hf rfl rfl rfl rfl) (rd_move hf rfl rfl) hS rfl rfl ?_)
                                          clear hf; intro a hf
                                          refine step_l (st_rdB hf (Wn.some hf rfl rfl rfl rfl) (rd_gtr hf rfl rfl rfl) hS rfl rfl ?_ ?_)
                                          · clear hf; intro hc17 a hf
                                            first
                                            | (first | exact absurd rfl hc17 | exact Bool.noConfusion hc17 | exact absurd hc17 (by omega) | exact absurd (by omega) hc17 | exact absurd (by rw [Int.toNat_natCast, hlt]; exact htt) hc17; done)
                                            | (
                                              refine step_l (st_rd hf (Wn.some hf rfl rfl rfl rfl) (rd_move hf rfl rfl) hS rfl rfl ?_)
                                              clear hf; intro a hf
                                              refine step_l (st_rd hf (Wn.some hf rfl rfl rfl rfl) (rd_move hf rfl rfl) hS rfl rfl ?_)
                                              clear hf; intro a hf
                                              refine step_l (st_rd hf (Wn.some hf rfl rfl rfl rfl) (rd_lenS hf rfl rfl Try.underlying9) hS rfl rfl ?_)
                                              clear hf; intro a hf
                                              refine step_l (st_rd hf (Wn.some hf rfl rfl rfl rfl) (rd_move hf rfl rfl) hS rfl rfl ?_)
                                              clear hf; intro a hf
                                              refine step_l (st_rdB hf (Wn.some hf rfl rfl rfl rfl) (rd_neq hf rfl rfl rfl) hS rfl rfl ?_ ?_)
                                              · clear hf; intro hc18 a hf
                                                first
                                                | (first | exact absurd rfl hc18 | exact Bool.noConfusion hc18 | exact absurd hc18 (by omega) | exact absurd (by omega) hc18 | exact absurd (by rw [Int.toNat_natCast, hlt]; exact htt) hc18; done)
                                                | (
                                                  refine step_l (st_rd hf (Wn.some hf rfl rfl rfl rfl) (rd_pick_t hf rfl rfl rfl) hS rfl rfl ?_)
                                                  clear hf; intro a hf
                                                  refine step_l (st_rd hf (Wn.none rfl) (rd_pick_f hf rfl rfl rfl) hS rfl rfl ?_)
                                                  clear hf; intro a hf
                                                  refine done_l ?_
                                                  refine t_normal ?_
                                                  refine c_true hf rfl ?_
                                                  refine c_seq ?_
                                                  refine c_region ?_
                                                  refine step_l (st_rd hf (Wn.none rfl) (rd_assign hf rfl rfl) hS rfl rfl ?_)
                                                  clear hf; intro a hf
                                                  refine done_l ?_
                                                  refine t_normal ?_
                                                  refine c_ret ?_
                                                  refine t_ret ?_
                                                  refine b_ret ?_
                                                  refine t_ret ?_
                                                  refine t_ret ?_
                                                  refine b_ret ?_
                                                  refine t_ret ?_
                                                  refine e_res1 hf.defers rfl (res_tmp hf rfl .nil) ?_
                                                  exact ⟨rfl, hS.sub (by repeat (first | exact Sub.refl | exact Sub.none | exact Sub.behind | (apply Sub.cons; (focus ((repeat (first | exact Sel.head | apply Sel.tail)); done))) | apply Sub.skip))⟩
                                                  )
                                              · clear hf; intro hc18 a hf
                                                first
                                                | (first | exact absurd rfl hc18 | exact Bool.noConfusion hc18 | exact absurd hc18 (by omega) | exact absurd (by omega) hc18 | exact absurd (by rw [Int.toNat_natCast, hlt]; exact htt) hc18; done)
                                                | (
                                                  refine step_l (st_rd hf (Wn.some hf rfl rfl rfl rfl) (rd_pick_t hf rfl rfl rfl) hS rfl rfl ?_)
                                                  clear hf; intro a hf
                                                  refine step_l (st_rd hf (Wn.none rfl) (rd_pick_f hf rfl rfl rfl) hS rfl rfl ?_)
                                                  clear hf; intro a hf
                                                  refine done_l ?_
                                                  refine t_normal ?_
                                                  refine c_false hf rfl ?_
                                                  refine c_skip ?_
                                                  refine t_normal ?_
                                                  refine c_region ?_
                                                  refine step_l (st_rd hf (Wn.none rfl) (rd_move hf rfl rfl) hS rfl rfl ?_)
                                                  clear hf; intro a hf
                                                  refine step_l (st_rd hf (Wn.none rfl) (rd_lenS hf rfl rfl Try.underlying9) hS rfl rfl ?_)
                                                  clear hf; intro a hf
                                                  refine step_l (st_rd hf (Wn.none rfl) (rd_assign hf rfl rfl) hS rfl rfl ?_)
                                                  clear hf; intro a hf
                                                  refine done_l ?_
                                                  refine b_normal ?_
                                                  refine t_normal ?_
                                                  refine c_region ?_
                                                  refine step_l (st_rd hf (Wn.none rfl) (rd_add hf rfl rfl rfl (by first | exact Go.IntWalk.i64_in _ (by omega) | exact rfl)) hS rfl rfl ?_)
                                                  clear hf; intro a hf
                                                  refine step_l (st_rd hf (Wn.none rfl) (rd_move hf rfl rfl) hS rfl rfl ?_)
                                                  clear hf; intro a hf
                                                  refine done_l ?_
                                                  refine t_normal ⟨(k + 1, dCraN ((ta ++ tb ++ tc).take n) su p, dCraN ((ta ++ tb ++ tc).take n) su p), (((hf.back (by repeat (first | exact Behind.refl | refine Behind.skip rfl ?_)) hk0).kb hf 72 rfl (by first | rfl | exact int_eq (by omega))).kb hf 11 rfl (by exact int_eq (by rw [htt, List.length_take]; omega))), ⟨(by rw [htt] at hS; exact hS.sub (by repeat (first | exact Sub.refl | exact Sub.none | exact Sub.behind | (apply Sub.cons; (focus ((repeat (first | exact Sel.head | apply Sel.tail)); done))) | apply Sub.skip))), ⟨by omega, by omega, by omega, by omega, by omega, fun _ => rfl⟩⟩, by first | omega | (simp only []; omega)⟩
                                                  )
                                              )
                                          · clear hf; intro hc17 a hf
                                            first
                                            | (first | exact absurd rfl hc17 | exact Bool.noConfusion hc17 | exact absurd hc17 (by omega) | exact absurd (by omega) hc17 | exact absurd (by rw [Int.toNat_natCast, hlt]; exact htt) hc17; done)
                                            | (
                                              refine step_l (st_rd hf (Wn.some hf rfl rfl rfl rfl) (rd_move hf rfl rfl) hS rfl rfl ?_)
                                              clear hf; intro a hf
                                              refine step_l (st_skip hf (Wn.some hf rfl rfl rfl rfl) rfl rfl ?_)
                                              clear hf; intro a hf
                                              refine step_l (st_skip hf (Wn.some hf rfl rfl rfl rfl) rfl rfl ?_)
                                              clear hf; intro a hf
                                              refine step_l (st_skip hf (Wn.some hf rfl rfl rfl rfl) rfl rfl ?_)
                                              clear hf; intro a hf
                                              refine step_l (st_skip hf (Wn.some hf rfl rfl rfl rfl) rfl rfl ?_)
                                              clear hf; intro a hf
                                              refine step_l (st_rd hf (Wn.some hf rfl rfl rfl rfl) (rd_pick_f hf rfl rfl rfl) hS rfl rfl ?_)
                                              clear hf; intro a hf
                                              refine step_l (st_rd hf (Wn.none rfl) (rd_pick_f hf rfl rfl rfl) hS rfl rfl ?_)
                                              clear hf; intro a hf
                                              refine done_l ?_
                                              refine t_normal ?_
                                              refine c_false hf rfl ?_
                                              refine c_skip ?_
                                              refine t_normal ?_
                                              refine c_region ?_
                                              refine step_l (st_rd hf (Wn.none rfl) (rd_move hf rfl rfl) hS rfl rfl ?_)
                                              clear hf; intro a hf
                                              refine step_l (st_rd hf (Wn.none rfl) (rd_lenS hf rfl rfl Try.underlying9) hS rfl rfl ?_)
                                              clear hf; intro a hf
                                              refine step_l (st_rd hf (Wn.none rfl) (rd_assign hf rfl rfl) hS rfl rfl ?_)
                                              clear hf; intro a hf
                                              refine done_l ?_
                                              refine b_normal ?_
                                              refine t_normal ?_
                                              refine c_region ?_
                                              refine step_l (st_rd hf (Wn.none rfl) (rd_add hf rfl rfl rfl (by first | exact Go.IntWalk.i64_in _ (by omega) | exact rfl)) hS rfl rfl ?_)
                                              clear hf; intro a hf
                                              refine step_l (st_rd hf (Wn.none rfl) (rd_move hf rfl rfl) hS rfl rfl ?_)
                                              clear hf; intro a hf
                                              refine done_l ?_
                                              refine t_normal ⟨(k + 1, dCraN ((ta ++ tb ++ tc).take n) su p, dCraN ((ta ++ tb ++ tc).take n) su p), (((hf.back (by repeat (first | exact Behind.refl | refine Behind.skip rfl ?_)) hk0).kb hf 72 rfl (by first | rfl | exact int_eq (by omega))).kb hf 11 rfl (by exact int_eq (by rw [htt, List.length_take]; omega))), ⟨(by rw [htt] at hS; exact hS.sub (by repeat (first | exact Sub.refl | exact Sub.none | exact Sub.behind | (apply Sub.cons; (focus ((repeat (first | exact Sel.head | apply Sel.tail)); done))) | apply Sub.skip))), ⟨by omega, by omega, by omega, by omega, by omega, fun _ => rfl⟩⟩, by first | omega | (simp only []; omega)⟩
                                              )
                                          )
                                      )
                                  )
                              )
                          )
                      · clear hf; intro hc11 a hf
                        first
                        | (first | exact absurd rfl hc11 | exact Bool.noConfusion hc11 | exact absurd hc11 (by omega) | exact absurd (by omega) hc11 | exact absurd (by rw [Int.toNat_natCast, hlt]; exact htt) hc11; done)
                        | (
                          refine done_l ?_
                          refine t_normal ?_
                          refine c_seq ?_
                          refine c_false hf rfl ?_
                          refine c_exit ?_
                          refine t_exit ?_
                          refine t_exit ?_
                          refine b_exit ?_
                          refine t_normal ?_
                          refine c_seq ?_
                          refine c_region ?_
                          refine step_l (st_call hf (Wn.none rfl) rfl rfl rfl fn13 (awake_c hS) rfl rfl ?_)
                          clear hf hS; rintro v a w ⟨rfl, hS⟩ hf
                          refine step_l (st_rd hf (Wn.none rfl) (rd_assign hf rfl rfl) hS rfl rfl ?_)
                          clear hf; intro a hf
                          refine done_l ?_
                          refine t_normal ?_
                          refine c_ret ?_
                          refine e_res1 hf.defers rfl (res_tmp hf rfl .nil) ?_
                          exact ⟨rfl, hS.sub (by repeat (first | exact Sub.refl | exact Sub.none | exact Sub.behind | (apply Sub.cons; (focus ((repeat (first | exact Sel.head | apply Sel.tail)); done))) | apply Sub.skip))⟩
                          )
                      )
                  )
              )
          )
      )

end Go.Proofs.Ytkefaknojnhelaa
