/-
  The statement FrameLong, walked.
  Conditions: none.
-/
import Derived.Test.YtbfjfffeeelikaaFlaw1
namespace Go.Proofs.Ytbfjfffeeelikaa
open Go Go.Sl
set_option linter.unusedVariables false
set_option linter.unusedSimpArgs false
theorem fn11 : fnB Try.prog 11 = true := by kernel_rfl
theorem fn12 : fnB Try.prog 12 = true := by kernel_rfl
theorem FrameLong_c (n0 : Int) (short : Bool) {W : World} {R : List HP} {w : World} (hS : Sat W (R) w)  : Calls Try.prog 4 [.int .i64 n0, .bool short].toArray w (Ret fun v w' => v = .bool true ∧ Sat W R w') := by
  refine fn_start 92 Try.func4 rfl rfl rfl ?_
  intro a hf
  refine c_seq ?_
  refine c_region ?_
  refine step_l (st_rd hf (Wn.none rfl) (rd_assign hf rfl rfl) hS rfl rfl ?_)
  clear hf; intro a hf
  refine done_l ?_
  refine t_normal ?_
  refine c_seq ?_
  refine c_region ?_
  refine step_l (st_rd hf (Wn.none rfl) (rd_move hf rfl rfl) hS rfl rfl ?_)
  clear hf; intro a hf
  refine step_l (st_rd hf (Wn.none rfl) (rd_convInt hf rfl rfl Try.underlying3 Try.underlying29 rfl) hS rfl rfl ?_)
  clear hf; intro a hf
  refine step_l (st_rd hf (Wn.none rfl) (rd_rem hf rfl rfl rfl (by first | decide | omega) (u64mod (m := 5) n0 (by decide))) hS rfl rfl ?_)
  clear hf; intro a hf
  refine step_l (st_rd hf (Wn.none rfl) (rd_convInt hf rfl rfl Try.underlying29 Try.underlying3 (Go.IntWalk.i64_in _ (by omega))) hS rfl rfl ?_)
  clear hf; intro a hf
  refine step_l (st_rd hf (Wn.none rfl) (rd_add hf rfl rfl rfl ((Go.IntWalk.i64_in _ (by omega)).trans (show (59998 : Int) + (((n0 % 18446744073709551616).toNat % 5 : Nat) : Int) = ((59998 + (n0 % 18446744073709551616).toNat % 5 : Nat) : Int) by omega))) hS rfl rfl ?_)
  clear hf; intro a hf
  refine step_l (st_rd hf (Wn.none rfl) (rd_assign hf rfl rfl) hS rfl rfl ?_)
  clear hf; intro a hf
  refine done_l ?_
  obtain ⟨n, hdn⟩ : ∃ n : Nat, n = 59998 + (n0 % 18446744073709551616).toNat % 5 := ⟨_, rfl⟩; rw [← hdn] at hf; have hn1 : n ≤ 60002 := by omega
  have hrl : (List.replicate n (0 : UInt8)).length = n := List.length_replicate
  refine t_normal ?_
  refine c_seq ?_
  refine c_region ?_
  refine step_l (st_rd hf (Wn.none rfl) (rd_move hf rfl rfl) hS rfl rfl ?_)
  clear hf; intro a hf
  refine step_l (st_make hf (Wn.none rfl) hS rfl rfl rfl Try.underlying22 tyb5 (by omega) (by simp only [maxLen]; omega) rfl rfl ?_)
  clear hf hS; intro b_1 a w hf hS; rw [made_bytes] at hS
  refine step_l (st_rd hf (Wn.none rfl) (rd_assign hf rfl rfl) hS rfl rfl ?_)
  clear hf; intro a hf
  refine done_l ?_
  refine t_normal ?_
  refine c_seq ?_
  refine c_region ?_
  refine step_l (st_rd hf (Wn.none rfl) (rd_move hf rfl rfl) hS rfl rfl ?_)
  clear hf; intro a hf
  refine step_l (st_call hf (Wn.none rfl) rfl rfl rfl fn10 (PutA_c [] _ _ _ (List.replicate n 0) _ _ _ hS rfl (by simp) (fun _ h => SlAt.nil _ _ _) hrl.symm (fun _ h => (by rw [hrl]; exact h.slOfRw (by repeat (first | exact Sel.head | apply Sel.tail))))) rfl rfl ?_)
  clear hf hS; rintro v a w ⟨qb, capb, rfl, hS⟩ hf
  refine step_l (st_rd hf (Wn.none rfl) (rd_move hf rfl rfl) hS rfl rfl ?_)
  clear hf; intro a hf
  refine step_l (st_rd hf (Wn.none rfl) (rd_extract hf rfl rfl rfl) hS rfl rfl ?_)
  clear hf; intro a hf
  refine step_l (st_rd hf (Wn.none rfl) (rd_extract hf rfl rfl rfl) hS rfl rfl ?_)
  clear hf; intro a hf
  refine step_l (st_rd hf (Wn.none rfl) (rd_assign hf rfl rfl) hS rfl rfl ?_)
  clear hf; intro a hf
  refine step_l (st_rd hf (Wn.none rfl) (rd_assign hf rfl rfl) hS rfl rfl ?_)
  clear hf; intro a hf
  refine done_l ?_
  refine t_normal ?_
  refine c_seq ?_
  refine c_seq ?_
  refine c_region ?_
  refine step_l (st_rd hf (Wn.none rfl) (rd_move hf rfl rfl) hS rfl rfl ?_)
  clear hf; intro a hf
  refine step_l (st_rdB hf (Wn.none rfl) (rd_gtr hf rfl rfl rfl) hS rfl rfl ?_ ?_)
  · clear hf; intro hc2 a hf
    obtain ⟨hp1, hp2⟩ := put_no (b := []) (r := (List.replicate n 0)) (by omega); rw [hp1, hp2] at hf; rw [hp1] at hS
    first
    | (first | exact Bool.noConfusion hc2 | exact absurd rfl hc2 | exact absurd hc2 (by decide) | exact absurd (by omega) hc2; done)
    | (
      refine done_l ?_
      refine t_normal ?_
      refine c_true hf rfl ?_
      refine c_seq ?_
      refine c_region ?_
      refine step_l (st_rd hf (Wn.none rfl) (rd_move hf rfl rfl) hS rfl rfl ?_)
      clear hf; intro a hf
      refine step_l (st_call hf (Wn.none rfl) rfl rfl rfl fn12 (RFrame_c (List.replicate n 0) _ _ _ hS hrl.symm (by rw [hrl]; omega) (fun _ h => (by rw [hrl]; exact h.slOfRw (by repeat (first | exact Sel.head | apply Sel.tail))))) rfl rfl ?_)
      clear hf hS; rintro v a w ⟨qf, capf, rfl, hS⟩ hf
      refine step_l (st_call hf (Wn.none rfl) rfl rfl rfl fn13 (FTake_c (frB (List.replicate n 0)) _ _ _ hS rfl (by rw [frB_len, hrl]; omega) (hS.rwLen (by repeat (first | exact Sel.head | apply Sel.tail))).2.1 (fun _ h => h.slOfRw (by repeat (first | exact Sel.head | apply Sel.tail)))) rfl rfl ?_)
      clear hf hS; rintro v a w ⟨qt, capt, rfl, hS⟩ hf; rw [tk_frLong (by omega) (by omega)] at hf
      refine step_l (st_rd hf (Wn.none rfl) (rd_move hf rfl rfl) hS rfl rfl ?_)
      clear hf; intro a hf
      refine step_l (st_rd hf (Wn.none rfl) (rd_extract hf rfl rfl rfl) hS rfl rfl ?_)
      clear hf; intro a hf
      refine step_l (st_rd hf (Wn.none rfl) (rd_extract hf rfl rfl rfl) hS rfl rfl ?_)
      clear hf; intro a hf
      refine step_l (st_rd hf (Wn.none rfl) (rd_extract hf rfl rfl rfl) hS rfl rfl ?_)
      clear hf; intro a hf
      refine step_l (st_rd hf (Wn.none rfl) (rd_assign hf rfl rfl) hS rfl rfl ?_)
      clear hf; intro a hf
      refine step_l (st_rd hf (Wn.none rfl) (rd_assign hf rfl rfl) hS rfl rfl ?_)
      clear hf; intro a hf
      refine step_l (st_rd hf (Wn.none rfl) (rd_assign hf rfl rfl) hS rfl rfl ?_)
      clear hf; intro a hf
      refine done_l ?_
      refine t_normal ?_
      refine c_seq ?_
      refine c_region ?_
      refine step_l (st_rd hf (Wn.none rfl) (rd_move hf rfl rfl) hS rfl rfl ?_)
      clear hf; intro a hf
      refine step_l (st_rdB hf (Wn.none rfl) (rd_eql hf rfl rfl rfl) hS rfl rfl ?_ ?_)
      · clear hf; intro hc3 a hf
        first
        | (first | exact Bool.noConfusion hc3 | exact absurd rfl hc3 | exact absurd hc3 (by decide) | exact absurd (by omega) hc3; done)
        | (
          refine step_l (st_rd hf (Wn.none rfl) (rd_move hf rfl rfl) hS rfl rfl ?_)
          clear hf; intro a hf
          refine step_l (st_rd hf (Wn.some hf rfl rfl rfl rfl) (rd_move hf rfl rfl) hS rfl rfl ?_)
          clear hf; intro a hf
          refine step_l (st_rd hf (Wn.some hf rfl rfl rfl rfl) (rd_len hf rfl rfl Try.underlying22) hS rfl rfl ?_)
          clear hf; intro a hf
          refine step_l (st_rdB hf (Wn.some hf rfl rfl rfl rfl) (rd_eql hf rfl rfl rfl) hS rfl rfl ?_ ?_)
          · clear hf; intro hc4 a hf
            first
            | (first | exact Bool.noConfusion hc4 | exact absurd rfl hc4 | exact absurd hc4 (by decide) | exact absurd (by omega) hc4; done)
            | (
              refine step_l (st_rd hf (Wn.none rfl) (rd_pick_t hf rfl rfl rfl) hS rfl rfl ?_)
              clear hf; intro a hf
              refine step_l (st_rd hf (Wn.none rfl) (rd_move hf rfl rfl) hS rfl rfl ?_)
              clear hf; intro a hf
              refine step_l (st_rd hf (Wn.some hf rfl rfl rfl rfl) (rd_move hf rfl rfl) hS rfl rfl ?_)
              clear hf; intro a hf
              refine step_l (st_rdB hf (Wn.some hf rfl rfl rfl rfl) (rd_eql hf rfl rfl rfl) hS rfl rfl ?_ ?_)
              · clear hf; intro hc5 a hf
                first
                | (first | exact Bool.noConfusion hc5 | exact absurd rfl hc5 | exact absurd hc5 (by decide) | exact absurd (by omega) hc5; done)
                | (
                  refine step_l (st_rd hf (Wn.none rfl) (rd_pick_t hf rfl rfl rfl) hS rfl rfl ?_)
                  clear hf; intro a hf
                  refine step_l (st_rd hf (Wn.none rfl) (rd_move hf rfl rfl) hS rfl rfl ?_)
                  clear hf; intro a hf
                  refine step_l (st_call hf (Wn.some hf rfl rfl rfl rfl) rfl rfl rfl fn11 (awake_c hS) rfl rfl ?_)
                  clear hf hS; rintro v a w ⟨rfl, hS⟩ hf
                  refine step_l (st_rd hf (Wn.none rfl) (rd_pick_t hf rfl rfl rfl) hS rfl rfl ?_)
                  clear hf; intro a hf
                  refine step_l (st_rd hf (Wn.none rfl) (rd_assign hf rfl rfl) hS rfl rfl ?_)
                  clear hf; intro a hf
                  refine done_l ?_
                  refine t_normal ?_
                  refine c_ret ?_
                  refine t_ret ?_
                  refine e_res1 hf.defers rfl (res_tmp hf rfl .nil) ?_
                  exact ⟨rfl, hS.sub (by repeat (first | exact Sub.refl | exact Sub.none | exact Sub.behind | (apply Sub.cons; (focus ((repeat (first | exact Sel.head | apply Sel.tail)); done))) | apply Sub.skip))⟩
                  )
              · clear hf; intro hc5 a hf
                exact absurd rfl hc5
              )
          · clear hf; intro hc4 a hf
            exact absurd rfl hc4
          )
      · clear hf; intro hc3 a hf
        exact absurd rfl hc3
      )
  · clear hf; intro hc2 a hf
    obtain ⟨hp1, hp2⟩ := put_yes (b := []) (r := (List.replicate n 0)) (by omega); rw [hp1, hp2, List.nil_append] at hf; rw [hp1, List.nil_append] at hS; have hfl := frB_len (List.replicate n 0); have hL := (hS.rwLen (by repeat (first | exact Sel.head | apply Sel.tail)) : _ ∧ _ ≤ capb ∧ _).2.1
    first
    | (first | exact Bool.noConfusion hc2 | exact absurd rfl hc2 | exact absurd hc2 (by decide) | exact absurd (by omega) hc2; done)
    | (
      refine done_l ?_
      refine t_normal ?_
      refine c_false hf rfl ?_
      refine c_skip ?_
      refine t_normal ?_
      refine c_seq ?_
      refine c_seq ?_
      refine c_region ?_
      refine step_l (st_rdb hf (Wn.none rfl) (rd_move hf rfl rfl) hS rfl rfl ?_ ?_)
      · clear hf; intro hc6 a hf
        subst hc6
        first
        | (first | exact Bool.noConfusion hc6 | exact absurd rfl hc6 | exact absurd hc6 (by decide) | exact absurd (by omega) hc6; done)
        | (
          refine done_l ?_
          refine t_normal ?_
          refine c_true hf rfl ?_
          refine c_region ?_
          refine step_l (st_rd hf (Wn.none rfl) (rd_move hf rfl rfl) hS rfl rfl ?_)
          clear hf; intro a hf
          refine step_l (st_rd hf (Wn.none rfl) (rd_move hf rfl rfl) hS rfl rfl ?_)
          clear hf; intro a hf
          refine step_l (st_rd hf (Wn.none rfl) (rd_len hf rfl rfl Try.underlying22) hS rfl rfl ?_)
          clear hf; intro a hf
          refine step_l (st_rd hf (Wn.none rfl) (rd_sub hf rfl rfl rfl (by first | exact Go.IntWalk.i64_in _ (by omega) | exact rfl)) hS rfl rfl ?_)
          clear hf; intro a hf
          refine step_l (st_rd hf (Wn.none rfl) (rd_max hf rfl rfl rfl) hS rfl rfl ?_)
          clear hf; intro a hf
          refine step_l (st_rd hf (Wn.none rfl) (rd_sliceH hf rfl rfl rfl Try.underlying22 sz5 (by omega) (by omega)) hS rfl rfl ?_)
          clear hf; intro a hf
          refine step_l (st_rd hf (Wn.none rfl) (rd_assign hf rfl rfl) hS rfl rfl ?_)
          clear hf; intro a hf
          refine done_l ?_
          obtain ⟨m, hm⟩ : ∃ m, m = (max 0 (((frB (List.replicate n 0)).length : Int) - 1)).toNat := ⟨_, rfl⟩
          rw [← hm] at hf
          obtain ⟨hm2, hm3, hE1, hE2⟩ : m ≤ (frB (List.replicate n 0)).length ∧ m = ((frB (List.replicate n 0)).take m).length ∧ tkE ((frB (List.replicate n 0)).take m) = 2 ∧ tkN ((frB (List.replicate n 0)).take m) = 0 := (fun (hm1 : m < (frB (List.replicate n 0)).length) => ⟨Nat.le_of_lt hm1, (by rw [List.length_take]; omega), tk_cut0 (by omega) (by omega), (tk_no (tk_cut0 (r := (List.replicate n 0)) (by omega) (by omega)) (by decide)).2⟩) (by omega)
          refine t_normal ?_
          refine c_seq ?_
          refine c_region ?_
          refine step_l (st_rd hf (Wn.none rfl) (rd_move hf rfl rfl) hS rfl rfl ?_)
          clear hf; intro a hf
          refine step_l (st_call hf (Wn.none rfl) rfl rfl rfl fn13 (FTake_c ((frB (List.replicate n 0)).take m) _ _ _ hS hm3 (by rw [List.length_take]; omega) (by rw [List.length_take]; omega) (fun _ h => take1 (h.slOfRw (by repeat (first | exact Sel.head | apply Sel.tail))) hm2)) rfl rfl ?_)
          clear hf hS; rintro v a w ⟨qt, capt, rfl, hS⟩ hf; rw [hE1, hE2] at hf
          refine step_l (st_rd hf (Wn.none rfl) (rd_move hf rfl rfl) hS rfl rfl ?_)
          clear hf; intro a hf
          refine step_l (st_rd hf (Wn.none rfl) (rd_extract hf rfl rfl rfl) hS rfl rfl ?_)
          clear hf; intro a hf
          refine step_l (st_rd hf (Wn.none rfl) (rd_extract hf rfl rfl rfl) hS rfl rfl ?_)
          clear hf; intro a hf
          refine step_l (st_rd hf (Wn.none rfl) (rd_extract hf rfl rfl rfl) hS rfl rfl ?_)
          clear hf; intro a hf
          refine step_l (st_rd hf (Wn.none rfl) (rd_assign hf rfl rfl) hS rfl rfl ?_)
          clear hf; intro a hf
          refine step_l (st_rd hf (Wn.none rfl) (rd_assign hf rfl rfl) hS rfl rfl ?_)
          clear hf; intro a hf
          refine step_l (st_rd hf (Wn.none rfl) (rd_assign hf rfl rfl) hS rfl rfl ?_)
          clear hf; intro a hf
          refine done_l ?_
          refine t_normal ?_
          refine c_seq ?_
          refine c_region ?_
          refine step_l (st_rd hf (Wn.none rfl) (rd_move hf rfl rfl) hS rfl rfl ?_)
          clear hf; intro a hf
          refine step_l (st_rdB hf (Wn.none rfl) (rd_eql hf rfl rfl rfl) hS rfl rfl ?_ ?_)
          · clear hf; intro hc7 a hf
            first
            | (first | exact Bool.noConfusion hc7 | exact absurd rfl hc7 | exact absurd hc7 (by decide) | exact absurd (by omega) hc7; done)
            | (
              refine step_l (st_rd hf (Wn.none rfl) (rd_move hf rfl rfl) hS rfl rfl ?_)
              clear hf; intro a hf
              refine step_l (st_rdb hf (Wn.some hf rfl rfl rfl rfl) (rd_move hf rfl rfl) hS rfl rfl ?_ ?_)
              · clear hf; intro hc8 a hf
                first
                | (first | exact Bool.noConfusion hc8 | exact absurd rfl hc8 | exact absurd hc8 (by decide) | exact absurd (by omega) hc8; done)
                | (
                  refine step_l (st_rd hf (Wn.some hf rfl rfl rfl rfl) (rd_move hf rfl rfl) hS rfl rfl ?_)
                  clear hf; intro a hf
                  refine step_l (st_rd hf (Wn.some hf rfl rfl rfl rfl) (rd_move hf rfl rfl) hS rfl rfl ?_)
                  clear hf; intro a hf
                  refine step_l (st_rdB hf (Wn.some hf rfl rfl rfl rfl) (rd_eql hf rfl rfl rfl) hS rfl rfl ?_ ?_)
                  · clear hf; intro hc9 a hf
                    first
                    | (first | exact Bool.noConfusion hc9 | exact absurd rfl hc9 | exact absurd hc9 (by decide) | exact absurd (by omega) hc9; done)
                    | (
                      refine step_l (st_rd hf (Wn.some hf rfl rfl rfl rfl) (rd_pick_t hf rfl rfl rfl) hS rfl rfl ?_)
                      clear hf; intro a hf
                      refine step_l (st_rd hf (Wn.some hf rfl rfl rfl rfl) (rd_move hf rfl rfl) hS rfl rfl ?_)
                      clear hf; intro a hf
                      refine step_l (st_rd hf (Wn.some hf rfl rfl rfl rfl) (rd_move hf rfl rfl) hS rfl rfl ?_)
                      clear hf; intro a hf
                      refine step_l (st_rdB hf (Wn.some hf rfl rfl rfl rfl) (rd_eql hf rfl rfl rfl) hS rfl rfl ?_ ?_)
                      · clear hf; intro hc10 a hf
                        first
                        | (first | exact Bool.noConfusion hc10 | exact absurd rfl hc10 | exact absurd hc10 (by decide) | exact absurd (by omega) hc10; done)
                        | (
                          refine step_l (st_rd hf (Wn.some hf rfl rfl rfl rfl) (rd_pick_t hf rfl rfl rfl) hS rfl rfl ?_)
                          clear hf; intro a hf
                          refine step_l (st_rd hf (Wn.some hf rfl rfl rfl rfl) (rd_move hf rfl rfl) hS rfl rfl ?_)
                          clear hf; intro a hf
                          refine step_l (st_skip hf (Wn.some hf rfl rfl rfl rfl) rfl rfl ?_)
                          clear hf; intro a hf
                          refine step_l (st_skip hf (Wn.some hf rfl rfl rfl rfl) rfl rfl ?_)
                          clear hf; intro a hf
                          refine step_l (st_skip hf (Wn.some hf rfl rfl rfl rfl) rfl rfl ?_)
                          clear hf; intro a hf
                          refine step_l (st_skip hf (Wn.undef hf rfl rfl rfl) rfl rfl ?_)
                          clear hf; intro a hf
                          refine step_l (st_skip hf (Wn.undef hf rfl rfl rfl) rfl rfl ?_)
                          clear hf; intro a hf
                          refine step_l (st_skip hf (Wn.some hf rfl rfl rfl rfl) rfl rfl ?_)
                          clear hf; intro a hf
                          refine step_l (st_skip hf (Wn.some hf rfl rfl rfl rfl) rfl rfl ?_)
                          clear hf; intro a hf
                          refine step_l (st_skip hf (Wn.undef hf rfl rfl rfl) rfl rfl ?_)
                          clear hf; intro a hf
                          refine step_l (st_skip hf (Wn.undef hf rfl rfl rfl) rfl rfl ?_)
                          clear hf; intro a hf
                          refine step_l (st_skip hf (Wn.undef hf rfl rfl rfl) rfl rfl ?_)
                          clear hf; intro a hf
                          refine step_l (st_skip hf (Wn.undef hf rfl rfl rfl) rfl rfl ?_)
                          clear hf; intro a hf
                          refine step_l (st_skip hf (Wn.some hf rfl rfl rfl rfl) rfl rfl ?_)
                          clear hf; intro a hf
                          refine step_l (st_rd hf (Wn.some hf rfl rfl rfl rfl) (rd_pick_t hf rfl rfl rfl) hS rfl rfl ?_)
                          clear hf; intro a hf
                          refine step_l (st_rd hf (Wn.none rfl) (rd_pick_t hf rfl rfl rfl) hS rfl rfl ?_)
                          clear hf; intro a hf
                          refine step_l (st_rd hf (Wn.none rfl) (rd_move hf rfl rfl) hS rfl rfl ?_)
                          clear hf; intro a hf
                          refine step_l (st_call hf (Wn.some hf rfl rfl rfl rfl) rfl rfl rfl fn11 (awake_c hS) rfl rfl ?_)
                          clear hf hS; rintro v a w ⟨rfl, hS⟩ hf
                          refine step_l (st_rd hf (Wn.none rfl) (rd_pick_t hf rfl rfl rfl) hS rfl rfl ?_)
                          clear hf; intro a hf
                          refine step_l (st_rd hf (Wn.none rfl) (rd_assign hf rfl rfl) hS rfl rfl ?_)
                          clear hf; intro a hf
                          refine done_l ?_
                          refine t_normal ?_
                          refine c_ret ?_
                          refine e_res1 hf.defers rfl (res_tmp hf rfl .nil) ?_
                          exact ⟨rfl, hS.sub (by repeat (first | exact Sub.refl | exact Sub.none | exact Sub.behind | (apply Sub.cons; (focus ((repeat (first | exact Sel.head | apply Sel.tail)); done))) | apply Sub.skip))⟩
                          )
                      · clear hf; intro hc10 a hf
                        first
                        | (first | exact Bool.noConfusion hc10 | exact absurd rfl hc10 | exact absurd hc10 (by decide) | exact absurd (by omega) hc10; done)
                        | (
                          refine step_l (st_rd hf (Wn.some hf rfl rfl rfl rfl) (rd_pick_t hf rfl rfl rfl) hS rfl rfl ?_)
                          clear hf; intro a hf
                          refine step_l (st_rd hf (Wn.some hf rfl rfl rfl rfl) (rd_move hf rfl rfl) hS rfl rfl ?_)
                          clear hf; intro a hf
                          refine step_l (st_rdb hf (Wn.some hf rfl rfl rfl rfl) (rd_move hf rfl rfl) hS rfl rfl ?_ ?_)
                          · clear hf; intro hc11 a hf
                            first
                            | (first | exact Bool.noConfusion hc11 | exact absurd rfl hc11 | exact absurd hc11 (by decide) | exact absurd (by omega) hc11; done)
                            | (
                              refine step_l (st_rd hf (Wn.some hf rfl rfl rfl rfl) (rd_not hf rfl rfl) hS rfl rfl ?_)
                              clear hf; intro a hf
                              refine step_l (st_rd hf (Wn.some hf rfl rfl rfl rfl) (rd_move hf rfl rfl) hS rfl rfl ?_)
                              clear hf; intro a hf
                              refine step_l (st_skip hf (Wn.some hf rfl rfl rfl rfl) rfl rfl ?_)
                              clear hf; intro a hf
                              refine step_l (st_skip hf (Wn.some hf rfl rfl rfl rfl) rfl rfl ?_)
                              clear hf; intro a hf
                              refine step_l (st_rd hf (Wn.some hf rfl rfl rfl rfl) (rd_pick_f hf rfl rfl rfl) hS rfl rfl ?_)
                              clear hf; intro a hf
                              refine step_l (st_rd hf (Wn.some hf rfl rfl rfl rfl) (rd_move hf rfl rfl) hS rfl rfl ?_)
                              clear hf; intro a hf
                              refine step_l (st_skip hf (Wn.some hf rfl rfl rfl rfl) rfl rfl ?_)
                              clear hf; intro a hf
                              refine step_l (st_skip hf (Wn.some hf rfl rfl rfl rfl) rfl rfl ?_)
                              clear hf; intro a hf
                              refine step_l (st_skip hf (Wn.some hf rfl rfl rfl rfl) rfl rfl ?_)
                              clear hf; intro a hf
                              refine step_l (st_skip hf (Wn.some hf rfl rfl rfl rfl) rfl rfl ?_)
                              clear hf; intro a hf
                              refine step_l (st_rd hf (Wn.some hf rfl rfl rfl rfl) (rd_pick_f hf rfl rfl rfl) hS rfl rfl ?_)
                              clear hf; intro a hf
                              refine step_l (st_rd hf (Wn.some hf rfl rfl rfl rfl) (rd_pick_f hf rfl rfl rfl) hS rfl rfl ?_)
                              clear hf; intro a hf
                              refine step_l (st_rd hf (Wn.none rfl) (rd_pick_t hf rfl rfl rfl) hS rfl rfl ?_)
                              clear hf; intro a hf
                              refine step_l (st_rd hf (Wn.none rfl) (rd_move hf rfl rfl) hS rfl rfl ?_)
                              clear hf; intro a hf
                              refine step_l (st_skip hf (Wn.some hf rfl rfl rfl rfl) rfl rfl ?_)
                              clear hf; intro a hf
                              refine step_l (st_rd hf (Wn.none rfl) (rd_pick_f hf rfl rfl rfl) hS rfl rfl ?_)
                              clear hf; intro a hf
                              refine step_l (st_rd hf (Wn.none rfl) (rd_assign hf rfl rfl) hS rfl rfl ?_)
                              clear hf; intro a hf
                              refine done_l ?_
                              refine t_normal ?_
                              refine c_ret ?_
                              refine e_res1 hf.defers rfl (res_tmp hf rfl .nil) ?_
                              exact ⟨rfl, hS.sub (by repeat (first | exact Sub.refl | exact Sub.none | exact Sub.behind | (apply Sub.cons; (focus ((repeat (first | exact Sel.head | apply Sel.tail)); done))) | apply Sub.skip))⟩
                              )
                          · clear hf; intro hc11 a hf
                            first
                            | (first | exact Bool.noConfusion hc11 | exact absurd rfl hc11 | exact absurd hc11 (by decide) | exact absurd (by omega) hc11; done)
                            | (
                              refine step_l (st_rd hf (Wn.some hf rfl rfl rfl rfl) (rd_not hf rfl rfl) hS rfl rfl ?_)
                              clear hf; intro a hf
                              refine step_l (st_rd hf (Wn.some hf rfl rfl rfl rfl) (rd_move hf rfl rfl) hS rfl rfl ?_)
                              clear hf; intro a hf
                              refine step_l (st_rd hf (Wn.some hf rfl rfl rfl rfl) (rd_move hf rfl rfl) hS rfl rfl ?_)
                              clear hf; intro a hf
                              refine step_l (st_rdB hf (Wn.some hf rfl rfl rfl rfl) (rd_eql hf rfl rfl rfl) hS rfl rfl ?_ ?_)
                              · clear hf; intro hc12 a hf
                                first
                                | (first | exact Bool.noConfusion hc12 | exact absurd rfl hc12 | exact absurd hc12 (by decide) | exact absurd (by omega) hc12; done)
                                | (
                                  refine step_l (st_rd hf (Wn.some hf rfl rfl rfl rfl) (rd_pick_t hf rfl rfl rfl) hS rfl rfl ?_)
                                  clear hf; intro a hf
                                  refine step_l (st_rd hf (Wn.some hf rfl rfl rfl rfl) (rd_move hf rfl rfl) hS rfl rfl ?_)
                                  clear hf; intro a hf
                                  refine step_l (st_rd hf (Wn.some hf rfl rfl rfl rfl) (rd_move hf rfl rfl) hS rfl rfl ?_)
                                  clear hf; intro a hf
                                  refine step_l (st_rd hf (Wn.some hf rfl rfl rfl rfl) (rd_move hf rfl rfl) hS rfl rfl ?_)
                                  clear hf; intro a hf
                                  refine step_l (st_rd hf (Wn.some hf rfl rfl rfl rfl) (rd_add hf rfl rfl rfl (by first | exact Go.IntWalk.i64_in _ (by omega) | exact rfl)) hS rfl rfl ?_)
                                  clear hf; intro a hf
                                  refine step_l (st_rdB hf (Wn.some hf rfl rfl rfl rfl) (rd_eql hf rfl rfl rfl) hS rfl rfl ?_ ?_)
                                  · clear hf; intro hc13 a hf
                                    first
                                    | (first | exact Bool.noConfusion hc13 | exact absurd rfl hc13 | exact absurd hc13 (by decide) | exact absurd (by omega) hc13; done)
                                    | (
                                      refine step_l (st_rd hf (Wn.some hf rfl rfl rfl rfl) (rd_pick_t hf rfl rfl rfl) hS rfl rfl ?_)
                                      clear hf; intro a hf
                                      refine step_l (st_rd hf (Wn.some hf rfl rfl rfl rfl) (rd_pick_f hf rfl rfl rfl) hS rfl rfl ?_)
                                      clear hf; intro a hf
                                      refine step_l (st_rd hf (Wn.none rfl) (rd_pick_t hf rfl rfl rfl) hS rfl rfl ?_)
                                      clear hf; intro a hf
                                      refine step_l (st_rd hf (Wn.none rfl) (rd_move hf rfl rfl) hS rfl rfl ?_)
                                      clear hf; intro a hf
                                      refine step_l (st_call hf (Wn.some hf rfl rfl rfl rfl) rfl rfl rfl fn11 (awake_c hS) rfl rfl ?_)
                                      clear hf hS; rintro v a w ⟨rfl, hS⟩ hf
                                      refine step_l (st_rd hf (Wn.none rfl) (rd_pick_t hf rfl rfl rfl) hS rfl rfl ?_)
                                      clear hf; intro a hf
                                      refine step_l (st_rd hf (Wn.none rfl) (rd_assign hf rfl rfl) hS rfl rfl ?_)
                                      clear hf; intro a hf
                                      refine done_l ?_
                                      refine t_normal ?_
                                      refine c_ret ?_
                                      refine e_res1 hf.defers rfl (res_tmp hf rfl .nil) ?_
                                      exact ⟨rfl, hS.sub (by repeat (first | exact Sub.refl | exact Sub.none | exact Sub.behind | (apply Sub.cons; (focus ((repeat (first | exact Sel.head | apply Sel.tail)); done))) | apply Sub.skip))⟩
                                      )
                                  · clear hf; intro hc13 a hf
                                    first
                                    | (first | exact Bool.noConfusion hc13 | exact absurd rfl hc13 | exact absurd hc13 (by decide) | exact absurd (by omega) hc13; done)
                                    | (
                                      refine step_l (st_rd hf (Wn.some hf rfl rfl rfl rfl) (rd_pick_t hf rfl rfl rfl) hS rfl rfl ?_)
                                      clear hf; intro a hf
                                      refine step_l (st_rd hf (Wn.some hf rfl rfl rfl rfl) (rd_pick_f hf rfl rfl rfl) hS rfl rfl ?_)
                                      clear hf; intro a hf
                                      refine step_l (st_rd hf (Wn.none rfl) (rd_pick_t hf rfl rfl rfl) hS rfl rfl ?_)
                                      clear hf; intro a hf
                                      refine step_l (st_rd hf (Wn.none rfl) (rd_move hf rfl rfl) hS rfl rfl ?_)
                                      clear hf; intro a hf
                                      refine step_l (st_skip hf (Wn.some hf rfl rfl rfl rfl) rfl rfl ?_)
                                      clear hf; intro a hf
                                      refine step_l (st_rd hf (Wn.none rfl) (rd_pick_f hf rfl rfl rfl) hS rfl rfl ?_)
                                      clear hf; intro a hf
                                      refine step_l (st_rd hf (Wn.none rfl) (rd_assign hf rfl rfl) hS rfl rfl ?_)
                                      clear hf; intro a hf
                                      refine done_l ?_
                                      refine t_normal ?_
                                      refine c_ret ?_
                                      refine e_res1 hf.defers rfl (res_tmp hf rfl .nil) ?_
                                      exact ⟨rfl, hS.sub (by repeat (first | exact Sub.refl | exact Sub.none | exact Sub.behind | (apply Sub.cons; (focus ((repeat (first | exact Sel.head | apply Sel.tail)); done))) | apply Sub.skip))⟩
                                      )
                                  )
                              · clear hf; intro hc12 a hf
                                first
                                | (first | exact Bool.noConfusion hc12 | exact absurd rfl hc12 | exact absurd hc12 (by decide) | exact absurd (by omega) hc12; done)
                                | (
                                  refine step_l (st_rd hf (Wn.some hf rfl rfl rfl rfl) (rd_pick_t hf rfl rfl rfl) hS rfl rfl ?_)
                                  clear hf; intro a hf
                                  refine step_l (st_rd hf (Wn.some hf rfl rfl rfl rfl) (rd_move hf rfl rfl) hS rfl rfl ?_)
                                  clear hf; intro a hf
                                  refine step_l (st_skip hf (Wn.some hf rfl rfl rfl rfl) rfl rfl ?_)
                                  clear hf; intro a hf
                                  refine step_l (st_skip hf (Wn.some hf rfl rfl rfl rfl) rfl rfl ?_)
                                  clear hf; intro a hf
                                  refine step_l (st_skip hf (Wn.some hf rfl rfl rfl rfl) rfl rfl ?_)
                                  clear hf; intro a hf
                                  refine step_l (st_skip hf (Wn.some hf rfl rfl rfl rfl) rfl rfl ?_)
                                  clear hf; intro a hf
                                  refine step_l (st_rd hf (Wn.some hf rfl rfl rfl rfl) (rd_pick_f hf rfl rfl rfl) hS rfl rfl ?_)
                                  clear hf; intro a hf
                                  refine step_l (st_rd hf (Wn.some hf rfl rfl rfl rfl) (rd_pick_f hf rfl rfl rfl) hS rfl rfl ?_)
                                  clear hf; intro a hf
                                  refine step_l (st_rd hf (Wn.none rfl) (rd_pick_t hf rfl rfl rfl) hS rfl rfl ?_)
                                  clear hf; intro a hf
                                  refine step_l (st_rd hf (Wn.none rfl) (rd_move hf rfl rfl) hS rfl rfl ?_)
                                  clear hf; intro a hf
                                  refine step_l (st_skip hf (Wn.some hf rfl rfl rfl rfl) rfl rfl ?_)
                                  clear hf; intro a hf
                                  refine step_l (st_rd hf (Wn.none rfl) (rd_pick_f hf rfl rfl rfl) hS rfl rfl ?_)
                                  clear hf; intro a hf
                                  refine step_l (st_rd hf (Wn.none rfl) (rd_assign hf rfl rfl) hS rfl rfl ?_)
                                  clear hf; intro a hf
                                  refine done_l ?_
                                  refine t_normal ?_
                                  refine c_ret ?_
                                  refine e_res1 hf.defers rfl (res_tmp hf rfl .nil) ?_
                                  exact ⟨rfl, hS.sub (by repeat (first | exact Sub.refl | exact Sub.none | exact Sub.behind | (apply Sub.cons; (focus ((repeat (first | exact Sel.head | apply Sel.tail)); done))) | apply Sub.skip))⟩
                                  )
                              )
                          )
                      )
                  · clear hf; intro hc9 a hf
                    first
                    | (first | exact Bool.noConfusion hc9 | exact absurd rfl hc9 | exact absurd hc9 (by decide) | exact absurd (by omega) hc9; done)
                    | (
                      refine step_l (st_rd hf (Wn.some hf rfl rfl rfl rfl) (rd_pick_t hf rfl rfl rfl) hS rfl rfl ?_)
                      clear hf; intro a hf
                      refine step_l (st_rd hf (Wn.some hf rfl rfl rfl rfl) (rd_move hf rfl rfl) hS rfl rfl ?_)
                      clear hf; intro a hf
                      refine step_l (st_skip hf (Wn.some hf rfl rfl rfl rfl) rfl rfl ?_)
                      clear hf; intro a hf
                      refine step_l (st_skip hf (Wn.some hf rfl rfl rfl rfl) rfl rfl ?_)
                      clear hf; intro a hf
                      refine step_l (st_rd hf (Wn.some hf rfl rfl rfl rfl) (rd_pick_f hf rfl rfl rfl) hS rfl rfl ?_)
                      clear hf; intro a hf
                      refine step_l (st_rd hf (Wn.some hf rfl rfl rfl rfl) (rd_move hf rfl rfl) hS rfl rfl ?_)
                      clear hf; intro a hf
                      refine step_l (st_rdb hf (Wn.some hf rfl rfl rfl rfl) (rd_move hf rfl rfl) hS rfl rfl ?_ ?_)
                      · clear hf; intro hc14 a hf
                        first
                        | (first | exact Bool.noConfusion hc14 | exact absurd rfl hc14 | exact absurd hc14 (by decide) | exact absurd (by omega) hc14; done)
                        | (
                          refine step_l (st_rd hf (Wn.some hf rfl rfl rfl rfl) (rd_not hf rfl rfl) hS rfl rfl ?_)
                          clear hf; intro a hf
                          refine step_l (st_rd hf (Wn.some hf rfl rfl rfl rfl) (rd_move hf rfl rfl) hS rfl rfl ?_)
                          clear hf; intro a hf
                          refine step_l (st_skip hf (Wn.some hf rfl rfl rfl rfl) rfl rfl ?_)
                          clear hf; intro a hf
                          refine step_l (st_skip hf (Wn.some hf rfl rfl rfl rfl) rfl rfl ?_)
                          clear hf; intro a hf
                          refine step_l (st_rd hf (Wn.some hf rfl rfl rfl rfl) (rd_pick_f hf rfl rfl rfl) hS rfl rfl ?_)
                          clear hf; intro a hf
                          refine step_l (st_rd hf (Wn.some hf rfl rfl rfl rfl) (rd_move hf rfl rfl) hS rfl rfl ?_)
                          clear hf; intro a hf
                          refine step_l (st_skip hf (Wn.some hf rfl rfl rfl rfl) rfl rfl ?_)
                          clear hf; intro a hf
                          refine step_l (st_skip hf (Wn.some hf rfl rfl rfl rfl) rfl rfl ?_)
                          clear hf; intro a hf
                          refine step_l (st_skip hf (Wn.some hf rfl rfl rfl rfl) rfl rfl ?_)
                          clear hf; intro a hf
                          refine step_l (st_skip hf (Wn.some hf rfl rfl rfl rfl) rfl rfl ?_)
                          clear hf; intro a hf
                          refine step_l (st_rd hf (Wn.some hf rfl rfl rfl rfl) (rd_pick_f hf rfl rfl rfl) hS rfl rfl ?_)
                          clear hf; intro a hf
                          refine step_l (st_rd hf (Wn.some hf rfl rfl rfl rfl) (rd_pick_f hf rfl rfl rfl) hS rfl rfl ?_)
                          clear hf; intro a hf
                          refine step_l (st_rd hf (Wn.none rfl) (rd_pick_t hf rfl rfl rfl) hS rfl rfl ?_)
                          clear hf; intro a hf
                          refine step_l (st_rd hf (Wn.none rfl) (rd_move hf rfl rfl) hS rfl rfl ?_)
                          clear hf; intro a hf
                          refine step_l (st_skip hf (Wn.some hf rfl rfl rfl rfl) rfl rfl ?_)
                          clear hf; intro a hf
                          refine step_l (st_rd hf (Wn.none rfl) (rd_pick_f hf rfl rfl rfl) hS rfl rfl ?_)
                          clear hf; intro a hf
                          refine step_l (st_rd hf (Wn.none rfl) (rd_assign hf rfl rfl) hS rfl rfl ?_)
                          clear hf; intro a hf
                          refine done_l ?_
                          refine t_normal ?_
                          refine c_ret ?_
                          refine e_res1 hf.defers rfl (res_tmp hf rfl .nil) ?_
                          exact ⟨rfl, hS.sub (by repeat (first | exact Sub.refl | exact Sub.none | exact Sub.behind | (apply Sub.cons; (focus ((repeat (first | exact Sel.head | apply Sel.tail)); done))) | apply Sub.skip))⟩
                          )
                      · clear hf; intro hc14 a hf
                        first
                        | (first | exact Bool.noConfusion hc14 | exact absurd rfl hc14 | exact absurd hc14 (by decide) | exact absurd (by omega) hc14; done)
                        | (
                          refine step_l (st_rd hf (Wn.some hf rfl rfl rfl rfl) (rd_not hf rfl rfl) hS rfl rfl ?_)
                          clear hf; intro a hf
                          refine step_l (st_rd hf (Wn.some hf rfl rfl rfl rfl) (rd_move hf rfl rfl) hS rfl rfl ?_)
                          clear hf; intro a hf
                          refine step_l (st_rd hf (Wn.some hf rfl rfl rfl rfl) (rd_move hf rfl rfl) hS rfl rfl ?_)
                          clear hf; intro a hf
                          refine step_l (st_rdB hf (Wn.some hf rfl rfl rfl rfl) (rd_eql hf rfl rfl rfl) hS rfl rfl ?_ ?_)
                          · clear hf; intro hc15 a hf
                            first
                            | (first | exact Bool.noConfusion hc15 | exact absurd rfl hc15 | exact absurd hc15 (by decide) | exact absurd (by omega) hc15; done)
                            | (
                              refine step_l (st_rd hf (Wn.some hf rfl rfl rfl rfl) (rd_pick_t hf rfl rfl rfl) hS rfl rfl ?_)
                              clear hf; intro a hf
                              refine step_l (st_rd hf (Wn.some hf rfl rfl rfl rfl) (rd_move hf rfl rfl) hS rfl rfl ?_)
                              clear hf; intro a hf
                              refine step_l (st_rd hf (Wn.some hf rfl rfl rfl rfl) (rd_move hf rfl rfl) hS rfl rfl ?_)
                              clear hf; intro a hf
                              refine step_l (st_rd hf (Wn.some hf rfl rfl rfl rfl) (rd_move hf rfl rfl) hS rfl rfl ?_)
                              clear hf; intro a hf
                              refine step_l (st_rd hf (Wn.some hf rfl rfl rfl rfl) (rd_add hf rfl rfl rfl (by first | exact Go.IntWalk.i64_in _ (by omega) | exact rfl)) hS rfl rfl ?_)
                              clear hf; intro a hf
                              refine step_l (st_rdB hf (Wn.some hf rfl rfl rfl rfl) (rd_eql hf rfl rfl rfl) hS rfl rfl ?_ ?_)
                              · clear hf; intro hc16 a hf
                                first
                                | (first | exact Bool.noConfusion hc16 | exact absurd rfl hc16 | exact absurd hc16 (by decide) | exact absurd (by omega) hc16; done)
                                | (
                                  refine step_l (st_rd hf (Wn.some hf rfl rfl rfl rfl) (rd_pick_t hf rfl rfl rfl) hS rfl rfl ?_)
                                  clear hf; intro a hf
                                  refine step_l (st_rd hf (Wn.some hf rfl rfl rfl rfl) (rd_pick_f hf rfl rfl rfl) hS rfl rfl ?_)
                                  clear hf; intro a hf
                                  refine step_l (st_rd hf (Wn.none rfl) (rd_pick_t hf rfl rfl rfl) hS rfl rfl ?_)
                                  clear hf; intro a hf
                                  refine step_l (st_rd hf (Wn.none rfl) (rd_move hf rfl rfl) hS rfl rfl ?_)
                                  clear hf; intro a hf
                                  refine step_l (st_call hf (Wn.some hf rfl rfl rfl rfl) rfl rfl rfl fn11 (awake_c hS) rfl rfl ?_)
                                  clear hf hS; rintro v a w ⟨rfl, hS⟩ hf
                                  refine step_l (st_rd hf (Wn.none rfl) (rd_pick_t hf rfl rfl rfl) hS rfl rfl ?_)
                                  clear hf; intro a hf
                                  refine step_l (st_rd hf (Wn.none rfl) (rd_assign hf rfl rfl) hS rfl rfl ?_)
                                  clear hf; intro a hf
                                  refine done_l ?_
                                  refine t_normal ?_
                                  refine c_ret ?_
                                  refine e_res1 hf.defers rfl (res_tmp hf rfl .nil) ?_
                                  exact ⟨rfl, hS.sub (by repeat (first | exact Sub.refl | exact Sub.none | exact Sub.behind | (apply Sub.cons; (focus ((repeat (first | exact Sel.head | apply Sel.tail)); done))) | apply Sub.skip))⟩
                                  )
                              · clear hf; intro hc16 a hf
                                first
                                | (first | exact Bool.noConfusion hc16 | exact absurd rfl hc16 | exact absurd hc16 (by decide) | exact absurd (by omega) hc16; done)
                                | (
                                  refine step_l (st_rd hf (Wn.some hf rfl rfl rfl rfl) (rd_pick_t hf rfl rfl rfl) hS rfl rfl ?_)
                                  clear hf; intro a hf
                                  refine step_l (st_rd hf (Wn.some hf rfl rfl rfl rfl) (rd_pick_f hf rfl rfl rfl) hS rfl rfl ?_)
                                  clear hf; intro a hf
                                  refine step_l (st_rd hf (Wn.none rfl) (rd_pick_t hf rfl rfl rfl) hS rfl rfl ?_)
                                  clear hf; intro a hf
                                  refine step_l (st_rd hf (Wn.none rfl) (rd_move hf rfl rfl) hS rfl rfl ?_)
                                  clear hf; intro a hf
                                  refine step_l (st_skip hf (Wn.some hf rfl rfl rfl rfl) rfl rfl ?_)
                                  clear hf; intro a hf
                                  refine step_l (st_rd hf (Wn.none rfl) (rd_pick_f hf rfl rfl rfl) hS rfl rfl ?_)
                                  clear hf; intro a hf
                                  refine step_l (st_rd hf (Wn.none rfl) (rd_assign hf rfl rfl) hS rfl rfl ?_)
                                  clear hf; intro a hf
                                  refine done_l ?_
                                  refine t_normal ?_
                                  refine c_ret ?_
                                  refine e_res1 hf.defers rfl (res_tmp hf rfl .nil) ?_
                                  exact ⟨rfl, hS.sub (by repeat (first | exact Sub.refl | exact Sub.none | exact Sub.behind | (apply Sub.cons; (focus ((repeat (first | exact Sel.head | apply Sel.tail)); done))) | apply Sub.skip))⟩
                                  )
                              )
                          · clear hf; intro hc15 a hf
                            first
                            | (first | exact Bool.noConfusion hc15 | exact absurd rfl hc15 | exact absurd hc15 (by decide) | exact absurd (by omega) hc15; done)
                            | (
                              refine step_l (st_rd hf (Wn.some hf rfl rfl rfl rfl) (rd_pick_t hf rfl rfl rfl) hS rfl rfl ?_)
                              clear hf; intro a hf
                              refine step_l (st_rd hf (Wn.some hf rfl rfl rfl rfl) (rd_move hf rfl rfl) hS rfl rfl ?_)
                              clear hf; intro a hf
                              refine step_l (st_skip hf (Wn.some hf rfl rfl rfl rfl) rfl rfl ?_)
                              clear hf; intro a hf
                              refine step_l (st_skip hf (Wn.some hf rfl rfl rfl rfl) rfl rfl ?_)
                              clear hf; intro a hf
                              refine step_l (st_skip hf (Wn.some hf rfl rfl rfl rfl) rfl rfl ?_)
                              clear hf; intro a hf
                              refine step_l (st_skip hf (Wn.some hf rfl rfl rfl rfl) rfl rfl ?_)
                              clear hf; intro a hf
                              refine step_l (st_rd hf (Wn.some hf rfl rfl rfl rfl) (rd_pick_f hf rfl rfl rfl) hS rfl rfl ?_)
                              clear hf; intro a hf
                              refine step_l (st_rd hf (Wn.some hf rfl rfl rfl rfl) (rd_pick_f hf rfl rfl rfl) hS rfl rfl ?_)
                              clear hf; intro a hf
                              refine step_l (st_rd hf (Wn.none rfl) (rd_pick_t hf rfl rfl rfl) hS rfl rfl ?_)
                              clear hf; intro a hf
                              refine step_l (st_rd hf (Wn.none rfl) (rd_move hf rfl rfl) hS rfl rfl ?_)
                              clear hf; intro a hf
                              refine step_l (st_skip hf (Wn.some hf rfl rfl rfl rfl) rfl rfl ?_)
                              clear hf; intro a hf
                              refine step_l (st_rd hf (Wn.none rfl) (rd_pick_f hf rfl rfl rfl) hS rfl rfl ?_)
                              clear hf; intro a hf
                              refine step_l (st_rd hf (Wn.none rfl) (rd_assign hf rfl rfl) hS rfl rfl ?_)
                              clear hf; intro a hf
                              refine done_l ?_
                              refine t_normal ?_
                              refine c_ret ?_
                              refine e_res1 hf.defers rfl (res_tmp hf rfl .nil) ?_
                              exact ⟨rfl, hS.sub (by repeat (first | exact Sub.refl | exact Sub.none | exact Sub.behind | (apply Sub.cons; (focus ((repeat (first | exact Sel.head | apply Sel.tail)); done))) | apply Sub.skip))⟩
                              )
                          )
                      )
                  )
              · clear hf; intro hc8 a hf
                first
                | (first | exact Bool.noConfusion hc8 | exact absurd rfl hc8 | exact absurd hc8 (by decide) | exact absurd (by omega) hc8; done)
                | (
                  refine step_l (st_rd hf (Wn.some hf rfl rfl rfl rfl) (rd_move hf rfl rfl) hS rfl rfl ?_)
                  clear hf; intro a hf
                  refine step_l (st_skip hf (Wn.some hf rfl rfl rfl rfl) rfl rfl ?_)
                  clear hf; intro a hf
                  refine step_l (st_skip hf (Wn.some hf rfl rfl rfl rfl) rfl rfl ?_)
                  clear hf; intro a hf
                  refine step_l (st_rd hf (Wn.some hf rfl rfl rfl rfl) (rd_pick_f hf rfl rfl rfl) hS rfl rfl ?_)
                  clear hf; intro a hf
                  refine step_l (st_rd hf (Wn.some hf rfl rfl rfl rfl) (rd_move hf rfl rfl) hS rfl rfl ?_)
                  clear hf; intro a hf
                  refine step_l (st_skip hf (Wn.some hf rfl rfl rfl rfl) rfl rfl ?_)
                  clear hf; intro a hf
                  refine step_l (st_skip hf (Wn.some hf rfl rfl rfl rfl) rfl rfl ?_)
                  clear hf; intro a hf
                  refine step_l (st_rd hf (Wn.some hf rfl rfl rfl rfl) (rd_pick_f hf rfl rfl rfl) hS rfl rfl ?_)
                  clear hf; intro a hf
                  refine step_l (st_rd hf (Wn.some hf rfl rfl rfl rfl) (rd_move hf rfl rfl) hS rfl rfl ?_)
                  clear hf; intro a hf
                  refine step_l (st_rdb hf (Wn.some hf rfl rfl rfl rfl) (rd_move hf rfl rfl) hS rfl rfl ?_ ?_)
                  · clear hf; intro hc17 a hf
                    first
                    | (first | exact Bool.noConfusion hc17 | exact absurd rfl hc17 | exact absurd hc17 (by decide) | exact absurd (by omega) hc17; done)
                    | (
                      refine step_l (st_rd hf (Wn.some hf rfl rfl rfl rfl) (rd_not hf rfl rfl) hS rfl rfl ?_)
                      clear hf; intro a hf
                      refine step_l (st_rd hf (Wn.some hf rfl rfl rfl rfl) (rd_move hf rfl rfl) hS rfl rfl ?_)
                      clear hf; intro a hf
                      refine step_l (st_skip hf (Wn.some hf rfl rfl rfl rfl) rfl rfl ?_)
                      clear hf; intro a hf
                      refine step_l (st_skip hf (Wn.some hf rfl rfl rfl rfl) rfl rfl ?_)
                      clear hf; intro a hf
                      refine step_l (st_rd hf (Wn.some hf rfl rfl rfl rfl) (rd_pick_f hf rfl rfl rfl) hS rfl rfl ?_)
                      clear hf; intro a hf
                      refine step_l (st_rd hf (Wn.some hf rfl rfl rfl rfl) (rd_move hf rfl rfl) hS rfl rfl ?_)
                      clear hf; intro a hf
                      refine step_l (st_skip hf (Wn.some hf rfl rfl rfl rfl) rfl rfl ?_)
                      clear hf; intro a hf
                      refine step_l (st_skip hf (Wn.some hf rfl rfl rfl rfl) rfl rfl ?_)
                      clear hf; intro a hf
                      refine step_l (st_skip hf (Wn.some hf rfl rfl rfl rfl) rfl rfl ?_)
                      clear hf; intro a hf
                      refine step_l (st_skip hf (Wn.some hf rfl rfl rfl rfl) rfl rfl ?_)
                      clear hf; intro a hf
                      refine step_l (st_rd hf (Wn.some hf rfl rfl rfl rfl) (rd_pick_f hf rfl rfl rfl) hS rfl rfl ?_)
                      clear hf; intro a hf
                      refine step_l (st_rd hf (Wn.some hf rfl rfl rfl rfl) (rd_pick_f hf rfl rfl rfl) hS rfl rfl ?_)
                      clear hf; intro a hf
                      refine step_l (st_rd hf (Wn.none rfl) (rd_pick_t hf rfl rfl rfl) hS rfl rfl ?_)
                      clear hf; intro a hf
                      refine step_l (st_rd hf (Wn.none rfl) (rd_move hf rfl rfl) hS rfl rfl ?_)
                      clear hf; intro a hf
                      refine step_l (st_skip hf (Wn.some hf rfl rfl rfl rfl) rfl rfl ?_)
                      clear hf; intro a hf
                      refine step_l (st_rd hf (Wn.none rfl) (rd_pick_f hf rfl rfl rfl) hS rfl rfl ?_)
                      clear hf; intro a hf
                      refine step_l (st_rd hf (Wn.none rfl) (rd_assign hf rfl rfl) hS rfl rfl ?_)
                      clear hf; intro a hf
                      refine done_l ?_
                      refine t_normal ?_
                      refine c_ret ?_
                      refine e_res1 hf.defers rfl (res_tmp hf rfl .nil) ?_
                      exact ⟨rfl, hS.sub (by repeat (first | exact Sub.refl | exact Sub.none | exact Sub.behind | (apply Sub.cons; (focus ((repeat (first | exact Sel.head | apply Sel.tail)); done))) | apply Sub.skip))⟩
                      )
                  · clear hf; intro hc17 a hf
                    first
                    | (first | exact Bool.noConfusion hc17 | exact absurd rfl hc17 | exact absurd hc17 (by decide) | exact absurd (by omega) hc17; done)
                    | (
                      refine step_l (st_rd hf (Wn.some hf rfl rfl rfl rfl) (rd_not hf rfl rfl) hS rfl rfl ?_)
                      clear hf; intro a hf
                      refine step_l (st_rd hf (Wn.some hf rfl rfl rfl rfl) (rd_move hf rfl rfl) hS rfl rfl ?_)
                      clear hf; intro a hf
                      refine step_l (st_rd hf (Wn.some hf rfl rfl rfl rfl) (rd_move hf rfl rfl) hS rfl rfl ?_)
                      clear hf; intro a hf
                      refine step_l (st_rdB hf (Wn.some hf rfl rfl rfl rfl) (rd_eql hf rfl rfl rfl) hS rfl rfl ?_ ?_)
                      · clear hf; intro hc18 a hf
                        first
                        | (first | exact Bool.noConfusion hc18 | exact absurd rfl hc18 | exact absurd hc18 (by decide) | exact absurd (by omega) hc18; done)
                        | (
                          refine step_l (st_rd hf (Wn.some hf rfl rfl rfl rfl) (rd_pick_t hf rfl rfl rfl) hS rfl rfl ?_)
                          clear hf; intro a hf
                          refine step_l (st_rd hf (Wn.some hf rfl rfl rfl rfl) (rd_move hf rfl rfl) hS rfl rfl ?_)
                          clear hf; intro a hf
                          refine step_l (st_rd hf (Wn.some hf rfl rfl rfl rfl) (rd_move hf rfl rfl) hS rfl rfl ?_)
                          clear hf; intro a hf
                          refine step_l (st_rd hf (Wn.some hf rfl rfl rfl rfl) (rd_move hf rfl rfl) hS rfl rfl ?_)
                          clear hf; intro a hf
                          refine step_l (st_rd hf (Wn.some hf rfl rfl rfl rfl) (rd_add hf rfl rfl rfl (by first | exact Go.IntWalk.i64_in _ (by omega) | exact rfl)) hS rfl rfl ?_)
                          clear hf; intro a hf
                          refine step_l (st_rdB hf (Wn.some hf rfl rfl rfl rfl) (rd_eql hf rfl rfl rfl) hS rfl rfl ?_ ?_)
                          · clear hf; intro hc19 a hf
                            first
                            | (first | exact Bool.noConfusion hc19 | exact absurd rfl hc19 | exact absurd hc19 (by decide) | exact absurd (by omega) hc19; done)
                            | (
                              refine step_l (st_rd hf (Wn.some hf rfl rfl rfl rfl) (rd_pick_t hf rfl rfl rfl) hS rfl rfl ?_)
                              clear hf; intro a hf
                              refine step_l (st_rd hf (Wn.some hf rfl rfl rfl rfl) (rd_pick_f hf rfl rfl rfl) hS rfl rfl ?_)
                              clear hf; intro a hf
                              refine step_l (st_rd hf (Wn.none rfl) (rd_pick_t hf rfl rfl rfl) hS rfl rfl ?_)
                              clear hf; intro a hf
                              refine step_l (st_rd hf (Wn.none rfl) (rd_move hf rfl rfl) hS rfl rfl ?_)
                              clear hf; intro a hf
                              refine step_l (st_call hf (Wn.some hf rfl rfl rfl rfl) rfl rfl rfl fn11 (awake_c hS) rfl rfl ?_)
                              clear hf hS; rintro v a w ⟨rfl, hS⟩ hf
                              refine step_l (st_rd hf (Wn.none rfl) (rd_pick_t hf rfl rfl rfl) hS rfl rfl ?_)
                              clear hf; intro a hf
                              refine step_l (st_rd hf (Wn.none rfl) (rd_assign hf rfl rfl) hS rfl rfl ?_)
                              clear hf; intro a hf
                              refine done_l ?_
                              refine t_normal ?_
                              refine c_ret ?_
                              refine e_res1 hf.defers rfl (res_tmp hf rfl .nil) ?_
                              exact ⟨rfl, hS.sub (by repeat (first | exact Sub.refl | exact Sub.none | exact Sub.behind | (apply Sub.cons; (focus ((repeat (first | exact Sel.head | apply Sel.tail)); done))) | apply Sub.skip))⟩
                              )
                          · clear hf; intro hc19 a hf
                            first
                            | (first | exact Bool.noConfusion hc19 | exact absurd rfl hc19 | exact absurd hc19 (by decide) | exact absurd (by omega) hc19; done)
                            | (
                              refine step_l (st_rd hf (Wn.some hf rfl rfl rfl rfl) (rd_pick_t hf rfl rfl rfl) hS rfl rfl ?_)
                              clear hf; intro a hf
                              refine step_l (st_rd hf (Wn.some hf rfl rfl rfl rfl) (rd_pick_f hf rfl rfl rfl) hS rfl rfl ?_)
                              clear hf; intro a hf
                              refine step_l (st_rd hf (Wn.none rfl) (rd_pick_t hf rfl rfl rfl) hS rfl rfl ?_)
                              clear hf; intro a hf
                              refine step_l (st_rd hf (Wn.none rfl) (rd_move hf rfl rfl) hS rfl rfl ?_)
                              clear hf; intro a hf
                              refine step_l (st_skip hf (Wn.some hf rfl rfl rfl rfl) rfl rfl ?_)
                              clear hf; intro a hf
                              refine step_l (st_rd hf (Wn.none rfl) (rd_pick_f hf rfl rfl rfl) hS rfl rfl ?_)
                              clear hf; intro a hf
                              refine step_l (st_rd hf (Wn.none rfl) (rd_assign hf rfl rfl) hS rfl rfl ?_)
                              clear hf; intro a hf
                              refine done_l ?_
                              refine t_normal ?_
                              refine c_ret ?_
                              refine e_res1 hf.defers rfl (res_tmp hf rfl .nil) ?_
                              exact ⟨rfl, hS.sub (by repeat (first | exact Sub.refl | exact Sub.none | exact Sub.behind | (apply Sub.cons; (focus ((repeat (first | exact Sel.head | apply Sel.tail)); done))) | apply Sub.skip))⟩
                              )
                          )
                      · clear hf; intro hc18 a hf
                        first
                        | (first | exact Bool.noConfusion hc18 | exact absurd rfl hc18 | exact absurd hc18 (by decide) | exact absurd (by omega) hc18; done)
                        | (
                          refine step_l (st_rd hf (Wn.some hf rfl rfl rfl rfl) (rd_pick_t hf rfl rfl rfl) hS rfl rfl ?_)
                          clear hf; intro a hf
                          refine step_l (st_rd hf (Wn.some hf rfl rfl rfl rfl) (rd_move hf rfl rfl) hS rfl rfl ?_)
                          clear hf; intro a hf
                          refine step_l (st_skip hf (Wn.some hf rfl rfl rfl rfl) rfl rfl ?_)
                          clear hf; intro a hf
                          refine step_l (st_skip hf (Wn.some hf rfl rfl rfl rfl) rfl rfl ?_)
                          clear hf; intro a hf
                          refine step_l (st_skip hf (Wn.some hf rfl rfl rfl rfl) rfl rfl ?_)
                          clear hf; intro a hf
                          refine step_l (st_skip hf (Wn.some hf rfl rfl rfl rfl) rfl rfl ?_)
                          clear hf; intro a hf
                          refine step_l (st_rd hf (Wn.some hf rfl rfl rfl rfl) (rd_pick_f hf rfl rfl rfl) hS rfl rfl ?_)
                          clear hf; intro a hf
                          refine step_l (st_rd hf (Wn.some hf rfl rfl rfl rfl) (rd_pick_f hf rfl rfl rfl) hS rfl rfl ?_)
                          clear hf; intro a hf
                          refine step_l (st_rd hf (Wn.none rfl) (rd_pick_t hf rfl rfl rfl) hS rfl rfl ?_)
                          clear hf; intro a hf
                          refine step_l (st_rd hf (Wn.none rfl) (rd_move hf rfl rfl) hS rfl rfl ?_)
                          clear hf; intro a hf
                          refine step_l (st_skip hf (Wn.some hf rfl rfl rfl rfl) rfl rfl ?_)
                          clear hf; intro a hf
                          refine step_l (st_rd hf (Wn.none rfl) (rd_pick_f hf rfl rfl rfl) hS rfl rfl ?_)
                          clear hf; intro a hf
                          refine step_l (st_rd hf (Wn.none rfl) (rd_assign hf rfl rfl) hS rfl rfl ?_)
                          clear hf; intro a hf
                          refine done_l ?_
                          refine t_normal ?_
                          refine c_ret ?_
                          refine e_res1 hf.defers rfl (res_tmp hf rfl .nil) ?_
                          exact ⟨rfl, hS.sub (by repeat (first | exact Sub.refl | exact Sub.none | exact Sub.behind | (apply Sub.cons; (focus ((repeat (first | exact Sel.head | apply Sel.tail)); done))) | apply Sub.skip))⟩
                          )
                      )
                  )
              )
          · clear hf; intro hc7 a hf
            first
            | (first | exact Bool.noConfusion hc7 | exact absurd rfl hc7 | exact absurd hc7 (by decide) | exact absurd (by omega) hc7; done)
            | (
              refine step_l (st_rd hf (Wn.none rfl) (rd_move hf rfl rfl) hS rfl rfl ?_)
              clear hf; intro a hf
              refine step_l (st_skip hf (Wn.some hf rfl rfl rfl rfl) rfl rfl ?_)
              clear hf; intro a hf
              refine step_l (st_skip hf (Wn.some hf rfl rfl rfl rfl) rfl rfl ?_)
              clear hf; intro a hf
              refine step_l (st_skip hf (Wn.undef hf rfl rfl rfl) rfl rfl ?_)
              clear hf; intro a hf
              refine step_l (st_skip hf (Wn.undef hf rfl rfl rfl) rfl rfl ?_)
              clear hf; intro a hf
              refine step_l (st_skip hf (Wn.some hf rfl rfl rfl rfl) rfl rfl ?_)
              clear hf; intro a hf
              refine step_l (st_skip hf (Wn.some hf rfl rfl rfl rfl) rfl rfl ?_)
              clear hf; intro a hf
              refine step_l (st_skip hf (Wn.undef hf rfl rfl rfl) rfl rfl ?_)
              clear hf; intro a hf
              refine step_l (st_skip hf (Wn.undef hf rfl rfl rfl) rfl rfl ?_)
              clear hf; intro a hf
              refine step_l (st_skip hf (Wn.some hf rfl rfl rfl rfl) rfl rfl ?_)
              clear hf; intro a hf
              refine step_l (st_skip hf (Wn.some hf rfl rfl rfl rfl) rfl rfl ?_)
              clear hf; intro a hf
              refine step_l (st_skip hf (Wn.undef hf rfl rfl rfl) rfl rfl ?_)
              clear hf; intro a hf
              refine step_l (st_skip hf (Wn.undef hf rfl rfl rfl) rfl rfl ?_)
              clear hf; intro a hf
              refine step_l (st_skip hf (Wn.undef hf rfl rfl rfl) rfl rfl ?_)
              clear hf; intro a hf
              refine step_l (st_skip hf (Wn.undef hf rfl rfl rfl) rfl rfl ?_)
              clear hf; intro a hf
              refine step_l (st_skip hf (Wn.undef hf rfl rfl rfl) rfl rfl ?_)
              clear hf; intro a hf
              refine step_l (st_skip hf (Wn.undef hf rfl rfl rfl) rfl rfl ?_)
              clear hf; intro a hf
              refine step_l (st_skip hf (Wn.undef hf rfl rfl rfl) rfl rfl ?_)
              clear hf; intro a hf
              refine step_l (st_skip hf (Wn.undef hf rfl rfl rfl) rfl rfl ?_)
              clear hf; intro a hf
              refine step_l (st_skip hf (Wn.undef hf rfl rfl rfl) rfl rfl ?_)
              clear hf; intro a hf
              refine step_l (st_skip hf (Wn.undef hf rfl rfl rfl) rfl rfl ?_)
              clear hf; intro a hf
              refine step_l (st_skip hf (Wn.undef hf rfl rfl rfl) rfl rfl ?_)
              clear hf; intro a hf
              refine step_l (st_skip hf (Wn.undef hf rfl rfl rfl) rfl rfl ?_)
              clear hf; intro a hf
              refine step_l (st_skip hf (Wn.some hf rfl rfl rfl rfl) rfl rfl ?_)
              clear hf; intro a hf
              refine step_l (st_rd hf (Wn.none rfl) (rd_pick_f hf rfl rfl rfl) hS rfl rfl ?_)
              clear hf; intro a hf
              refine step_l (st_rd hf (Wn.none rfl) (rd_move hf rfl rfl) hS rfl rfl ?_)
              clear hf; intro a hf
              refine step_l (st_skip hf (Wn.some hf rfl rfl rfl rfl) rfl rfl ?_)
              clear hf; intro a hf
              refine step_l (st_rd hf (Wn.none rfl) (rd_pick_f hf rfl rfl rfl) hS rfl rfl ?_)
              clear hf; intro a hf
              refine step_l (st_rd hf (Wn.none rfl) (rd_assign hf rfl rfl) hS rfl rfl ?_)
              clear hf; intro a hf
              refine done_l ?_
              refine t_normal ?_
              refine c_ret ?_
              refine e_res1 hf.defers rfl (res_tmp hf rfl .nil) ?_
              exact ⟨rfl, hS.sub (by repeat (first | exact Sub.refl | exact Sub.none | exact Sub.behind | (apply Sub.cons; (focus ((repeat (first | exact Sel.head | apply Sel.tail)); done))) | apply Sub.skip))⟩
              )
          )
      · clear hf; intro hc6 a hf
        subst hc6; obtain ⟨m, hm⟩ : ∃ m, m = (frB (List.replicate n 0)).length := ⟨_, rfl⟩
        obtain ⟨hm2, hm3, hE1, hE2⟩ : m ≤ (frB (List.replicate n 0)).length ∧ (frB (List.replicate n 0)).length = ((frB (List.replicate n 0)).take m).length ∧ tkE ((frB (List.replicate n 0)).take m) = 0 ∧ tkN ((frB (List.replicate n 0)).take m) = n + 8 := by rw [hm, List.take_length]; obtain ⟨t0, t1, t2⟩ := tk_fr0 (r := (List.replicate n 0)) (by omega); exact ⟨Nat.le_refl _, rfl, t0, by rw [t2, hrl]⟩
        first
        | (first | exact Bool.noConfusion hc6 | exact absurd rfl hc6 | exact absurd hc6 (by decide) | exact absurd (by omega) hc6; done)
        | (
          refine done_l ?_
          refine t_normal ?_
          refine c_false hf rfl ?_
          refine c_skip ?_
          refine t_normal ?_
          refine c_seq ?_
          refine c_region ?_
          refine step_l (st_rd hf (Wn.none rfl) (rd_move hf rfl rfl) hS rfl rfl ?_)
          clear hf; intro a hf
          refine step_l (st_call hf (Wn.none rfl) rfl rfl rfl fn13 (FTake_c ((frB (List.replicate n 0)).take m) _ _ _ hS hm3 (by rw [List.length_take]; omega) (by rw [List.length_take]; omega) (fun _ h => take1 (h.slOfRw (by repeat (first | exact Sel.head | apply Sel.tail))) hm2)) rfl rfl ?_)
          clear hf hS; rintro v a w ⟨qt, capt, rfl, hS⟩ hf; rw [hE1, hE2] at hf
          refine step_l (st_rd hf (Wn.none rfl) (rd_move hf rfl rfl) hS rfl rfl ?_)
          clear hf; intro a hf
          refine step_l (st_rd hf (Wn.none rfl) (rd_extract hf rfl rfl rfl) hS rfl rfl ?_)
          clear hf; intro a hf
          refine step_l (st_rd hf (Wn.none rfl) (rd_extract hf rfl rfl rfl) hS rfl rfl ?_)
          clear hf; intro a hf
          refine step_l (st_rd hf (Wn.none rfl) (rd_extract hf rfl rfl rfl) hS rfl rfl ?_)
          clear hf; intro a hf
          refine step_l (st_rd hf (Wn.none rfl) (rd_assign hf rfl rfl) hS rfl rfl ?_)
          clear hf; intro a hf
          refine step_l (st_rd hf (Wn.none rfl) (rd_assign hf rfl rfl) hS rfl rfl ?_)
          clear hf; intro a hf
          refine step_l (st_rd hf (Wn.none rfl) (rd_assign hf rfl rfl) hS rfl rfl ?_)
          clear hf; intro a hf
          refine done_l ?_
          refine t_normal ?_
          refine c_seq ?_
          refine c_region ?_
          refine step_l (st_rd hf (Wn.none rfl) (rd_move hf rfl rfl) hS rfl rfl ?_)
          clear hf; intro a hf
          refine step_l (st_rdB hf (Wn.none rfl) (rd_eql hf rfl rfl rfl) hS rfl rfl ?_ ?_)
          · clear hf; intro hc20 a hf
            first
            | (first | exact Bool.noConfusion hc20 | exact absurd rfl hc20 | exact absurd hc20 (by decide) | exact absurd (by omega) hc20; done)
            | (
              refine step_l (st_rd hf (Wn.none rfl) (rd_move hf rfl rfl) hS rfl rfl ?_)
              clear hf; intro a hf
              refine step_l (st_rdb hf (Wn.some hf rfl rfl rfl rfl) (rd_move hf rfl rfl) hS rfl rfl ?_ ?_)
              · clear hf; intro hc21 a hf
                first
                | (first | exact Bool.noConfusion hc21 | exact absurd rfl hc21 | exact absurd hc21 (by decide) | exact absurd (by omega) hc21; done)
                | (
                  refine step_l (st_rd hf (Wn.some hf rfl rfl rfl rfl) (rd_move hf rfl rfl) hS rfl rfl ?_)
                  clear hf; intro a hf
                  refine step_l (st_rd hf (Wn.some hf rfl rfl rfl rfl) (rd_move hf rfl rfl) hS rfl rfl ?_)
                  clear hf; intro a hf
                  refine step_l (st_rdB hf (Wn.some hf rfl rfl rfl rfl) (rd_eql hf rfl rfl rfl) hS rfl rfl ?_ ?_)
                  · clear hf; intro hc22 a hf
                    first
                    | (first | exact Bool.noConfusion hc22 | exact absurd rfl hc22 | exact absurd hc22 (by decide) | exact absurd (by omega) hc22; done)
                    | (
                      refine step_l (st_rd hf (Wn.some hf rfl rfl rfl rfl) (rd_pick_t hf rfl rfl rfl) hS rfl rfl ?_)
                      clear hf; intro a hf
                      refine step_l (st_rd hf (Wn.some hf rfl rfl rfl rfl) (rd_move hf rfl rfl) hS rfl rfl ?_)
                      clear hf; intro a hf
                      refine step_l (st_rd hf (Wn.some hf rfl rfl rfl rfl) (rd_move hf rfl rfl) hS rfl rfl ?_)
                      clear hf; intro a hf
                      refine step_l (st_rdB hf (Wn.some hf rfl rfl rfl rfl) (rd_eql hf rfl rfl rfl) hS rfl rfl ?_ ?_)
                      · clear hf; intro hc23 a hf
                        first
                        | (first | exact Bool.noConfusion hc23 | exact absurd rfl hc23 | exact absurd hc23 (by decide) | exact absurd (by omega) hc23; done)
                        | (
                          refine step_l (st_rd hf (Wn.some hf rfl rfl rfl rfl) (rd_pick_t hf rfl rfl rfl) hS rfl rfl ?_)
                          clear hf; intro a hf
                          refine step_l (st_rd hf (Wn.some hf rfl rfl rfl rfl) (rd_move hf rfl rfl) hS rfl rfl ?_)
                          clear hf; intro a hf
                          refine step_l (st_skip hf (Wn.some hf rfl rfl rfl rfl) rfl rfl ?_)
                          clear hf; intro a hf
                          refine step_l (st_skip hf (Wn.some hf rfl rfl rfl rfl) rfl rfl ?_)
                          clear hf; intro a hf
                          refine step_l (st_skip hf (Wn.some hf rfl rfl rfl rfl) rfl rfl ?_)
                          clear hf; intro a hf
                          refine step_l (st_skip hf (Wn.undef hf rfl rfl rfl) rfl rfl ?_)
                          clear hf; intro a hf
                          refine step_l (st_skip hf (Wn.undef hf rfl rfl rfl) rfl rfl ?_)
                          clear hf; intro a hf
                          refine step_l (st_skip hf (Wn.some hf rfl rfl rfl rfl) rfl rfl ?_)
                          clear hf; intro a hf
                          refine step_l (st_skip hf (Wn.some hf rfl rfl rfl rfl) rfl rfl ?_)
                          clear hf; intro a hf
                          refine step_l (st_skip hf (Wn.undef hf rfl rfl rfl) rfl rfl ?_)
                          clear hf; intro a hf
                          refine step_l (st_skip hf (Wn.undef hf rfl rfl rfl) rfl rfl ?_)
                          clear hf; intro a hf
                          refine step_l (st_skip hf (Wn.undef hf rfl rfl rfl) rfl rfl ?_)
                          clear hf; intro a hf
                          refine step_l (st_skip hf (Wn.undef hf rfl rfl rfl) rfl rfl ?_)
                          clear hf; intro a hf
                          refine step_l (st_skip hf (Wn.some hf rfl rfl rfl rfl) rfl rfl ?_)
                          clear hf; intro a hf
                          refine step_l (st_rd hf (Wn.some hf rfl rfl rfl rfl) (rd_pick_t hf rfl rfl rfl) hS rfl rfl ?_)
                          clear hf; intro a hf
                          refine step_l (st_rd hf (Wn.none rfl) (rd_pick_t hf rfl rfl rfl) hS rfl rfl ?_)
                          clear hf; intro a hf
                          refine step_l (st_rd hf (Wn.none rfl) (rd_move hf rfl rfl) hS rfl rfl ?_)
                          clear hf; intro a hf
                          refine step_l (st_call hf (Wn.some hf rfl rfl rfl rfl) rfl rfl rfl fn11 (awake_c hS) rfl rfl ?_)
                          clear hf hS; rintro v a w ⟨rfl, hS⟩ hf
                          refine step_l (st_rd hf (Wn.none rfl) (rd_pick_t hf rfl rfl rfl) hS rfl rfl ?_)
                          clear hf; intro a hf
                          refine step_l (st_rd hf (Wn.none rfl) (rd_assign hf rfl rfl) hS rfl rfl ?_)
                          clear hf; intro a hf
                          refine done_l ?_
                          refine t_normal ?_
                          refine c_ret ?_
                          refine e_res1 hf.defers rfl (res_tmp hf rfl .nil) ?_
                          exact ⟨rfl, hS.sub (by repeat (first | exact Sub.refl | exact Sub.none | exact Sub.behind | (apply Sub.cons; (focus ((repeat (first | exact Sel.head | apply Sel.tail)); done))) | apply Sub.skip))⟩
                          )
                      · clear hf; intro hc23 a hf
                        first
                        | (first | exact Bool.noConfusion hc23 | exact absurd rfl hc23 | exact absurd hc23 (by decide) | exact absurd (by omega) hc23; done)
                        | (
                          refine step_l (st_rd hf (Wn.some hf rfl rfl rfl rfl) (rd_pick_t hf rfl rfl rfl) hS rfl rfl ?_)
                          clear hf; intro a hf
                          refine step_l (st_rd hf (Wn.some hf rfl rfl rfl rfl) (rd_move hf rfl rfl) hS rfl rfl ?_)
                          clear hf; intro a hf
                          refine step_l (st_rdb hf (Wn.some hf rfl rfl rfl rfl) (rd_move hf rfl rfl) hS rfl rfl ?_ ?_)
                          · clear hf; intro hc24 a hf
                            first
                            | (first | exact Bool.noConfusion hc24 | exact absurd rfl hc24 | exact absurd hc24 (by decide) | exact absurd (by omega) hc24; done)
                            | (
                              refine step_l (st_rd hf (Wn.some hf rfl rfl rfl rfl) (rd_not hf rfl rfl) hS rfl rfl ?_)
                              clear hf; intro a hf
                              refine step_l (st_rd hf (Wn.some hf rfl rfl rfl rfl) (rd_move hf rfl rfl) hS rfl rfl ?_)
                              clear hf; intro a hf
                              refine step_l (st_skip hf (Wn.some hf rfl rfl rfl rfl) rfl rfl ?_)
                              clear hf; intro a hf
                              refine step_l (st_skip hf (Wn.some hf rfl rfl rfl rfl) rfl rfl ?_)
                              clear hf; intro a hf
                              refine step_l (st_rd hf (Wn.some hf rfl rfl rfl rfl) (rd_pick_f hf rfl rfl rfl) hS rfl rfl ?_)
                              clear hf; intro a hf
                              refine step_l (st_rd hf (Wn.some hf rfl rfl rfl rfl) (rd_move hf rfl rfl) hS rfl rfl ?_)
                              clear hf; intro a hf
                              refine step_l (st_skip hf (Wn.some hf rfl rfl rfl rfl) rfl rfl ?_)
                              clear hf; intro a hf
                              refine step_l (st_skip hf (Wn.some hf rfl rfl rfl rfl) rfl rfl ?_)
                              clear hf; intro a hf
                              refine step_l (st_skip hf (Wn.some hf rfl rfl rfl rfl) rfl rfl ?_)
                              clear hf; intro a hf
                              refine step_l (st_skip hf (Wn.some hf rfl rfl rfl rfl) rfl rfl ?_)
                              clear hf; intro a hf
                              refine step_l (st_rd hf (Wn.some hf rfl rfl rfl rfl) (rd_pick_f hf rfl rfl rfl) hS rfl rfl ?_)
                              clear hf; intro a hf
                              refine step_l (st_rd hf (Wn.some hf rfl rfl rfl rfl) (rd_pick_f hf rfl rfl rfl) hS rfl rfl ?_)
                              clear hf; intro a hf
                              refine step_l (st_rd hf (Wn.none rfl) (rd_pick_t hf rfl rfl rfl) hS rfl rfl ?_)
                              clear hf; intro a hf
                              refine step_l (st_rd hf (Wn.none rfl) (rd_move hf rfl rfl) hS rfl rfl ?_)
                              clear hf; intro a hf
                              refine step_l (st_skip hf (Wn.some hf rfl rfl rfl rfl) rfl rfl ?_)
                              clear hf; intro a hf
                              refine step_l (st_rd hf (Wn.none rfl) (rd_pick_f hf rfl rfl rfl) hS rfl rfl ?_)
                              clear hf; intro a hf
                              refine step_l (st_rd hf (Wn.none rfl) (rd_assign hf rfl rfl) hS rfl rfl ?_)
                              clear hf; intro a hf
                              refine done_l ?_
                              refine t_normal ?_
                              refine c_ret ?_
                              refine e_res1 hf.defers rfl (res_tmp hf rfl .nil) ?_
                              exact ⟨rfl, hS.sub (by repeat (first | exact Sub.refl | exact Sub.none | exact Sub.behind | (apply Sub.cons; (focus ((repeat (first | exact Sel.head | apply Sel.tail)); done))) | apply Sub.skip))⟩
                              )
                          · clear hf; intro hc24 a hf
                            first
                            | (first | exact Bool.noConfusion hc24 | exact absurd rfl hc24 | exact absurd hc24 (by decide) | exact absurd (by omega) hc24; done)
                            | (
                              refine step_l (st_rd hf (Wn.some hf rfl rfl rfl rfl) (rd_not hf rfl rfl) hS rfl rfl ?_)
                              clear hf; intro a hf
                              refine step_l (st_rd hf (Wn.some hf rfl rfl rfl rfl) (rd_move hf rfl rfl) hS rfl rfl ?_)
                              clear hf; intro a hf
                              refine step_l (st_rd hf (Wn.some hf rfl rfl rfl rfl) (rd_move hf rfl rfl) hS rfl rfl ?_)
                              clear hf; intro a hf
                              refine step_l (st_rdB hf (Wn.some hf rfl rfl rfl rfl) (rd_eql hf rfl rfl rfl) hS rfl rfl ?_ ?_)
                              · clear hf; intro hc25 a hf
                                first
                                | (first | exact Bool.noConfusion hc25 | exact absurd rfl hc25 | exact absurd hc25 (by decide) | exact absurd (by omega) hc25; done)
                                | (
                                  refine step_l (st_rd hf (Wn.some hf rfl rfl rfl rfl) (rd_pick_t hf rfl rfl rfl) hS rfl rfl ?_)
                                  clear hf; intro a hf
                                  refine step_l (st_rd hf (Wn.some hf rfl rfl rfl rfl) (rd_move hf rfl rfl) hS rfl rfl ?_)
                                  clear hf; intro a hf
                                  refine step_l (st_rd hf (Wn.some hf rfl rfl rfl rfl) (rd_move hf rfl rfl) hS rfl rfl ?_)
                                  clear hf; intro a hf
                                  refine step_l (st_rd hf (Wn.some hf rfl rfl rfl rfl) (rd_move hf rfl rfl) hS rfl rfl ?_)
                                  clear hf; intro a hf
                                  refine step_l (st_rd hf (Wn.some hf rfl rfl rfl rfl) (rd_add hf rfl rfl rfl (by first | exact Go.IntWalk.i64_in _ (by omega) | exact rfl)) hS rfl rfl ?_)
                                  clear hf; intro a hf
                                  refine step_l (st_rdB hf (Wn.some hf rfl rfl rfl rfl) (rd_eql hf rfl rfl rfl) hS rfl rfl ?_ ?_)
                                  · clear hf; intro hc26 a hf
                                    first
                                    | (first | exact Bool.noConfusion hc26 | exact absurd rfl hc26 | exact absurd hc26 (by decide) | exact absurd (by omega) hc26; done)
                                    | (
                                      refine step_l (st_rd hf (Wn.some hf rfl rfl rfl rfl) (rd_pick_t hf rfl rfl rfl) hS rfl rfl ?_)
                                      clear hf; intro a hf
                                      refine step_l (st_rd hf (Wn.some hf rfl rfl rfl rfl) (rd_pick_f hf rfl rfl rfl) hS rfl rfl ?_)
                                      clear hf; intro a hf
                                      refine step_l (st_rd hf (Wn.none rfl) (rd_pick_t hf rfl rfl rfl) hS rfl rfl ?_)
                                      clear hf; intro a hf
                                      refine step_l (st_rd hf (Wn.none rfl) (rd_move hf rfl rfl) hS rfl rfl ?_)
                                      clear hf; intro a hf
                                      refine step_l (st_call hf (Wn.some hf rfl rfl rfl rfl) rfl rfl rfl fn11 (awake_c hS) rfl rfl ?_)
                                      clear hf hS; rintro v a w ⟨rfl, hS⟩ hf
                                      refine step_l (st_rd hf (Wn.none rfl) (rd_pick_t hf rfl rfl rfl) hS rfl rfl ?_)
                                      clear hf; intro a hf
                                      refine step_l (st_rd hf (Wn.none rfl) (rd_assign hf rfl rfl) hS rfl rfl ?_)
                                      clear hf; intro a hf
                                      refine done_l ?_
                                      refine t_normal ?_
                                      refine c_ret ?_
                                      refine e_res1 hf.defers rfl (res_tmp hf rfl .nil) ?_
                                      exact ⟨rfl, hS.sub (by repeat (first | exact Sub.refl | exact Sub.none | exact Sub.behind | (apply Sub.cons; (focus ((repeat (first | exact Sel.head | apply Sel.tail)); done))) | apply Sub.skip))⟩
                                      )
                                  · clear hf; intro hc26 a hf
                                    first
                                    | (first | exact Bool.noConfusion hc26 | exact absurd rfl hc26 | exact absurd hc26 (by decide) | exact absurd (by omega) hc26; done)
                                    | (
                                      refine step_l (st_rd hf (Wn.some hf rfl rfl rfl rfl) (rd_pick_t hf rfl rfl rfl) hS rfl rfl ?_)
                                      clear hf; intro a hf
                                      refine step_l (st_rd hf (Wn.some hf rfl rfl rfl rfl) (rd_pick_f hf rfl rfl rfl) hS rfl rfl ?_)
                                      clear hf; intro a hf
                                      refine step_l (st_rd hf (Wn.none rfl) (rd_pick_t hf rfl rfl rfl) hS rfl rfl ?_)
                                      clear hf; intro a hf
                                      refine step_l (st_rd hf (Wn.none rfl) (rd_move hf rfl rfl) hS rfl rfl ?_)
                                      clear hf; intro a hf
                                      refine step_l (st_skip hf (Wn.some hf rfl rfl rfl rfl) rfl rfl ?_)
                                      clear hf; intro a hf
                                      refine step_l (st_rd hf (Wn.none rfl) (rd_pick_f hf rfl rfl rfl) hS rfl rfl ?_)
                                      clear hf; intro a hf
                                      refine step_l (st_rd hf (Wn.none rfl) (rd_assign hf rfl rfl) hS rfl rfl ?_)
                                      clear hf; intro a hf
                                      refine done_l ?_
                                      refine t_normal ?_
                                      refine c_ret ?_
                                      refine e_res1 hf.defers rfl (res_tmp hf rfl .nil) ?_
                                      exact ⟨rfl, hS.sub (by repeat (first | exact Sub.refl | exact Sub.none | exact Sub.behind | (apply Sub.cons; (focus ((repeat (first | exact Sel.head | apply Sel.tail)); done))) | apply Sub.skip))⟩
                                      )
                                  )
                              · clear hf; intro hc25 a hf
                                first
                                | (first | exact Bool.noConfusion hc25 | exact absurd rfl hc25 | exact absurd hc25 (by decide) | exact absurd (by omega) hc25; done)
                                | (
                                  refine step_l (st_rd hf (Wn.some hf rfl rfl rfl rfl) (rd_pick_t hf rfl rfl rfl) hS rfl rfl ?_)
                                  clear hf; intro a hf
                                  refine step_l (st_rd hf (Wn.some hf rfl rfl rfl rfl) (rd_move hf rfl rfl) hS rfl rfl ?_)
                                  clear hf; intro a hf
                                  refine step_l (st_skip hf (Wn.some hf rfl rfl rfl rfl) rfl rfl ?_)
                                  clear hf; intro a hf
                                  refine step_l (st_skip hf (Wn.some hf rfl rfl rfl rfl) rfl rfl ?_)
                                  clear hf; intro a hf
                                  refine step_l (st_skip hf (Wn.some hf rfl rfl rfl rfl) rfl rfl ?_)
                                  clear hf; intro a hf
                                  refine step_l (st_skip hf (Wn.some hf rfl rfl rfl rfl) rfl rfl ?_)
                                  clear hf; intro a hf
                                  refine step_l (st_rd hf (Wn.some hf rfl rfl rfl rfl) (rd_pick_f hf rfl rfl rfl) hS rfl rfl ?_)
                                  clear hf; intro a hf
                                  refine step_l (st_rd hf (Wn.some hf rfl rfl rfl rfl) (rd_pick_f hf rfl rfl rfl) hS rfl rfl ?_)
                                  clear hf; intro a hf
                                  refine step_l (st_rd hf (Wn.none rfl) (rd_pick_t hf rfl rfl rfl) hS rfl rfl ?_)
                                  clear hf; intro a hf
                                  refine step_l (st_rd hf (Wn.none rfl) (rd_move hf rfl rfl) hS rfl rfl ?_)
                                  clear hf; intro a hf
                                  refine step_l (st_skip hf (Wn.some hf rfl rfl rfl rfl) rfl rfl ?_)
                                  clear hf; intro a hf
                                  refine step_l (st_rd hf (Wn.none rfl) (rd_pick_f hf rfl rfl rfl) hS rfl rfl ?_)
                                  clear hf; intro a hf
                                  refine step_l (st_rd hf (Wn.none rfl) (rd_assign hf rfl rfl) hS rfl rfl ?_)
                                  clear hf; intro a hf
                                  refine done_l ?_
                                  refine t_normal ?_
                                  refine c_ret ?_
                                  refine e_res1 hf.defers rfl (res_tmp hf rfl .nil) ?_
                                  exact ⟨rfl, hS.sub (by repeat (first | exact Sub.refl | exact Sub.none | exact Sub.behind | (apply Sub.cons; (focus ((repeat (first | exact Sel.head | apply Sel.tail)); done))) | apply Sub.skip))⟩
                                  )
                              )
                          )
                      )
                  · clear hf; intro hc22 a hf
                    first
                    | (first | exact Bool.noConfusion hc22 | exact absurd rfl hc22 | exact absurd hc22 (by decide) | exact absurd (by omega) hc22; done)
                    | (
                      refine step_l (st_rd hf (Wn.some hf rfl rfl rfl rfl) (rd_pick_t hf rfl rfl rfl) hS rfl rfl ?_)
                      clear hf; intro a hf
                      refine step_l (st_rd hf (Wn.some hf rfl rfl rfl rfl) (rd_move hf rfl rfl) hS rfl rfl ?_)
                      clear hf; intro a hf
                      refine step_l (st_skip hf (Wn.some hf rfl rfl rfl rfl) rfl rfl ?_)
                      clear hf; intro a hf
                      refine step_l (st_skip hf (Wn.some hf rfl rfl rfl rfl) rfl rfl ?_)
                      clear hf; intro a hf
                      refine step_l (st_rd hf (Wn.some hf rfl rfl rfl rfl) (rd_pick_f hf rfl rfl rfl) hS rfl rfl ?_)
                      clear hf; intro a hf
                      refine step_l (st_rd hf (Wn.some hf rfl rfl rfl rfl) (rd_move hf rfl rfl) hS rfl rfl ?_)
                      clear hf; intro a hf
                      refine step_l (st_rdb hf (Wn.some hf rfl rfl rfl rfl) (rd_move hf rfl rfl) hS rfl rfl ?_ ?_)
                      · clear hf; intro hc27 a hf
                        first
                        | (first | exact Bool.noConfusion hc27 | exact absurd rfl hc27 | exact absurd hc27 (by decide) | exact absurd (by omega) hc27; done)
                        | (
                          refine step_l (st_rd hf (Wn.some hf rfl rfl rfl rfl) (rd_not hf rfl rfl) hS rfl rfl ?_)
                          clear hf; intro a hf
                          refine step_l (st_rd hf (Wn.some hf rfl rfl rfl rfl) (rd_move hf rfl rfl) hS rfl rfl ?_)
                          clear hf; intro a hf
                          refine step_l (st_skip hf (Wn.some hf rfl rfl rfl rfl) rfl rfl ?_)
                          clear hf; intro a hf
                          refine step_l (st_skip hf (Wn.some hf rfl rfl rfl rfl) rfl rfl ?_)
                          clear hf; intro a hf
                          refine step_l (st_rd hf (Wn.some hf rfl rfl rfl rfl) (rd_pick_f hf rfl rfl rfl) hS rfl rfl ?_)
                          clear hf; intro a hf
                          refine step_l (st_rd hf (Wn.some hf rfl rfl rfl rfl) (rd_move hf rfl rfl) hS rfl rfl ?_)
                          clear hf; intro a hf
                          refine step_l (st_skip hf (Wn.some hf rfl rfl rfl rfl) rfl rfl ?_)
                          clear hf; intro a hf
                          refine step_l (st_skip hf (Wn.some hf rfl rfl rfl rfl) rfl rfl ?_)
                          clear hf; intro a hf
                          refine step_l (st_skip hf (Wn.some hf rfl rfl rfl rfl) rfl rfl ?_)
                          clear hf; intro a hf
                          refine step_l (st_skip hf (Wn.some hf rfl rfl rfl rfl) rfl rfl ?_)
                          clear hf; intro a hf
                          refine step_l (st_rd hf (Wn.some hf rfl rfl rfl rfl) (rd_pick_f hf rfl rfl rfl) hS rfl rfl ?_)
                          clear hf; intro a hf
                          refine step_l (st_rd hf (Wn.some hf rfl rfl rfl rfl) (rd_pick_f hf rfl rfl rfl) hS rfl rfl ?_)
                          clear hf; intro a hf
                          refine step_l (st_rd hf (Wn.none rfl) (rd_pick_t hf rfl rfl rfl) hS rfl rfl ?_)
                          clear hf; intro a hf
                          refine step_l (st_rd hf (Wn.none rfl) (rd_move hf rfl rfl) hS rfl rfl ?_)
                          clear hf; intro a hf
                          refine step_l (st_skip hf (Wn.some hf rfl rfl rfl rfl) rfl rfl ?_)
                          clear hf; intro a hf
                          refine step_l (st_rd hf (Wn.none rfl) (rd_pick_f hf rfl rfl rfl) hS rfl rfl ?_)
                          clear hf; intro a hf
                          refine step_l (st_rd hf (Wn.none rfl) (rd_assign hf rfl rfl) hS rfl rfl ?_)
                          clear hf; intro a hf
                          refine done_l ?_
                          refine t_normal ?_
                          refine c_ret ?_
                          refine e_res1 hf.defers rfl (res_tmp hf rfl .nil) ?_
                          exact ⟨rfl, hS.sub (by repeat (first | exact Sub.refl | exact Sub.none | exact Sub.behind | (apply Sub.cons; (focus ((repeat (first | exact Sel.head | apply Sel.tail)); done))) | apply Sub.skip))⟩
                          )
                      · clear hf; intro hc27 a hf
                        first
                        | (first | exact Bool.noConfusion hc27 | exact absurd rfl hc27 | exact absurd hc27 (by decide) | exact absurd (by omega) hc27; done)
                        | (
                          refine step_l (st_rd hf (Wn.some hf rfl rfl rfl rfl) (rd_not hf rfl rfl) hS rfl rfl ?_)
                          clear hf; intro a hf
                          refine step_l (st_rd hf (Wn.some hf rfl rfl rfl rfl) (rd_move hf rfl rfl) hS rfl rfl ?_)
                          clear hf; intro a hf
                          refine step_l (st_rd hf (Wn.some hf rfl rfl rfl rfl) (rd_move hf rfl rfl) hS rfl rfl ?_)
                          clear hf; intro a hf
                          refine step_l (st_rdB hf (Wn.some hf rfl rfl rfl rfl) (rd_eql hf rfl rfl rfl) hS rfl rfl ?_ ?_)
                          · clear hf; intro hc28 a hf
                            first
                            | (first | exact Bool.noConfusion hc28 | exact absurd rfl hc28 | exact absurd hc28 (by decide) | exact absurd (by omega) hc28; done)
                            | (
                              refine step_l (st_rd hf (Wn.some hf rfl rfl rfl rfl) (rd_pick_t hf rfl rfl rfl) hS rfl rfl ?_)
                              clear hf; intro a hf
                              refine step_l (st_rd hf (Wn.some hf rfl rfl rfl rfl) (rd_move hf rfl rfl) hS rfl rfl ?_)
                              clear hf; intro a hf
                              refine step_l (st_rd hf (Wn.some hf rfl rfl rfl rfl) (rd_move hf rfl rfl) hS rfl rfl ?_)
                              clear hf; intro a hf
                              refine step_l (st_rd hf (Wn.some hf rfl rfl rfl rfl) (rd_move hf rfl rfl) hS rfl rfl ?_)
                              clear hf; intro a hf
                              refine step_l (st_rd hf (Wn.some hf rfl rfl rfl rfl) (rd_add hf rfl rfl rfl (by first | exact Go.IntWalk.i64_in _ (by omega) | exact rfl)) hS rfl rfl ?_)
                              clear hf; intro a hf
                              refine step_l (st_rdB hf (Wn.some hf rfl rfl rfl rfl) (rd_eql hf rfl rfl rfl) hS rfl rfl ?_ ?_)
                              · clear hf; intro hc29 a hf
                                first
                                | (first | exact Bool.noConfusion hc29 | exact absurd rfl hc29 | exact absurd hc29 (by decide) | exact absurd (by omega) hc29; done)
                                | (
                                  refine step_l (st_rd hf (Wn.some hf rfl rfl rfl rfl) (rd_pick_t hf rfl rfl rfl) hS rfl rfl ?_)
                                  clear hf; intro a hf
                                  refine step_l (st_rd hf (Wn.some hf rfl rfl rfl rfl) (rd_pick_f hf rfl rfl rfl) hS rfl rfl ?_)
                                  clear hf; intro a hf
                                  refine step_l (st_rd hf (Wn.none rfl) (rd_pick_t hf rfl rfl rfl) hS rfl rfl ?_)
                                  clear hf; intro a hf
                                  refine step_l (st_rd hf (Wn.none rfl) (rd_move hf rfl rfl) hS rfl rfl ?_)
                                  clear hf; intro a hf
                                  refine step_l (st_call hf (Wn.some hf rfl rfl rfl rfl) rfl rfl rfl fn11 (awake_c hS) rfl rfl ?_)
                                  clear hf hS; rintro v a w ⟨rfl, hS⟩ hf
                                  refine step_l (st_rd hf (Wn.none rfl) (rd_pick_t hf rfl rfl rfl) hS rfl rfl ?_)
                                  clear hf; intro a hf
                                  refine step_l (st_rd hf (Wn.none rfl) (rd_assign hf rfl rfl) hS rfl rfl ?_)
                                  clear hf; intro a hf
                                  refine done_l ?_
                                  refine t_normal ?_
                                  refine c_ret ?_
                                  refine e_res1 hf.defers rfl (res_tmp hf rfl .nil) ?_
                                  exact ⟨rfl, hS.sub (by repeat (first | exact Sub.refl | exact Sub.none | exact Sub.behind | (apply Sub.cons; (focus ((repeat (first | exact Sel.head | apply Sel.tail)); done))) | apply Sub.skip))⟩
                                  )
                              · clear hf; intro hc29 a hf
                                first
                                | (first | exact Bool.noConfusion hc29 | exact absurd rfl hc29 | exact absurd hc29 (by decide) | exact absurd (by omega) hc29; done)
                                | (
                                  refine step_l (st_rd hf (Wn.some hf rfl rfl rfl rfl) (rd_pick_t hf rfl rfl rfl) hS rfl rfl ?_)
                                  clear hf; intro a hf
                                  refine step_l (st_rd hf (Wn.some hf rfl rfl rfl rfl) (rd_pick_f hf rfl rfl rfl) hS rfl rfl ?_)
                                  clear hf; intro a hf
                                  refine step_l (st_rd hf (Wn.none rfl) (rd_pick_t hf rfl rfl rfl) hS rfl rfl ?_)
                                  clear hf; intro a hf
                                  refine step_l (st_rd hf (Wn.none rfl) (rd_move hf rfl rfl) hS rfl rfl ?_)
                                  clear hf; intro a hf
                                  refine step_l (st_skip hf (Wn.some hf rfl rfl rfl rfl) rfl rfl ?_)
                                  clear hf; intro a hf
                                  refine step_l (st_rd hf (Wn.none rfl) (rd_pick_f hf rfl rfl rfl) hS rfl rfl ?_)
                                  clear hf; intro a hf
                                  refine step_l (st_rd hf (Wn.none rfl) (rd_assign hf rfl rfl) hS rfl rfl ?_)
                                  clear hf; intro a hf
                                  refine done_l ?_
                                  refine t_normal ?_
                                  refine c_ret ?_
                                  refine e_res1 hf.defers rfl (res_tmp hf rfl .nil) ?_
                                  exact ⟨rfl, hS.sub (by repeat (first | exact Sub.refl | exact Sub.none | exact Sub.behind | (apply Sub.cons; (focus ((repeat (first | exact Sel.head | apply Sel.tail)); done))) | apply Sub.skip))⟩
                                  )
                              )
                          · clear hf; intro hc28 a hf
                            first
                            | (first | exact Bool.noConfusion hc28 | exact absurd rfl hc28 | exact absurd hc28 (by decide) | exact absurd (by omega) hc28; done)
                            | (
                              refine step_l (st_rd hf (Wn.some hf rfl rfl rfl rfl) (rd_pick_t hf rfl rfl rfl) hS rfl rfl ?_)
                              clear hf; intro a hf
                              refine step_l (st_rd hf (Wn.some hf rfl rfl rfl rfl) (rd_move hf rfl rfl) hS rfl rfl ?_)
                              clear hf; intro a hf
                              refine step_l (st_skip hf (Wn.some hf rfl rfl rfl rfl) rfl rfl ?_)
                              clear hf; intro a hf
                              refine step_l (st_skip hf (Wn.some hf rfl rfl rfl rfl) rfl rfl ?_)
                              clear hf; intro a hf
                              refine step_l (st_skip hf (Wn.some hf rfl rfl rfl rfl) rfl rfl ?_)
                              clear hf; intro a hf
                              refine step_l (st_skip hf (Wn.some hf rfl rfl rfl rfl) rfl rfl ?_)
                              clear hf; intro a hf
                              refine step_l (st_rd hf (Wn.some hf rfl rfl rfl rfl) (rd_pick_f hf rfl rfl rfl) hS rfl rfl ?_)
                              clear hf; intro a hf
                              refine step_l (st_rd hf (Wn.some hf rfl rfl rfl rfl) (rd_pick_f hf rfl rfl rfl) hS rfl rfl ?_)
                              clear hf; intro a hf
                              refine step_l (st_rd hf (Wn.none rfl) (rd_pick_t hf rfl rfl rfl) hS rfl rfl ?_)
                              clear hf; intro a hf
                              refine step_l (st_rd hf (Wn.none rfl) (rd_move hf rfl rfl) hS rfl rfl ?_)
                              clear hf; intro a hf
                              refine step_l (st_skip hf (Wn.some hf rfl rfl rfl rfl) rfl rfl ?_)
                              clear hf; intro a hf
                              refine step_l (st_rd hf (Wn.none rfl) (rd_pick_f hf rfl rfl rfl) hS rfl rfl ?_)
                              clear hf; intro a hf
                              refine step_l (st_rd hf (Wn.none rfl) (rd_assign hf rfl rfl) hS rfl rfl ?_)
                              clear hf; intro a hf
                              refine done_l ?_
                              refine t_normal ?_
                              refine c_ret ?_
                              refine e_res1 hf.defers rfl (res_tmp hf rfl .nil) ?_
                              exact ⟨rfl, hS.sub (by repeat (first | exact Sub.refl | exact Sub.none | exact Sub.behind | (apply Sub.cons; (focus ((repeat (first | exact Sel.head | apply Sel.tail)); done))) | apply Sub.skip))⟩
                              )
                          )
                      )
                  )
              · clear hf; intro hc21 a hf
                first
                | (first | exact Bool.noConfusion hc21 | exact absurd rfl hc21 | exact absurd hc21 (by decide) | exact absurd (by omega) hc21; done)
                | (
                  refine step_l (st_rd hf (Wn.some hf rfl rfl rfl rfl) (rd_move hf rfl rfl) hS rfl rfl ?_)
                  clear hf; intro a hf
                  refine step_l (st_skip hf (Wn.some hf rfl rfl rfl rfl) rfl rfl ?_)
                  clear hf; intro a hf
                  refine step_l (st_skip hf (Wn.some hf rfl rfl rfl rfl) rfl rfl ?_)
                  clear hf; intro a hf
                  refine step_l (st_rd hf (Wn.some hf rfl rfl rfl rfl) (rd_pick_f hf rfl rfl rfl) hS rfl rfl ?_)
                  clear hf; intro a hf
                  refine step_l (st_rd hf (Wn.some hf rfl rfl rfl rfl) (rd_move hf rfl rfl) hS rfl rfl ?_)
                  clear hf; intro a hf
                  refine step_l (st_skip hf (Wn.some hf rfl rfl rfl rfl) rfl rfl ?_)
                  clear hf; intro a hf
                  refine step_l (st_skip hf (Wn.some hf rfl rfl rfl rfl) rfl rfl ?_)
                  clear hf; intro a hf
                  refine step_l (st_rd hf (Wn.some hf rfl rfl rfl rfl) (rd_pick_f hf rfl rfl rfl) hS rfl rfl ?_)
                  clear hf; intro a hf
                  refine step_l (st_rd hf (Wn.some hf rfl rfl rfl rfl) (rd_move hf rfl rfl) hS rfl rfl ?_)
                  clear hf; intro a hf
                  refine step_l (st_rdb hf (Wn.some hf rfl rfl rfl rfl) (rd_move hf rfl rfl) hS rfl rfl ?_ ?_)
                  · clear hf; intro hc30 a hf
                    first
                    | (first | exact Bool.noConfusion hc30 | exact absurd rfl hc30 | exact absurd hc30 (by decide) | exact absurd (by omega) hc30; done)
                    | (
                      refine step_l (st_rd hf (Wn.some hf rfl rfl rfl rfl) (rd_not hf rfl rfl) hS rfl rfl ?_)
                      clear hf; intro a hf
                      refine step_l (st_rd hf (Wn.some hf rfl rfl rfl rfl) (rd_move hf rfl rfl) hS rfl rfl ?_)
                      clear hf; intro a hf
                      refine step_l (st_skip hf (Wn.some hf rfl rfl rfl rfl) rfl rfl ?_)
                      clear hf; intro a hf
                      refine step_l (st_skip hf (Wn.some hf rfl rfl rfl rfl) rfl rfl ?_)
                      clear hf; intro a hf
                      refine step_l (st_rd hf (Wn.some hf rfl rfl rfl rfl) (rd_pick_f hf rfl rfl rfl) hS rfl rfl ?_)
                      clear hf; intro a hf
                      refine step_l (st_rd hf (Wn.some hf rfl rfl rfl rfl) (rd_move hf rfl rfl) hS rfl rfl ?_)
                      clear hf; intro a hf
                      refine step_l (st_skip hf (Wn.some hf rfl rfl rfl rfl) rfl rfl ?_)
                      clear hf; intro a hf
                      refine step_l (st_skip hf (Wn.some hf rfl rfl rfl rfl) rfl rfl ?_)
                      clear hf; intro a hf
                      refine step_l (st_skip hf (Wn.some hf rfl rfl rfl rfl) rfl rfl ?_)
                      clear hf; intro a hf
                      refine step_l (st_skip hf (Wn.some hf rfl rfl rfl rfl) rfl rfl ?_)
                      clear hf; intro a hf
                      refine step_l (st_rd hf (Wn.some hf rfl rfl rfl rfl) (rd_pick_f hf rfl rfl rfl) hS rfl rfl ?_)
                      clear hf; intro a hf
                      refine step_l (st_rd hf (Wn.some hf rfl rfl rfl rfl) (rd_pick_f hf rfl rfl rfl) hS rfl rfl ?_)
                      clear hf; intro a hf
                      refine step_l (st_rd hf (Wn.none rfl) (rd_pick_t hf rfl rfl rfl) hS rfl rfl ?_)
                      clear hf; intro a hf
                      refine step_l (st_rd hf (Wn.none rfl) (rd_move hf rfl rfl) hS rfl rfl ?_)
                      clear hf; intro a hf
                      refine step_l (st_skip hf (Wn.some hf rfl rfl rfl rfl) rfl rfl ?_)
                      clear hf; intro a hf
                      refine step_l (st_rd hf (Wn.none rfl) (rd_pick_f hf rfl rfl rfl) hS rfl rfl ?_)
                      clear hf; intro a hf
                      refine step_l (st_rd hf (Wn.none rfl) (rd_assign hf rfl rfl) hS rfl rfl ?_)
                      clear hf; intro a hf
                      refine done_l ?_
                      refine t_normal ?_
                      refine c_ret ?_
                      refine e_res1 hf.defers rfl (res_tmp hf rfl .nil) ?_
                      exact ⟨rfl, hS.sub (by repeat (first | exact Sub.refl | exact Sub.none | exact Sub.behind | (apply Sub.cons; (focus ((repeat (first | exact Sel.head | apply Sel.tail)); done))) | apply Sub.skip))⟩
                      )
                  · clear hf; intro hc30 a hf
                    first
                    | (first | exact Bool.noConfusion hc30 | exact absurd rfl hc30 | exact absurd hc30 (by decide) | exact absurd (by omega) hc30; done)
                    | (
                      refine step_l (st_rd hf (Wn.some hf rfl rfl rfl rfl) (rd_not hf rfl rfl) hS rfl rfl ?_)
                      clear hf; intro a hf
                      refine step_l (st_rd hf (Wn.some hf rfl rfl rfl rfl) (rd_move hf rfl rfl) hS rfl rfl ?_)
                      clear hf; intro a hf
                      refine step_l (st_rd hf (Wn.some hf rfl rfl rfl rfl) (rd_move hf rfl rfl) hS rfl rfl ?_)
                      clear hf; intro a hf
                      refine step_l (st_rdB hf (Wn.some hf rfl rfl rfl rfl) (rd_eql hf rfl rfl rfl) hS rfl rfl ?_ ?_)
                      · clear hf; intro hc31 a hf
                        first
                        | (first | exact Bool.noConfusion hc31 | exact absurd rfl hc31 | exact absurd hc31 (by decide) | exact absurd (by omega) hc31; done)
                        | (
                          refine step_l (st_rd hf (Wn.some hf rfl rfl rfl rfl) (rd_pick_t hf rfl rfl rfl) hS rfl rfl ?_)
                          clear hf; intro a hf
                          refine step_l (st_rd hf (Wn.some hf rfl rfl rfl rfl) (rd_move hf rfl rfl) hS rfl rfl ?_)
                          clear hf; intro a hf
                          refine step_l (st_rd hf (Wn.some hf rfl rfl rfl rfl) (rd_move hf rfl rfl) hS rfl rfl ?_)
                          clear hf; intro a hf
                          refine step_l (st_rd hf (Wn.some hf rfl rfl rfl rfl) (rd_move hf rfl rfl) hS rfl rfl ?_)
                          clear hf; intro a hf
                          refine step_l (st_rd hf (Wn.some hf rfl rfl rfl rfl) (rd_add hf rfl rfl rfl (by first | exact Go.IntWalk.i64_in _ (by omega) | exact rfl)) hS rfl rfl ?_)
                          clear hf; intro a hf
                          refine step_l (st_rdB hf (Wn.some hf rfl rfl rfl rfl) (rd_eql hf rfl rfl rfl) hS rfl rfl ?_ ?_)
                          · clear hf; intro hc32 a hf
                            first
                            | (first | exact Bool.noConfusion hc32 | exact absurd rfl hc32 | exact absurd hc32 (by decide) | exact absurd (by omega) hc32; done)
                            | (
                              refine step_l (st_rd hf (Wn.some hf rfl rfl rfl rfl) (rd_pick_t hf rfl rfl rfl) hS rfl rfl ?_)
                              clear hf; intro a hf
                              refine step_l (st_rd hf (Wn.some hf rfl rfl rfl rfl) (rd_pick_f hf rfl rfl rfl) hS rfl rfl ?_)
                              clear hf; intro a hf
                              refine step_l (st_rd hf (Wn.none rfl) (rd_pick_t hf rfl rfl rfl) hS rfl rfl ?_)
                              clear hf; intro a hf
                              refine step_l (st_rd hf (Wn.none rfl) (rd_move hf rfl rfl) hS rfl rfl ?_)
                              clear hf; intro a hf
                              refine step_l (st_call hf (Wn.some hf rfl rfl rfl rfl) rfl rfl rfl fn11 (awake_c hS) rfl rfl ?_)
                              clear hf hS; rintro v a w ⟨rfl, hS⟩ hf
                              refine step_l (st_rd hf (Wn.none rfl) (rd_pick_t hf rfl rfl rfl) hS rfl rfl ?_)
                              clear hf; intro a hf
                              refine step_l (st_rd hf (Wn.none rfl) (rd_assign hf rfl rfl) hS rfl rfl ?_)
                              clear hf; intro a hf
                              refine done_l ?_
                              refine t_normal ?_
                              refine c_ret ?_
                              refine e_res1 hf.defers rfl (res_tmp hf rfl .nil) ?_
                              exact ⟨rfl, hS.sub (by repeat (first | exact Sub.refl | exact Sub.none | exact Sub.behind | (apply Sub.cons; (focus ((repeat (first | exact Sel.head | apply Sel.tail)); done))) | apply Sub.skip))⟩
                              )
                          · clear hf; intro hc32 a hf
                            first
                            | (first | exact Bool.noConfusion hc32 | exact absurd rfl hc32 | exact absurd hc32 (by decide) | exact absurd (by omega) hc32; done)
                            | (
                              refine step_l (st_rd hf (Wn.some hf rfl rfl rfl rfl) (rd_pick_t hf rfl rfl rfl) hS rfl rfl ?_)
                              clear hf; intro a hf
                              refine step_l (st_rd hf (Wn.some hf rfl rfl rfl rfl) (rd_pick_f hf rfl rfl rfl) hS rfl rfl ?_)
                              clear hf; intro a hf
                              refine step_l (st_rd hf (Wn.none rfl) (rd_pick_t hf rfl rfl rfl) hS rfl rfl ?_)
                              clear hf; intro a hf
                              refine step_l (st_rd hf (Wn.none rfl) (rd_move hf rfl rfl) hS rfl rfl ?_)
                              clear hf; intro a hf
                              refine step_l (st_skip hf (Wn.some hf rfl rfl rfl rfl) rfl rfl ?_)
                              clear hf; intro a hf
                              refine step_l (st_rd hf (Wn.none rfl) (rd_pick_f hf rfl rfl rfl) hS rfl rfl ?_)
                              clear hf; intro a hf
                              refine step_l (st_rd hf (Wn.none rfl) (rd_assign hf rfl rfl) hS rfl rfl ?_)
                              clear hf; intro a hf
                              refine done_l ?_
                              refine t_normal ?_
                              refine c_ret ?_
                              refine e_res1 hf.defers rfl (res_tmp hf rfl .nil) ?_
                              exact ⟨rfl, hS.sub (by repeat (first | exact Sub.refl | exact Sub.none | exact Sub.behind | (apply Sub.cons; (focus ((repeat (first | exact Sel.head | apply Sel.tail)); done))) | apply Sub.skip))⟩
                              )
                          )
                      · clear hf; intro hc31 a hf
                        first
                        | (first | exact Bool.noConfusion hc31 | exact absurd rfl hc31 | exact absurd hc31 (by decide) | exact absurd (by omega) hc31; done)
                        | (
                          refine step_l (st_rd hf (Wn.some hf rfl rfl rfl rfl) (rd_pick_t hf rfl rfl rfl) hS rfl rfl ?_)
                          clear hf; intro a hf
                          refine step_l (st_rd hf (Wn.some hf rfl rfl rfl rfl) (rd_move hf rfl rfl) hS rfl rfl ?_)
                          clear hf; intro a hf
                          refine step_l (st_skip hf (Wn.some hf rfl rfl rfl rfl) rfl rfl ?_)
                          clear hf; intro a hf
                          refine step_l (st_skip hf (Wn.some hf rfl rfl rfl rfl) rfl rfl ?_)
                          clear hf; intro a hf
                          refine step_l (st_skip hf (Wn.some hf rfl rfl rfl rfl) rfl rfl ?_)
                          clear hf; intro a hf
                          refine step_l (st_skip hf (Wn.some hf rfl rfl rfl rfl) rfl rfl ?_)
                          clear hf; intro a hf
                          refine step_l (st_rd hf (Wn.some hf rfl rfl rfl rfl) (rd_pick_f hf rfl rfl rfl) hS rfl rfl ?_)
                          clear hf; intro a hf
                          refine step_l (st_rd hf (Wn.some hf rfl rfl rfl rfl) (rd_pick_f hf rfl rfl rfl) hS rfl rfl ?_)
                          clear hf; intro a hf
                          refine step_l (st_rd hf (Wn.none rfl) (rd_pick_t hf rfl rfl rfl) hS rfl rfl ?_)
                          clear hf; intro a hf
                          refine step_l (st_rd hf (Wn.none rfl) (rd_move hf rfl rfl) hS rfl rfl ?_)
                          clear hf; intro a hf
                          refine step_l (st_skip hf (Wn.some hf rfl rfl rfl rfl) rfl rfl ?_)
                          clear hf; intro a hf
                          refine step_l (st_rd hf (Wn.none rfl) (rd_pick_f hf rfl rfl rfl) hS rfl rfl ?_)
                          clear hf; intro a hf
                          refine step_l (st_rd hf (Wn.none rfl) (rd_assign hf rfl rfl) hS rfl rfl ?_)
                          clear hf; intro a hf
                          refine done_l ?_
                          refine t_normal ?_
                          refine c_ret ?_
                          refine e_res1 hf.defers rfl (res_tmp hf rfl .nil) ?_
                          exact ⟨rfl, hS.sub (by repeat (first | exact Sub.refl | exact Sub.none | exact Sub.behind | (apply Sub.cons; (focus ((repeat (first | exact Sel.head | apply Sel.tail)); done))) | apply Sub.skip))⟩
                          )
                      )
                  )
              )
          · clear hf; intro hc20 a hf
            first
            | (first | exact Bool.noConfusion hc20 | exact absurd rfl hc20 | exact absurd hc20 (by decide) | exact absurd (by omega) hc20; done)
            | (
              refine step_l (st_rd hf (Wn.none rfl) (rd_move hf rfl rfl) hS rfl rfl ?_)
              clear hf; intro a hf
              refine step_l (st_skip hf (Wn.some hf rfl rfl rfl rfl) rfl rfl ?_)
              clear hf; intro a hf
              refine step_l (st_skip hf (Wn.some hf rfl rfl rfl rfl) rfl rfl ?_)
              clear hf; intro a hf
              refine step_l (st_skip hf (Wn.undef hf rfl rfl rfl) rfl rfl ?_)
              clear hf; intro a hf
              refine step_l (st_skip hf (Wn.undef hf rfl rfl rfl) rfl rfl ?_)
              clear hf; intro a hf
              refine step_l (st_skip hf (Wn.some hf rfl rfl rfl rfl) rfl rfl ?_)
              clear hf; intro a hf
              refine step_l (st_skip hf (Wn.some hf rfl rfl rfl rfl) rfl rfl ?_)
              clear hf; intro a hf
              refine step_l (st_skip hf (Wn.undef hf rfl rfl rfl) rfl rfl ?_)
              clear hf; intro a hf
              refine step_l (st_skip hf (Wn.undef hf rfl rfl rfl) rfl rfl ?_)
              clear hf; intro a hf
              refine step_l (st_skip hf (Wn.some hf rfl rfl rfl rfl) rfl rfl ?_)
              clear hf; intro a hf
              refine step_l (st_skip hf (Wn.some hf rfl rfl rfl rfl) rfl rfl ?_)
              clear hf; intro a hf
              refine step_l (st_skip hf (Wn.undef hf rfl rfl rfl) rfl rfl ?_)
              clear hf; intro a hf
              refine step_l (st_skip hf (Wn.undef hf rfl rfl rfl) rfl rfl ?_)
              clear hf; intro a hf
              refine step_l (st_skip hf (Wn.undef hf rfl rfl rfl) rfl rfl ?_)
              clear hf; intro a hf
              refine step_l (st_skip hf (Wn.undef hf rfl rfl rfl) rfl rfl ?_)
              clear hf; intro a hf
              refine step_l (st_skip hf (Wn.undef hf rfl rfl rfl) rfl rfl ?_)
              clear hf; intro a hf
              refine step_l (st_skip hf (Wn.undef hf rfl rfl rfl) rfl rfl ?_)
              clear hf; intro a hf
              refine step_l (st_skip hf (Wn.undef hf rfl rfl rfl) rfl rfl ?_)
              clear hf; intro a hf
              refine step_l (st_skip hf (Wn.undef hf rfl rfl rfl) rfl rfl ?_)
              clear hf; intro a hf
              refine step_l (st_skip hf (Wn.undef hf rfl rfl rfl) rfl rfl ?_)
              clear hf; intro a hf
              refine step_l (st_skip hf (Wn.undef hf rfl rfl rfl) rfl rfl ?_)
              clear hf; intro a hf
              refine step_l (st_skip hf (Wn.undef hf rfl rfl rfl) rfl rfl ?_)
              clear hf; intro a hf
              refine step_l (st_skip hf (Wn.undef hf rfl rfl rfl) rfl rfl ?_)
              clear hf; intro a hf
              refine step_l (st_skip hf (Wn.some hf rfl rfl rfl rfl) rfl rfl ?_)
              clear hf; intro a hf
              refine step_l (st_rd hf (Wn.none rfl) (rd_pick_f hf rfl rfl rfl) hS rfl rfl ?_)
              clear hf; intro a hf
              refine step_l (st_rd hf (Wn.none rfl) (rd_move hf rfl rfl) hS rfl rfl ?_)
              clear hf; intro a hf
              refine step_l (st_skip hf (Wn.some hf rfl rfl rfl rfl) rfl rfl ?_)
              clear hf; intro a hf
              refine step_l (st_rd hf (Wn.none rfl) (rd_pick_f hf rfl rfl rfl) hS rfl rfl ?_)
              clear hf; intro a hf
              refine step_l (st_rd hf (Wn.none rfl) (rd_assign hf rfl rfl) hS rfl rfl ?_)
              clear hf; intro a hf
              refine done_l ?_
              refine t_normal ?_
              refine c_ret ?_
              refine e_res1 hf.defers rfl (res_tmp hf rfl .nil) ?_
              exact ⟨rfl, hS.sub (by repeat (first | exact Sub.refl | exact Sub.none | exact Sub.behind | (apply Sub.cons; (focus ((repeat (first | exact Sel.head | apply Sel.tail)); done))) | apply Sub.skip))⟩
              )
          )
      )

end Go.Proofs.Ytbfjfffeeelikaa
