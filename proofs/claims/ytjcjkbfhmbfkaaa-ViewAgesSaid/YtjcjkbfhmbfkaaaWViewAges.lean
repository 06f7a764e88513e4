/-
  The statement ViewAges, walked.
  Conditions: none.
-/
import Derived.Test.YtjcjkbfhmbfkaaaView3
namespace Go.Proofs.Ytjcjkbfhmbfkaaa
open Go Go.Sl
set_option linter.unusedVariables false
set_option linter.unusedSimpArgs false
theorem ag42 : aggO Try.prog 42 = some true := by kernel_rfl
theorem fn14 : fnB Try.prog 14 = true := by kernel_rfl
theorem fn19 : fnB Try.prog 19 = true := by kernel_rfl
theorem fn20 : fnB Try.prog 20 = true := by kernel_rfl
theorem fn21 : fnB Try.prog 21 = true := by kernel_rfl
theorem fn22 : fnB Try.prog 22 = true := by kernel_rfl
theorem fn24 : fnB Try.prog 24 = true := by kernel_rfl
theorem sz42 : (Try.prog.info? 42).map (·.size) = some 3 := by kernel_rfl
set_option maxRecDepth 100000 in
set_option maxHeartbeats 4000000 in
theorem ViewAges_c (nodes node ticks : Int) (m : Mb) {W : World} {R : List HP} {w : World} (hS : Sat W (R) w)  : Calls Try.prog 4 [.int .i64 nodes, .int .i64 node, .int .i64 ticks, .agg #[.int .i64 m.1, .int .i64 m.2.1]].toArray w (Ret fun v w' => v = .bool true ∧ Sat W R w') := by
  refine fn_start 93 Try.func4 rfl rfl rfl ?_
  intro a hf
  refine c_seq ?_
  refine c_region ?_
  refine step_l (st_box hf (Wn.none rfl) hS rfl rfl (by rfl) rfl rfl ?_)
  clear hf hS; intro b_m a w hf hS
  refine step_l (st_rd hf (Wn.none rfl) (rd_assign hf rfl rfl) hS rfl rfl ?_)
  clear hf; intro a hf
  refine done_l ?_
  refine t_normal ?_
  refine c_seq ?_
  refine c_region ?_
  refine step_l (st_rd hf (Wn.none rfl) (rd_move hf rfl rfl) hS rfl rfl ?_)
  clear hf; intro a hf
  refine step_l (st_rd hf (Wn.none rfl) (rd_convInt hf rfl rfl Try.underlying3 Try.underlying23 rfl) hS rfl rfl ?_)
  clear hf; intro a hf
  refine step_l (st_rd hf (Wn.none rfl) (rd_rem hf rfl rfl rfl (by first | decide | omega) (u64mod (m := 7) nodes (by decide))) hS rfl rfl ?_)
  clear hf; intro a hf
  refine step_l (st_rd hf (Wn.none rfl) (rd_convInt hf rfl rfl Try.underlying23 Try.underlying3 (Go.IntWalk.i64_in _ (by omega))) hS rfl rfl ?_)
  clear hf; intro a hf
  refine step_l (st_rd hf (Wn.none rfl) (rd_add hf rfl rfl rfl ((Go.IntWalk.i64_in _ (by omega)).trans (Int.natCast_add _ 2).symm)) hS rfl rfl ?_)
  clear hf; intro a hf
  refine step_l (st_rd hf (Wn.none rfl) (rd_assign hf rfl rfl) hS rfl rfl ?_)
  clear hf; intro a hf
  refine done_l ?_
  obtain ⟨n, hn⟩ : ∃ n : Nat, n = (nodes % 18446744073709551616).toNat % 7 + 2 := ⟨_, rfl⟩
  rw [← hn] at hf; have hnb : n ≤ 8 ∧ 2 ≤ n := by omega
  refine t_normal ?_
  refine c_seq ?_
  refine c_region ?_
  refine step_l (st_rd hf (Wn.none rfl) (rd_move hf rfl rfl) hS rfl rfl ?_)
  clear hf; intro a hf
  refine step_l (st_rd hf (Wn.none rfl) (rd_convInt hf rfl rfl Try.underlying3 Try.underlying23 rfl) hS rfl rfl ?_)
  clear hf; intro a hf
  refine step_l (st_rd hf (Wn.none rfl) (rd_move hf rfl rfl) hS rfl rfl ?_)
  clear hf; intro a hf
  refine step_l (st_rd hf (Wn.none rfl) (rd_sub hf rfl rfl rfl (i64_sub (m := n) (n := 1) (by omega) (by omega))) hS rfl rfl ?_)
  clear hf; intro a hf
  refine step_l (st_rd hf (Wn.none rfl) (rd_convInt hf rfl rfl Try.underlying3 Try.underlying23 (wrap64 (by omega))) hS rfl rfl ?_)
  clear hf; intro a hf
  refine step_l (st_rd hf (Wn.none rfl) (rd_rem hf rfl rfl rfl (by first | decide | omega) (u64mod node (by omega))) hS rfl rfl ?_)
  clear hf; intro a hf
  refine step_l (st_rd hf (Wn.none rfl) (rd_convInt hf rfl rfl Try.underlying23 Try.underlying3 (Go.IntWalk.i64_in _ (by have := Nat.mod_lt (node % 18446744073709551616).toNat (show 0 < n - 1 by omega); omega))) hS rfl rfl ?_)
  clear hf; intro a hf
  refine step_l (st_rd hf (Wn.none rfl) (rd_add hf rfl rfl rfl ((Go.IntWalk.i64_in _ (by have := Nat.mod_lt (node % 18446744073709551616).toNat (show 0 < n - 1 by omega); omega)).trans (Int.natCast_add 1 _).symm)) hS rfl rfl ?_)
  clear hf; intro a hf
  refine step_l (st_rd hf (Wn.none rfl) (rd_assign hf rfl rfl) hS rfl rfl ?_)
  clear hf; intro a hf
  refine done_l ?_
  obtain ⟨nd, hndd⟩ : ∃ nd : Nat, nd = 1 + (node % 18446744073709551616).toNat % (n - 1) := ⟨_, rfl⟩
  have hnd : 1 ≤ nd ∧ nd < n := by have := Nat.mod_lt (node % 18446744073709551616).toNat (show 0 < n - 1 by omega); omega
  rw [← hndd] at hf
  refine t_normal ?_
  refine c_seq ?_
  refine c_region ?_
  refine step_l (st_rd hf (Wn.none rfl) (rd_move hf rfl rfl) hS rfl rfl ?_)
  clear hf; intro a hf
  refine step_l (st_rd hf (Wn.none rfl) (rd_convInt hf rfl rfl Try.underlying3 Try.underlying23 rfl) hS rfl rfl ?_)
  clear hf; intro a hf
  refine step_l (st_rd hf (Wn.none rfl) (rd_rem hf rfl rfl rfl (by first | decide | omega) (u64mod (m := 9) ticks (by decide))) hS rfl rfl ?_)
  clear hf; intro a hf
  refine step_l (st_rd hf (Wn.none rfl) (rd_convInt hf rfl rfl Try.underlying23 Try.underlying3 (Go.IntWalk.i64_in _ (by omega))) hS rfl rfl ?_)
  clear hf; intro a hf
  refine step_l (st_rd hf (Wn.none rfl) (rd_assign hf rfl rfl) hS rfl rfl ?_)
  clear hf; intro a hf
  refine done_l ?_
  obtain ⟨T, hT⟩ : ∃ T : Nat, T = (ticks % 18446744073709551616).toNat % 9 := ⟨_, rfl⟩
  rw [← hT] at hf; have hT9 : T < 9 := by omega
  have hst := aged_state (aged_ticks hnd.1 hnd.2 hnb.1 T) hnd.2
  refine t_normal ?_
  refine c_seq ?_
  refine c_region ?_
  refine step_l (st_rd hf (Wn.none rfl) (rd_move hf rfl rfl) hS rfl rfl ?_)
  clear hf; intro a hf
  refine step_l (st_call hf (Wn.none rfl) rfl rfl rfl fn10 (VNew_c _ 0 n hS (by omega) (by omega)) rfl rfl ?_)
  clear hf hS; rintro v a w ⟨pv, b1, b2, b3, rfl, hS⟩ hf
  refine step_l (st_rd hf (Wn.none rfl) (rd_assign hf rfl rfl) hS rfl rfl ?_)
  clear hf; intro a hf
  refine done_l ?_
  refine t_normal ?_
  refine c_seq ?_
  refine c_seq ?_
  refine c_region ?_
  refine step_l (st_rd hf (Wn.none rfl) (rd_move hf rfl rfl) hS rfl rfl ?_)
  clear hf; intro a hf
  refine step_l (st_rd hf (Wn.none rfl) (rd_move hf rfl rfl) hS rfl rfl ?_)
  clear hf; intro a hf
  refine step_l (st_call hf (Wn.none rfl) rfl rfl rfl fn15 (VSuspect_c _ _ _ _ _ _ _ (hS.sels (.cons (by repeat (first | exact Sel.head | apply Sel.tail)) (.cons (by repeat (first | exact Sel.head | apply Sel.tail)) (.cons (by repeat (first | exact Sel.head | apply Sel.tail)) (.cons (by repeat (first | exact Sel.head | apply Sel.tail)) .nil))))) (vNew_ok (by omega) hnb.1)) rfl rfl ?_)
  clear hf hS; rintro v a w ⟨rfl, hS⟩ hf
  first | refine split_dec (d := 32) hf rfl ?_ ?_ | refine split_bool (d := 32) hf rfl ?_ ?_
  · clear hf; intro hc2 hf
    first
    | (first | exact Bool.noConfusion hc2 | exact absurd rfl hc2 | exact absurd (aged_start hnd.1 hnd.2 hnb.1).1 hc2 | exact absurd hc2 (aged_start hnd.1 hnd.2 hnb.1).2.1 | exact Bool.noConfusion (hq1.symm.trans hc2) | exact absurd hq3 hc2 | (rw [hst] at hc2; split at hc2 <;> omega) | (exfalso; apply hc2; rw [hst]; apply decide_eq_decide.2; split <;> omega); done)
    | (
      refine step_l (st_rd hf (Wn.none rfl) (rd_not hf rfl rfl) hS rfl rfl ?_)
      clear hf; intro a hf
      refine step_l (st_rd hf (Wn.none rfl) (rd_move hf rfl rfl) hS rfl rfl ?_)
      clear hf; intro a hf
      refine step_l (st_rd hf (Wn.some hf rfl rfl rfl rfl) (rd_move hf rfl rfl) hS rfl rfl ?_)
      clear hf; intro a hf
      refine step_l (st_rd hf (Wn.some hf rfl rfl rfl rfl) (rd_move hf rfl rfl) hS rfl rfl ?_)
      clear hf; intro a hf
      refine step_l (st_call hf (Wn.some hf rfl rfl rfl rfl) rfl rfl rfl fn15 (VSuspect_c _ _ _ _ _ _ _ (hS.sels (.cons (by repeat (first | exact Sel.head | apply Sel.tail)) (.cons (by repeat (first | exact Sel.head | apply Sel.tail)) (.cons (by repeat (first | exact Sel.head | apply Sel.tail)) (.cons (by repeat (first | exact Sel.head | apply Sel.tail)) .nil))))) (vSus_ok (vNew_ok (by omega) hnb.1))) rfl rfl ?_)
      clear hf hS; rintro v a w ⟨rfl, hS⟩ hf; rw [show vSus (vSus (vNew n 0) nd) nd = vSus (vNew n 0) nd from if_neg (aged_start hnd.1 hnd.2 hnb.1).2.1] at hS
      first | refine split_dec (d := 37) hf rfl ?_ ?_ | refine split_bool (d := 37) hf rfl ?_ ?_
      · clear hf; intro hc3 hf
        first
        | (first | exact Bool.noConfusion hc3 | exact absurd rfl hc3 | exact absurd (aged_start hnd.1 hnd.2 hnb.1).1 hc3 | exact absurd hc3 (aged_start hnd.1 hnd.2 hnb.1).2.1 | exact Bool.noConfusion (hq1.symm.trans hc3) | exact absurd hq3 hc3 | (rw [hst] at hc3; split at hc3 <;> omega) | (exfalso; apply hc3; rw [hst]; apply decide_eq_decide.2; split <;> omega); done)
        | (
          refine step_l (st_rd hf (Wn.none rfl) (rd_pick_f hf rfl rfl rfl) hS rfl rfl ?_)
          clear hf; intro a hf
          refine done_l ?_
          refine t_normal ?_
          refine c_true hf rfl ?_
          refine c_seq ?_
          refine c_region ?_
          refine step_l (st_rd hf (Wn.none rfl) (rd_assign hf rfl rfl) hS rfl rfl ?_)
          clear hf; intro a hf
          refine done_l ?_
          refine t_normal ?_
          refine c_ret ?_
          refine t_ret ?_
          refine e_res1 hf.defers rfl (res_tmp hf rfl .nil) ?_
          exact ⟨rfl, hS.sub (by repeat (first | exact Sub.refl | exact Sub.none | exact Sub.behind | (apply Sub.cons; (focus ((repeat (first | exact Sel.head | apply Sel.tail)); done))) | apply Sub.skip))⟩
          )
      · clear hf; intro hc3 hf
        first
        | (first | exact Bool.noConfusion hc3 | exact absurd rfl hc3 | exact absurd (aged_start hnd.1 hnd.2 hnb.1).1 hc3 | exact absurd hc3 (aged_start hnd.1 hnd.2 hnb.1).2.1 | exact Bool.noConfusion (hq1.symm.trans hc3) | exact absurd hq3 hc3 | (rw [hst] at hc3; split at hc3 <;> omega) | (exfalso; apply hc3; rw [hst]; apply decide_eq_decide.2; split <;> omega); done)
        | (
          refine step_l (st_rd hf (Wn.none rfl) (rd_pick_f hf rfl rfl rfl) hS rfl rfl ?_)
          clear hf; intro a hf
          refine done_l ?_
          refine t_normal ?_
          refine c_false hf rfl ?_
          refine c_skip ?_
          refine t_normal ?_
          refine c_seq ?_
          refine c_seq ?_
          refine c_region ?_
          refine step_l (st_rd hf (Wn.none rfl) (rd_move hf rfl rfl) hS rfl rfl ?_)
          clear hf; intro a hf
          refine step_l (st_rd hf (Wn.none rfl) (rd_move hf rfl rfl) hS rfl rfl ?_)
          clear hf; intro a hf
          refine done_l ?_
          refine t_normal ?_
          refine c_block ?_
          have hk0 := Keep.of hf [(40, 44)] (by repeat (first | exact Keep.nil | apply Keep.drop rfl | apply Keep.take rfl))
          refine c_loopK hk0 (α := Nat) (fun k => [(40, .int .i64 (k : Nat))]) (fun k w => Sat W (Blk pv [.int .i64 ((vTicks (vSus (vNew n 0) nd) k).me : Nat), .slice (some ⟨b1, 0, none⟩) n n, .slice (some ⟨b2, 0, none⟩) n n, .slice (some ⟨b3, 0, none⟩) n n] 53 :: Rw 31 2 (some ⟨b1, 0, none⟩) n n ((vTicks (vSus (vNew n 0) nd) k).l.flatMap memC) :: Rw 3 1 (some ⟨b2, 0, none⟩) n n (i64s (vTicks (vSus (vNew n 0) nd) k).ag) :: Rw 3 1 (some ⟨b3, 0, none⟩) n n (i64s (vTicks (vSus (vNew n 0) nd) k).op) :: Blk b_m [.int .i64 m.1, .int .i64 m.2.1] 31 :: R) w ∧ k ≤ T) (fun k => T - k) 0 ((hf.keep hk0).kb hf 40 rfl (by first | rfl | exact int_eq (by omega))) ⟨hS.sub (by repeat (first | exact Sub.refl | exact Sub.none | exact Sub.behind | (apply Sub.cons; (focus ((repeat (first | exact Sel.head | apply Sel.tail)); done))) | apply Sub.skip)), by omega⟩ ?_
          clear hf hS; rintro k a w hf ⟨hS, hk⟩; (try dsimp only [List.cons_append, List.nil_append] at hf)
          refine c_seq ?_
          refine c_region ?_
          refine step_l (st_rdB hf (Wn.none rfl) (rd_lss hf rfl rfl rfl) hS rfl rfl ?_ ?_)
          · clear hf; intro hc4 a hf
            first
            | (first | exact Bool.noConfusion hc4 | exact absurd rfl hc4 | exact absurd (aged_start hnd.1 hnd.2 hnb.1).1 hc4 | exact absurd hc4 (aged_start hnd.1 hnd.2 hnb.1).2.1 | exact Bool.noConfusion (hq1.symm.trans hc4) | exact absurd hq3 hc4 | (rw [hst] at hc4; split at hc4 <;> omega) | (exfalso; apply hc4; rw [hst]; apply decide_eq_decide.2; split <;> omega); done)
            | (
              refine done_l ?_
              refine t_normal ?_
              refine c_seq ?_
              refine c_true hf rfl ?_
              refine c_skip ?_
              refine t_normal ?_
              refine c_seq ?_
              refine c_block ?_
              refine c_region ?_
              refine step_l (st_rd hf (Wn.none rfl) (rd_move hf rfl rfl) hS rfl rfl ?_)
              clear hf; intro a hf
              refine step_l (st_call hf (Wn.none rfl) rfl rfl rfl fn16 (VTick_c _ _ _ _ _ _ (hS.sels (.cons (by repeat (first | exact Sel.head | apply Sel.tail)) (.cons (by repeat (first | exact Sel.head | apply Sel.tail)) (.cons (by repeat (first | exact Sel.head | apply Sel.tail)) (.cons (by repeat (first | exact Sel.head | apply Sel.tail)) .nil))))) (aged_ticks hnd.1 hnd.2 hnb.1 k).ok) rfl rfl ?_)
              clear hf hS; rintro v a w ⟨rfl, hS⟩ hf
              refine done_l ?_
              refine b_normal ?_
              refine t_normal ?_
              refine c_region ?_
              refine step_l (st_rd hf (Wn.none rfl) (rd_add hf rfl rfl rfl (by first | exact Go.IntWalk.i64_in _ (by omega) | exact rfl)) hS rfl rfl ?_)
              clear hf; intro a hf
              refine step_l (st_rd hf (Wn.none rfl) (rd_move hf rfl rfl) hS rfl rfl ?_)
              clear hf; intro a hf
              refine done_l ?_
              refine t_normal ⟨k + 1, ((hf.back (by repeat (first | exact Behind.refl | refine Behind.skip rfl ?_)) hk0).kb hf 40 rfl (by first | rfl | exact int_eq (by omega))), ⟨hS.sub (by repeat (first | exact Sub.refl | exact Sub.none | exact Sub.behind | (apply Sub.cons; (focus ((repeat (first | exact Sel.head | apply Sel.tail)); done))) | apply Sub.skip)), by omega⟩, by first | omega | (simp only []; omega)⟩
              )
          · clear hf; intro hc4 a hf
            obtain rfl : T = k := by omega
            first
            | (first | exact Bool.noConfusion hc4 | exact absurd rfl hc4 | exact absurd (aged_start hnd.1 hnd.2 hnb.1).1 hc4 | exact absurd hc4 (aged_start hnd.1 hnd.2 hnb.1).2.1 | exact Bool.noConfusion (hq1.symm.trans hc4) | exact absurd hq3 hc4 | (rw [hst] at hc4; split at hc4 <;> omega) | (exfalso; apply hc4; rw [hst]; apply decide_eq_decide.2; split <;> omega); done)
            | (
              refine done_l ?_
              refine t_normal ?_
              refine c_seq ?_
              refine c_false hf rfl ?_
              refine c_exit ?_
              refine t_exit ?_
              refine t_exit ?_
              refine b_exit ?_
              refine t_normal ?_
              refine c_seq ?_
              refine c_seq ?_
              refine c_region ?_
              refine step_l (st_rd hf (Wn.none rfl) (rd_move hf rfl rfl) hS rfl rfl ?_)
              clear hf; intro a hf
              refine step_l (st_rd hf (Wn.none rfl) (rd_move hf rfl rfl) hS rfl rfl ?_)
              clear hf; intro a hf
              refine step_l (st_call hf (Wn.none rfl) rfl rfl rfl fn17 (VState_c _ _ _ _ _ _ _ (hS.sels (.cons (by repeat (first | exact Sel.head | apply Sel.tail)) (.cons (by repeat (first | exact Sel.head | apply Sel.tail)) (.cons (by repeat (first | exact Sel.head | apply Sel.tail)) (.cons (by repeat (first | exact Sel.head | apply Sel.tail)) .nil))))) (by first | exact (aged_ticks hnd.1 hnd.2 hnb.1 T).ok | exact vJoin_ok (aged_ticks hnd.1 hnd.2 hnb.1 T).ok)) rfl rfl ?_)
              clear hf hS; rintro v a w ⟨rfl, hS⟩ hf
              refine step_l (st_rd hf (Wn.none rfl) (rd_eql hf rfl rfl rfl) hS rfl rfl ?_)
              clear hf; intro a hf
              refine step_l (st_rd hf (Wn.none rfl) (rd_move hf rfl rfl) hS rfl rfl ?_)
              clear hf; intro a hf
              refine step_l (st_rd hf (Wn.none rfl) (rd_geq hf rfl rfl rfl) hS rfl rfl ?_)
              clear hf; intro a hf
              refine step_l (st_rdB hf (Wn.none rfl) (rd_neqBool hf rfl rfl rfl Try.underlying4) hS rfl rfl ?_ ?_)
              · clear hf; intro hc5 a hf
                first
                | (first | exact Bool.noConfusion hc5 | exact absurd rfl hc5 | exact absurd (aged_start hnd.1 hnd.2 hnb.1).1 hc5 | exact absurd hc5 (aged_start hnd.1 hnd.2 hnb.1).2.1 | exact Bool.noConfusion (hq1.symm.trans hc5) | exact absurd hq3 hc5 | (rw [hst] at hc5; split at hc5 <;> omega) | (exfalso; apply hc5; rw [hst]; apply decide_eq_decide.2; split <;> omega); done)
                | (
                  refine step_l (st_rd hf (Wn.none rfl) (rd_move hf rfl rfl) hS rfl rfl ?_)
                  clear hf; intro a hf
                  refine step_l (st_skip hf (Wn.some hf rfl rfl rfl rfl) rfl rfl ?_)
                  clear hf; intro a hf
                  refine step_l (st_skip hf (Wn.some hf rfl rfl rfl rfl) rfl rfl ?_)
                  clear hf; intro a hf
                  refine step_l (st_skip hf (Wn.some hf rfl rfl rfl rfl) rfl rfl ?_)
                  clear hf; intro a hf
                  refine step_l (st_skip hf (Wn.some hf rfl rfl rfl rfl) rfl rfl ?_)
                  clear hf; intro a hf
                  refine step_l (st_rd hf (Wn.none rfl) (rd_pick_t hf rfl rfl rfl) hS rfl rfl ?_)
                  clear hf; intro a hf
                  refine done_l ?_
                  refine t_normal ?_
                  refine c_true hf rfl ?_
                  refine c_seq ?_
                  refine c_region ?_
                  refine step_l (st_rd hf (Wn.none rfl) (rd_assign hf rfl rfl) hS rfl rfl ?_)
                  clear hf; intro a hf
                  refine done_l ?_
                  refine t_normal ?_
                  refine c_ret ?_
                  refine t_ret ?_
                  refine e_res1 hf.defers rfl (res_tmp hf rfl .nil) ?_
                  exact ⟨rfl, hS.sub (by repeat (first | exact Sub.refl | exact Sub.none | exact Sub.behind | (apply Sub.cons; (focus ((repeat (first | exact Sel.head | apply Sel.tail)); done))) | apply Sub.skip))⟩
                  )
              · clear hf; intro hc5 a hf
                first
                | (first | exact Bool.noConfusion hc5 | exact absurd rfl hc5 | exact absurd (aged_start hnd.1 hnd.2 hnb.1).1 hc5 | exact absurd hc5 (aged_start hnd.1 hnd.2 hnb.1).2.1 | exact Bool.noConfusion (hq1.symm.trans hc5) | exact absurd hq3 hc5 | (rw [hst] at hc5; split at hc5 <;> omega) | (exfalso; apply hc5; rw [hst]; apply decide_eq_decide.2; split <;> omega); done)
                | (
                  refine step_l (st_rd hf (Wn.none rfl) (rd_move hf rfl rfl) hS rfl rfl ?_)
                  clear hf; intro a hf
                  refine step_l (st_rd hf (Wn.some hf rfl rfl rfl rfl) (rd_move hf rfl rfl) hS rfl rfl ?_)
                  clear hf; intro a hf
                  refine step_l (st_rd hf (Wn.some hf rfl rfl rfl rfl) (rd_move hf rfl rfl) hS rfl rfl ?_)
                  clear hf; intro a hf
                  refine step_l (st_call hf (Wn.some hf rfl rfl rfl rfl) rfl rfl rfl fn17 (VState_c _ _ _ _ _ _ _ (hS.sels (.cons (by repeat (first | exact Sel.head | apply Sel.tail)) (.cons (by repeat (first | exact Sel.head | apply Sel.tail)) (.cons (by repeat (first | exact Sel.head | apply Sel.tail)) (.cons (by repeat (first | exact Sel.head | apply Sel.tail)) .nil))))) (by first | exact (aged_ticks hnd.1 hnd.2 hnb.1 T).ok | exact vJoin_ok (aged_ticks hnd.1 hnd.2 hnb.1 T).ok)) rfl rfl ?_)
                  clear hf hS; rintro v a w ⟨rfl, hS⟩ hf
                  refine step_l (st_rdB hf (Wn.some hf rfl rfl rfl rfl) (rd_eql hf rfl rfl rfl) hS rfl rfl ?_ ?_)
                  · clear hf; intro hc6 a hf
                    first
                    | (first | exact Bool.noConfusion hc6 | exact absurd rfl hc6 | exact absurd (aged_start hnd.1 hnd.2 hnb.1).1 hc6 | exact absurd hc6 (aged_start hnd.1 hnd.2 hnb.1).2.1 | exact Bool.noConfusion (hq1.symm.trans hc6) | exact absurd hq3 hc6 | (rw [hst] at hc6; split at hc6 <;> omega) | (exfalso; apply hc6; rw [hst]; apply decide_eq_decide.2; split <;> omega); done)
                    | (
                      refine step_l (st_rd hf (Wn.none rfl) (rd_pick_f hf rfl rfl rfl) hS rfl rfl ?_)
                      clear hf; intro a hf
                      refine done_l ?_
                      refine t_normal ?_
                      refine c_true hf rfl ?_
                      refine c_seq ?_
                      refine c_region ?_
                      refine step_l (st_rd hf (Wn.none rfl) (rd_assign hf rfl rfl) hS rfl rfl ?_)
                      clear hf; intro a hf
                      refine done_l ?_
                      refine t_normal ?_
                      refine c_ret ?_
                      refine t_ret ?_
                      refine e_res1 hf.defers rfl (res_tmp hf rfl .nil) ?_
                      exact ⟨rfl, hS.sub (by repeat (first | exact Sub.refl | exact Sub.none | exact Sub.behind | (apply Sub.cons; (focus ((repeat (first | exact Sel.head | apply Sel.tail)); done))) | apply Sub.skip))⟩
                      )
                  · clear hf; intro hc6 a hf
                    first
                    | (first | exact Bool.noConfusion hc6 | exact absurd rfl hc6 | exact absurd (aged_start hnd.1 hnd.2 hnb.1).1 hc6 | exact absurd hc6 (aged_start hnd.1 hnd.2 hnb.1).2.1 | exact Bool.noConfusion (hq1.symm.trans hc6) | exact absurd hq3 hc6 | (rw [hst] at hc6; split at hc6 <;> omega) | (exfalso; apply hc6; rw [hst]; apply decide_eq_decide.2; split <;> omega); done)
                    | (
                      refine step_l (st_rd hf (Wn.none rfl) (rd_pick_f hf rfl rfl rfl) hS rfl rfl ?_)
                      clear hf; intro a hf
                      refine done_l ?_
                      refine t_normal ?_
                      refine c_false hf rfl ?_
                      refine c_skip ?_
                      refine t_normal ?_
                      refine c_seq ?_
                      obtain ⟨hq1, hq2, hq3⟩ := aged_join (aged_ticks hnd.1 hnd.2 hnb.1 T) hnd.1 hnd.2 (i := (1 + (((m.2.1 % 18446744073709551616).toNat % 1000 : Nat) : Int))) (by omega)
                      refine c_region ?_
                      refine step_l (st_rd hf (Wn.none rfl) (rd_move hf rfl rfl) hS rfl rfl ?_)
                      clear hf; intro a hf
                      refine step_l (st_make hf (Wn.none rfl) hS rfl rfl rfl Try.underlying34 tyb31 (by omega) (by simp only [maxLen]; omega) rfl rfl ?_)
                      clear hf hS; intro b_7 a w hf hS; replace hS := (hS.sel (by repeat (first | exact Sel.head | apply Sel.tail)) : Sat W (Rw 31 2 _ _ _ (madeCells (Value.agg (List.toArray [.int .i64 0, .int .i64 0])).cells (_ * 2)).toList :: _) _).rwCast (xs' := (List.replicate n mb0).flatMap memC) (made_mem _) rfl
                      refine step_l (st_rd hf (Wn.none rfl) (rd_assign hf rfl rfl) hS rfl rfl ?_)
                      clear hf; intro a hf
                      refine done_l ?_
                      refine t_normal ?_
                      refine c_seq ?_
                      refine c_region ?_
                      refine step_l (st_rd hf (Wn.none rfl) (rd_move hf rfl rfl) hS rfl rfl ?_)
                      clear hf; intro a hf
                      refine step_l (st_rd hf (Wn.none rfl) (rd_move hf rfl rfl) hS rfl rfl ?_)
                      clear hf; intro a hf
                      refine step_l (st_rd hf (Wn.none rfl) (rd_fieldAddrB hf rfl rfl fb31_1 rfl) hS rfl rfl ?_)
                      clear hf; intro a hf
                      refine step_l (st_rd hf (Wn.none rfl) (rd_load1 hf rfl rfl ag2 (by intro _ h; first | exact h.cell (by repeat (first | exact Sel.head | apply Sel.tail)) (by rfl))) hS rfl rfl ?_)
                      clear hf; intro a hf
                      refine step_l (st_rd hf (Wn.none rfl) (rd_convInt hf rfl rfl Try.underlying2 Try.underlying23 rfl) hS rfl rfl ?_)
                      clear hf; intro a hf
                      refine step_l (st_rd hf (Wn.none rfl) (rd_rem hf rfl rfl rfl (by first | decide | omega) (u64mod (m := 1000) m.2.1 (by decide))) hS rfl rfl ?_)
                      clear hf; intro a hf
                      refine step_l (st_rd hf (Wn.none rfl) (rd_convInt hf rfl rfl Try.underlying23 Try.underlying2 (Go.IntWalk.i64_in _ (by omega))) hS rfl rfl ?_)
                      clear hf; intro a hf
                      refine step_l (st_rd hf (Wn.none rfl) (rd_add hf rfl rfl rfl (Go.IntWalk.i64_in _ (by omega))) hS rfl rfl ?_)
                      clear hf; intro a hf
                      refine step_l (st_rd hf (Wn.none rfl) (rd_build hf rfl rfl zr31 (by rfl) pl31 (.cons rfl (by rfl) (by rfl) (by repeat (first | exact Put.nil | apply Put.cons | apply Put.succ)) .nil)) hS rfl rfl ?_)
                      clear hf; intro a hf
                      refine step_l (st_rd hf (Wn.none rfl) ((by first | exact rd_indexAddrN hf rfl rfl rfl Try.underlying34 sz31 (by omega) | exact rd_indexAddr hf rfl rfl rfl Try.underlying34 sz31 (by first | decide | omega) (by omega))) hS rfl rfl ?_)
                      clear hf; intro a hf
                      refine step_l (st_storeEl (m' := (0, (1 + (((m.2.1 % 18446744073709551616).toNat % 1000 : Nat) : Int)), ())) hf (Wn.none rfl) hS rfl rfl rfl (by rfl) sz31 (by rfl) (by rfl) (by repeat (first | exact Sel.head | apply Sel.tail)) memC_len (by first | exact add_mul_add _ _ _ _ | exact add_mul_zero _ _ _) (show (List.replicate n mb0)[nd]? = some mb0 from by rw [List.getElem?_replicate, if_pos hnd.2]) (by rfl) (by simp) rfl ?_)
                      clear hf hS; intro a w hf hS
                      refine done_l ?_
                      refine t_normal ?_
                      refine c_seq ?_
                      refine c_seq ?_
                      refine c_region ?_
                      refine step_l (st_rd hf (Wn.none rfl) (rd_move hf rfl rfl) hS rfl rfl ?_)
                      clear hf; intro a hf
                      refine step_l (st_rd hf (Wn.none rfl) (rd_move hf rfl rfl) hS rfl rfl ?_)
                      clear hf; intro a hf
                      refine step_l (st_call hf (Wn.none rfl) rfl rfl rfl fn18 (VJoin_c _ _ _ _ _ _ ((List.replicate n mb0).set nd (0, (1 + (((m.2.1 % 18446744073709551616).toNat % 1000 : Nat) : Int)), ())) _ _ _ (hS.sels (.cons (by repeat (first | exact Sel.head | apply Sel.tail)) (.cons (by repeat (first | exact Sel.head | apply Sel.tail)) (.cons (by repeat (first | exact Sel.head | apply Sel.tail)) (.cons (by repeat (first | exact Sel.head | apply Sel.tail)) .nil))))) (aged_ticks hnd.1 hnd.2 hnb.1 T).ok (by simp) (by simp; omega) (fun _ h => (by rw [List.length_set, List.length_replicate]; exact h.slOfRw (by repeat (first | exact Sel.head | apply Sel.tail))))) rfl rfl ?_)
                      clear hf hS; rintro v a w ⟨rfl, hS⟩ hf
                      first | refine split_dec (d := 72) hf rfl ?_ ?_ | refine split_bool (d := 72) hf rfl ?_ ?_
                      · clear hf; intro hc8 hf
                        first
                        | (first | exact Bool.noConfusion hc8 | exact absurd rfl hc8 | exact absurd (aged_start hnd.1 hnd.2 hnb.1).1 hc8 | exact absurd hc8 (aged_start hnd.1 hnd.2 hnb.1).2.1 | exact Bool.noConfusion (hq1.symm.trans hc8) | exact absurd hq3 hc8 | (rw [hst] at hc8; split at hc8 <;> omega) | (exfalso; apply hc8; rw [hst]; apply decide_eq_decide.2; split <;> omega); done)
                        | (
                          refine step_l (st_rd hf (Wn.none rfl) (rd_not hf rfl rfl) hS rfl rfl ?_)
                          clear hf; intro a hf
                          refine step_l (st_rd hf (Wn.none rfl) (rd_move hf rfl rfl) hS rfl rfl ?_)
                          clear hf; intro a hf
                          refine step_l (st_rd hf (Wn.some hf rfl rfl rfl rfl) (rd_move hf rfl rfl) hS rfl rfl ?_)
                          clear hf; intro a hf
                          refine step_l (st_rd hf (Wn.some hf rfl rfl rfl rfl) (rd_move hf rfl rfl) hS rfl rfl ?_)
                          clear hf; intro a hf
                          refine step_l (st_call hf (Wn.some hf rfl rfl rfl rfl) rfl rfl rfl fn17 (VState_c _ _ _ _ _ _ _ (hS.sels (.cons (by repeat (first | exact Sel.head | apply Sel.tail)) (.cons (by repeat (first | exact Sel.head | apply Sel.tail)) (.cons (by repeat (first | exact Sel.head | apply Sel.tail)) (.cons (by repeat (first | exact Sel.head | apply Sel.tail)) .nil))))) (by first | exact (aged_ticks hnd.1 hnd.2 hnb.1 T).ok | exact vJoin_ok (aged_ticks hnd.1 hnd.2 hnb.1 T).ok)) rfl rfl ?_)
                          clear hf hS; rintro v a w ⟨rfl, hS⟩ hf
                          refine step_l (st_rdB hf (Wn.some hf rfl rfl rfl rfl) (rd_neq hf rfl rfl rfl) hS rfl rfl ?_ ?_)
                          · clear hf; intro hc9 a hf
                            first
                            | (first | exact Bool.noConfusion hc9 | exact absurd rfl hc9 | exact absurd (aged_start hnd.1 hnd.2 hnb.1).1 hc9 | exact absurd hc9 (aged_start hnd.1 hnd.2 hnb.1).2.1 | exact Bool.noConfusion (hq1.symm.trans hc9) | exact absurd hq3 hc9 | (rw [hst] at hc9; split at hc9 <;> omega) | (exfalso; apply hc9; rw [hst]; apply decide_eq_decide.2; split <;> omega); done)
                            | (
                              refine step_l (st_rd hf (Wn.none rfl) (rd_pick_f hf rfl rfl rfl) hS rfl rfl ?_)
                              clear hf; intro a hf
                              refine done_l ?_
                              refine t_normal ?_
                              refine c_true hf rfl ?_
                              refine c_seq ?_
                              refine c_region ?_
                              refine step_l (st_rd hf (Wn.none rfl) (rd_assign hf rfl rfl) hS rfl rfl ?_)
                              clear hf; intro a hf
                              refine done_l ?_
                              refine t_normal ?_
                              refine c_ret ?_
                              refine t_ret ?_
                              refine e_res1 hf.defers rfl (res_tmp hf rfl .nil) ?_
                              exact ⟨rfl, hS.sub (by repeat (first | exact Sub.refl | exact Sub.none | exact Sub.behind | (apply Sub.cons; (focus ((repeat (first | exact Sel.head | apply Sel.tail)); done))) | apply Sub.skip))⟩
                              )
                          · clear hf; intro hc9 a hf
                            first
                            | (first | exact Bool.noConfusion hc9 | exact absurd rfl hc9 | exact absurd (aged_start hnd.1 hnd.2 hnb.1).1 hc9 | exact absurd hc9 (aged_start hnd.1 hnd.2 hnb.1).2.1 | exact Bool.noConfusion (hq1.symm.trans hc9) | exact absurd hq3 hc9 | (rw [hst] at hc9; split at hc9 <;> omega) | (exfalso; apply hc9; rw [hst]; apply decide_eq_decide.2; split <;> omega); done)
                            | (
                              refine step_l (st_rd hf (Wn.none rfl) (rd_pick_f hf rfl rfl rfl) hS rfl rfl ?_)
                              clear hf; intro a hf
                              refine done_l ?_
                              refine t_normal ?_
                              refine c_false hf rfl ?_
                              refine c_skip ?_
                              refine t_normal ?_
                              refine c_seq ?_
                              refine c_seq ?_
                              refine c_region ?_
                              refine step_l (st_rd hf (Wn.none rfl) (rd_move hf rfl rfl) hS rfl rfl ?_)
                              clear hf; intro a hf
                              refine done_l ?_
                              refine t_normal ?_
                              refine c_block ?_
                              have hk1 := Keep.of hf [(8, 8), (80, 85)] (by repeat (first | exact Keep.nil | apply Keep.drop rfl | apply Keep.take rfl))
                              refine c_loopK hk1 (α := Nat) (fun k => [(80, .int .i64 (k : Nat))]) (fun k w => Sat W (Blk pv [.int .i64 ((vJoin (vTicks (vSus (vNew n 0) nd) T) ((List.replicate n mb0).set nd (0, (1 + (((m.2.1 % 18446744073709551616).toNat % 1000 : Nat) : Int)), ()))).2.me : Nat), .slice (some ⟨b1, 0, none⟩) n n, .slice (some ⟨b2, 0, none⟩) n n, .slice (some ⟨b3, 0, none⟩) n n] 53 :: Rw 31 2 (some ⟨b1, 0, none⟩) n n ((vJoin (vTicks (vSus (vNew n 0) nd) T) ((List.replicate n mb0).set nd (0, (1 + (((m.2.1 % 18446744073709551616).toNat % 1000 : Nat) : Int)), ()))).2.l.flatMap memC) :: Rw 3 1 (some ⟨b2, 0, none⟩) n n (i64s (vJoin (vTicks (vSus (vNew n 0) nd) T) ((List.replicate n mb0).set nd (0, (1 + (((m.2.1 % 18446744073709551616).toNat % 1000 : Nat) : Int)), ()))).2.ag) :: Rw 3 1 (some ⟨b3, 0, none⟩) n n (i64s (vJoin (vTicks (vSus (vNew n 0) nd) T) ((List.replicate n mb0).set nd (0, (1 + (((m.2.1 % 18446744073709551616).toNat % 1000 : Nat) : Int)), ()))).2.op) :: R) w ∧ k ≤ 20) (fun k => 20 - k) 0 ((hf.keep hk1).kb hf 80 rfl (by first | rfl | exact int_eq (by omega))) ⟨hS.sub (by repeat (first | exact Sub.refl | exact Sub.none | exact Sub.behind | (apply Sub.cons; (focus ((repeat (first | exact Sel.head | apply Sel.tail)); done))) | apply Sub.skip)), by omega⟩ ?_
                              clear hf hS; rintro k a w hf ⟨hS, hk⟩; (try dsimp only [List.cons_append, List.nil_append] at hf)
                              refine c_seq ?_
                              refine c_region ?_
                              refine step_l (st_rdB hf (Wn.none rfl) (rd_lss hf rfl rfl rfl) hS rfl rfl ?_ ?_)
                              · clear hf; intro hc10 a hf
                                first
                                | (first | exact Bool.noConfusion hc10 | exact absurd rfl hc10 | exact absurd (aged_start hnd.1 hnd.2 hnb.1).1 hc10 | exact absurd hc10 (aged_start hnd.1 hnd.2 hnb.1).2.1 | exact Bool.noConfusion (hq1.symm.trans hc10) | exact absurd hq3 hc10 | (rw [hst] at hc10; split at hc10 <;> omega) | (exfalso; apply hc10; rw [hst]; apply decide_eq_decide.2; split <;> omega); done)
                                | (
                                  refine done_l ?_
                                  refine t_normal ?_
                                  refine c_seq ?_
                                  refine c_true hf rfl ?_
                                  refine c_skip ?_
                                  refine t_normal ?_
                                  refine c_seq ?_
                                  refine c_block ?_
                                  refine c_seq ?_
                                  refine c_region ?_
                                  refine step_l (st_rd hf (Wn.none rfl) (rd_move hf rfl rfl) hS rfl rfl ?_)
                                  clear hf; intro a hf
                                  refine step_l (st_call hf (Wn.none rfl) rfl rfl rfl fn16 (VTick_c _ _ _ _ _ _ (hS.sels (.cons (by repeat (first | exact Sel.head | apply Sel.tail)) (.cons (by repeat (first | exact Sel.head | apply Sel.tail)) (.cons (by repeat (first | exact Sel.head | apply Sel.tail)) (.cons (by repeat (first | exact Sel.head | apply Sel.tail)) .nil))))) (vJoin_ok (aged_ticks hnd.1 hnd.2 hnb.1 T).ok)) rfl rfl ?_)
                                  clear hf hS; rintro v a w ⟨hvr, hS⟩ hf; rw [vTick_quiet hq2] at hvr hS; subst hvr
                                  refine step_l (st_rdB hf (Wn.none rfl) (rd_neq hf rfl rfl rfl) hS rfl rfl ?_ ?_)
                                  · clear hf; intro hc11 a hf
                                    first
                                    | (first | exact Bool.noConfusion hc11 | exact absurd rfl hc11 | exact absurd (aged_start hnd.1 hnd.2 hnb.1).1 hc11 | exact absurd hc11 (aged_start hnd.1 hnd.2 hnb.1).2.1 | exact Bool.noConfusion (hq1.symm.trans hc11) | exact absurd hq3 hc11 | (rw [hst] at hc11; split at hc11 <;> omega) | (exfalso; apply hc11; rw [hst]; apply decide_eq_decide.2; split <;> omega); done)
                                    | (
                                      refine done_l ?_
                                      refine t_normal ?_
                                      refine c_true hf rfl ?_
                                      refine c_seq ?_
                                      refine c_region ?_
                                      refine step_l (st_rd hf (Wn.none rfl) (rd_assign hf rfl rfl) hS rfl rfl ?_)
                                      clear hf; intro a hf
                                      refine done_l ?_
                                      refine t_normal ?_
                                      refine c_ret ?_
                                      refine b_ret ?_
                                      refine t_ret ?_
                                      refine t_ret ?_
                                      refine b_ret ?_
                                      refine t_ret ?_
                                      refine e_res1 hf.defers rfl (res_tmp hf rfl .nil) ?_
                                      exact ⟨rfl, hS.sub (by repeat (first | exact Sub.refl | exact Sub.none | exact Sub.behind | (apply Sub.cons; (focus ((repeat (first | exact Sel.head | apply Sel.tail)); done))) | apply Sub.skip))⟩
                                      )
                                  · clear hf; intro hc11 a hf
                                    first
                                    | (first | exact Bool.noConfusion hc11 | exact absurd rfl hc11 | exact absurd (aged_start hnd.1 hnd.2 hnb.1).1 hc11 | exact absurd hc11 (aged_start hnd.1 hnd.2 hnb.1).2.1 | exact Bool.noConfusion (hq1.symm.trans hc11) | exact absurd hq3 hc11 | (rw [hst] at hc11; split at hc11 <;> omega) | (exfalso; apply hc11; rw [hst]; apply decide_eq_decide.2; split <;> omega); done)
                                    | (
                                      refine done_l ?_
                                      refine t_normal ?_
                                      refine c_false hf rfl ?_
                                      refine c_skip ?_
                                      refine b_normal ?_
                                      refine t_normal ?_
                                      refine c_region ?_
                                      refine step_l (st_rd hf (Wn.none rfl) (rd_add hf rfl rfl rfl (by first | exact Go.IntWalk.i64_in _ (by omega) | exact rfl)) hS rfl rfl ?_)
                                      clear hf; intro a hf
                                      refine step_l (st_rd hf (Wn.none rfl) (rd_move hf rfl rfl) hS rfl rfl ?_)
                                      clear hf; intro a hf
                                      refine done_l ?_
                                      refine t_normal ⟨k + 1, ((hf.back (by repeat (first | exact Behind.refl | refine Behind.skip rfl ?_)) hk1).kb hf 80 rfl (by first | rfl | exact int_eq (by omega))), ⟨hS.sub (by repeat (first | exact Sub.refl | exact Sub.none | exact Sub.behind | (apply Sub.cons; (focus ((repeat (first | exact Sel.head | apply Sel.tail)); done))) | apply Sub.skip)), by omega⟩, by first | omega | (simp only []; omega)⟩
                                      )
                                  )
                              · clear hf; intro hc10 a hf
                                first
                                | (first | exact Bool.noConfusion hc10 | exact absurd rfl hc10 | exact absurd (aged_start hnd.1 hnd.2 hnb.1).1 hc10 | exact absurd hc10 (aged_start hnd.1 hnd.2 hnb.1).2.1 | exact Bool.noConfusion (hq1.symm.trans hc10) | exact absurd hq3 hc10 | (rw [hst] at hc10; split at hc10 <;> omega) | (exfalso; apply hc10; rw [hst]; apply decide_eq_decide.2; split <;> omega); done)
                                | (
                                  refine done_l ?_
                                  refine t_normal ?_
                                  refine c_seq ?_
                                  refine c_false hf rfl ?_
                                  refine c_exit ?_
                                  refine t_exit ?_
                                  refine t_exit ?_
                                  refine b_exit ?_
                                  refine t_normal ?_
                                  refine c_seq ?_
                                  refine c_region ?_
                                  refine step_l (st_rd hf (Wn.none rfl) (rd_move hf rfl rfl) hS rfl rfl ?_)
                                  clear hf; intro a hf
                                  refine step_l (st_rd hf (Wn.none rfl) (rd_move hf rfl rfl) hS rfl rfl ?_)
                                  clear hf; intro a hf
                                  refine step_l (st_call hf (Wn.none rfl) rfl rfl rfl fn17 (VState_c _ _ _ _ _ _ _ (hS.sels (.cons (by repeat (first | exact Sel.head | apply Sel.tail)) (.cons (by repeat (first | exact Sel.head | apply Sel.tail)) (.cons (by repeat (first | exact Sel.head | apply Sel.tail)) (.cons (by repeat (first | exact Sel.head | apply Sel.tail)) .nil))))) (by first | exact (aged_ticks hnd.1 hnd.2 hnb.1 T).ok | exact vJoin_ok (aged_ticks hnd.1 hnd.2 hnb.1 T).ok)) rfl rfl ?_)
                                  clear hf hS; rintro v a w ⟨rfl, hS⟩ hf
                                  refine step_l (st_rdB hf (Wn.none rfl) (rd_eql hf rfl rfl rfl) hS rfl rfl ?_ ?_)
                                  · clear hf; intro hc12 a hf
                                    first
                                    | (first | exact Bool.noConfusion hc12 | exact absurd rfl hc12 | exact absurd (aged_start hnd.1 hnd.2 hnb.1).1 hc12 | exact absurd hc12 (aged_start hnd.1 hnd.2 hnb.1).2.1 | exact Bool.noConfusion (hq1.symm.trans hc12) | exact absurd hq3 hc12 | (rw [hst] at hc12; split at hc12 <;> omega) | (exfalso; apply hc12; rw [hst]; apply decide_eq_decide.2; split <;> omega); done)
                                    | (
                                      refine step_l (st_rd hf (Wn.none rfl) (rd_move hf rfl rfl) hS rfl rfl ?_)
                                      clear hf; intro a hf
                                      refine step_l (st_call hf (Wn.some hf rfl rfl rfl rfl) rfl rfl rfl fn14 (awake_c hS) rfl rfl ?_)
                                      clear hf hS; rintro v a w ⟨rfl, hS⟩ hf
                                      refine step_l (st_rd hf (Wn.none rfl) (rd_pick_t hf rfl rfl rfl) hS rfl rfl ?_)
                                      clear hf; intro a hf
                                      refine step_l (st_rd hf (Wn.none rfl) (rd_assign hf rfl rfl) hS rfl rfl ?_)
                                      clear hf; intro a hf
                                      refine done_l ?_
                                      refine t_normal ?_
                                      refine c_ret ?_
                                      refine e_res1 hf.defers rfl (res_tmp hf rfl .nil) ?_
                                      exact ⟨rfl, hS.sub (by repeat (first | exact Sub.refl | exact Sub.none | exact Sub.behind | (apply Sub.cons; (focus ((repeat (first | exact Sel.head | apply Sel.tail)); done))) | apply Sub.skip))⟩
                                      )
                                  · clear hf; intro hc12 a hf
                                    first
                                    | (first | exact Bool.noConfusion hc12 | exact absurd rfl hc12 | exact absurd (aged_start hnd.1 hnd.2 hnb.1).1 hc12 | exact absurd hc12 (aged_start hnd.1 hnd.2 hnb.1).2.1 | exact Bool.noConfusion (hq1.symm.trans hc12) | exact absurd hq3 hc12 | (rw [hst] at hc12; split at hc12 <;> omega) | (exfalso; apply hc12; rw [hst]; apply decide_eq_decide.2; split <;> omega); done)
                                    | (
                                      refine step_l (st_rd hf (Wn.none rfl) (rd_move hf rfl rfl) hS rfl rfl ?_)
                                      clear hf; intro a hf
                                      refine step_l (st_skip hf (Wn.some hf rfl rfl rfl rfl) rfl rfl ?_)
                                      clear hf; intro a hf
                                      refine step_l (st_rd hf (Wn.none rfl) (rd_pick_f hf rfl rfl rfl) hS rfl rfl ?_)
                                      clear hf; intro a hf
                                      refine step_l (st_rd hf (Wn.none rfl) (rd_assign hf rfl rfl) hS rfl rfl ?_)
                                      clear hf; intro a hf
                                      refine done_l ?_
                                      refine t_normal ?_
                                      refine c_ret ?_
                                      refine e_res1 hf.defers rfl (res_tmp hf rfl .nil) ?_
                                      exact ⟨rfl, hS.sub (by repeat (first | exact Sub.refl | exact Sub.none | exact Sub.behind | (apply Sub.cons; (focus ((repeat (first | exact Sel.head | apply Sel.tail)); done))) | apply Sub.skip))⟩
                                      )
                                  )
                              )
                          )
                      · clear hf; intro hc8 hf
                        first
                        | (first | exact Bool.noConfusion hc8 | exact absurd rfl hc8 | exact absurd (aged_start hnd.1 hnd.2 hnb.1).1 hc8 | exact absurd hc8 (aged_start hnd.1 hnd.2 hnb.1).2.1 | exact Bool.noConfusion (hq1.symm.trans hc8) | exact absurd hq3 hc8 | (rw [hst] at hc8; split at hc8 <;> omega) | (exfalso; apply hc8; rw [hst]; apply decide_eq_decide.2; split <;> omega); done)
                        | (
                          refine step_l (st_rd hf (Wn.none rfl) (rd_not hf rfl rfl) hS rfl rfl ?_)
                          clear hf; intro a hf
                          refine step_l (st_rd hf (Wn.none rfl) (rd_move hf rfl rfl) hS rfl rfl ?_)
                          clear hf; intro a hf
                          refine step_l (st_skip hf (Wn.some hf rfl rfl rfl rfl) rfl rfl ?_)
                          clear hf; intro a hf
                          refine step_l (st_skip hf (Wn.some hf rfl rfl rfl rfl) rfl rfl ?_)
                          clear hf; intro a hf
                          refine step_l (st_skip hf (Wn.some hf rfl rfl rfl rfl) rfl rfl ?_)
                          clear hf; intro a hf
                          refine step_l (st_skip hf (Wn.some hf rfl rfl rfl rfl) rfl rfl ?_)
                          clear hf; intro a hf
                          refine step_l (st_rd hf (Wn.none rfl) (rd_pick_t hf rfl rfl rfl) hS rfl rfl ?_)
                          clear hf; intro a hf
                          refine done_l ?_
                          refine t_normal ?_
                          refine c_true hf rfl ?_
                          refine c_seq ?_
                          refine c_region ?_
                          refine step_l (st_rd hf (Wn.none rfl) (rd_assign hf rfl rfl) hS rfl rfl ?_)
                          clear hf; intro a hf
                          refine done_l ?_
                          refine t_normal ?_
                          refine c_ret ?_
                          refine t_ret ?_
                          refine e_res1 hf.defers rfl (res_tmp hf rfl .nil) ?_
                          exact ⟨rfl, hS.sub (by repeat (first | exact Sub.refl | exact Sub.none | exact Sub.behind | (apply Sub.cons; (focus ((repeat (first | exact Sel.head | apply Sel.tail)); done))) | apply Sub.skip))⟩
                          )
                      )
                  )
              )
          )
      )
  · clear hf; intro hc2 hf
    first
    | (first | exact Bool.noConfusion hc2 | exact absurd rfl hc2 | exact absurd (aged_start hnd.1 hnd.2 hnb.1).1 hc2 | exact absurd hc2 (aged_start hnd.1 hnd.2 hnb.1).2.1 | exact Bool.noConfusion (hq1.symm.trans hc2) | exact absurd hq3 hc2 | (rw [hst] at hc2; split at hc2 <;> omega) | (exfalso; apply hc2; rw [hst]; apply decide_eq_decide.2; split <;> omega); done)
    | (
      refine step_l (st_rd hf (Wn.none rfl) (rd_not hf rfl rfl) hS rfl rfl ?_)
      clear hf; intro a hf
      refine step_l (st_rd hf (Wn.none rfl) (rd_move hf rfl rfl) hS rfl rfl ?_)
      clear hf; intro a hf
      refine step_l (st_skip hf (Wn.some hf rfl rfl rfl rfl) rfl rfl ?_)
      clear hf; intro a hf
      refine step_l (st_skip hf (Wn.some hf rfl rfl rfl rfl) rfl rfl ?_)
      clear hf; intro a hf
      refine step_l (st_skip hf (Wn.some hf rfl rfl rfl rfl) rfl rfl ?_)
      clear hf; intro a hf
      refine step_l (st_rd hf (Wn.none rfl) (rd_pick_t hf rfl rfl rfl) hS rfl rfl ?_)
      clear hf; intro a hf
      refine done_l ?_
      refine t_normal ?_
      refine c_true hf rfl ?_
      refine c_seq ?_
      refine c_region ?_
      refine step_l (st_rd hf (Wn.none rfl) (rd_assign hf rfl rfl) hS rfl rfl ?_)
      clear hf; intro a hf
      refine done_l ?_
      refine t_normal ?_
      refine c_ret ?_
      refine t_ret ?_
      refine e_res1 hf.defers rfl (res_tmp hf rfl .nil) ?_
      exact ⟨rfl, hS.sub (by repeat (first | exact Sub.refl | exact Sub.none | exact Sub.behind | (apply Sub.cons; (focus ((repeat (first | exact Sel.head | apply Sel.tail)); done))) | apply Sub.skip))⟩
      )

end Go.Proofs.Ytjcjkbfhmbfkaaa
