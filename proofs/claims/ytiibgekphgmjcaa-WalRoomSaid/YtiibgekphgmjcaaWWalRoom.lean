/-
  The statement WalRoom, walked.
  Conditions: none.
-/
import Derived.Test.YtiibgekphgmjcaaWlaw1
namespace Go.Proofs.Ytiibgekphgmjcaa
open Go Go.Sl
set_option linter.unusedVariables false
set_option linter.unusedSimpArgs false
theorem fn12 : fnB Try.prog 12 = true := by kernel_rfl
theorem fn13 : fnB Try.prog 13 = true := by kernel_rfl
theorem fn17 : fnB Try.prog 17 = true := by kernel_rfl
theorem fn22 : fnB Try.prog 22 = true := by kernel_rfl
theorem fn23 : fnB Try.prog 23 = true := by kernel_rfl
theorem fn25 : fnB Try.prog 25 = true := by kernel_rfl
theorem fn27 : fnB Try.prog 27 = true := by kernel_rfl
set_option maxRecDepth 100000 in
set_option maxHeartbeats 2000000 in
theorem WalRoom_c (l : List (Sli UInt8)) (ql : Option Addr) (cl : Nat) (most0 : Int) {W : World} {R : List HP} {w : World} (hS : Sat W (R) w) (hl9 : l.length ≤ 140737488351232) (hv : ∀ w, Sat W R w → BB w ql l) : Calls Try.prog 6 [.slice ql l.length cl, .int .i64 most0].toArray w (Ret fun v w' => v = .bool true ∧ Sat W R w') := by
  refine fn_start 78 Try.func6 rfl rfl rfl ?_
  intro a hf
  refine c_seq ?_
  refine c_region ?_
  refine step_l (st_rd hf (Wn.none rfl) (rd_assign hf rfl rfl) hS rfl rfl ?_)
  clear hf; intro a hf
  refine done_l ?_
  refine t_normal ?_
  refine c_seq ?_
  refine c_region ?_
  refine step_l (st_rd hf (Wn.none rfl) (rd_move hf rfl rfl) hS rfl rfl ?_)
  clear hf; intro a hf
  refine step_l (st_rd hf (Wn.none rfl) (rd_convInt hf rfl rfl Try.underlying3 Try.underlying40 rfl) hS rfl rfl ?_)
  clear hf; intro a hf
  refine step_l (st_rd hf (Wn.none rfl) (rd_rem hf rfl rfl rfl (by first | decide | omega) (u64mod (m := 2000) most0 (by decide))) hS rfl rfl ?_)
  clear hf; intro a hf
  refine step_l (st_rd hf (Wn.none rfl) (rd_convInt hf rfl rfl Try.underlying40 Try.underlying3 (Go.IntWalk.i64_in _ (by omega))) hS rfl rfl ?_)
  clear hf; intro a hf
  refine step_l (st_rd hf (Wn.none rfl) (rd_assign hf rfl rfl) hS rfl rfl ?_)
  clear hf; intro a hf
  refine done_l ?_
  obtain ⟨m, hdm⟩ : ∃ m : Nat, m = (most0 % 18446744073709551616).toNat % 2000 := ⟨_, rfl⟩
  rw [← hdm] at hf; have hm2 : m < 2000 := by omega
  refine t_normal ?_
  refine c_seq ?_
  refine c_region ?_
  refine step_l (st_rd hf (Wn.none rfl) (rd_move hf rfl rfl) hS rfl rfl ?_)
  clear hf; intro a hf
  refine step_l (st_call hf (Wn.none rfl) rfl rfl rfl fn10 (DNew_c _ hS) rfl rfl ?_)
  clear hf hS; rintro v a w ⟨pd, rfl, hS⟩ hf; rw [show max 0 (min (((m : Nat) : Int) : Int) 1048576) = ((m : Nat) : Int) by omega] at hS
  refine step_l (st_rd hf (Wn.none rfl) (rd_assign hf rfl rfl) hS rfl rfl ?_)
  clear hf; intro a hf
  refine done_l ?_
  refine t_normal ?_
  refine c_seq ?_
  refine c_region ?_
  refine step_l (st_rd hf (Wn.none rfl) (rd_move hf rfl rfl) hS rfl rfl ?_)
  clear hf; intro a hf
  refine step_l (st_call hf (Wn.none rfl) rfl rfl rfl fn11 (OpenOk_c _ _ [] _ (hS.sel (by repeat (first | exact Sel.head | apply Sel.tail))) (by simp) (by rw [allB_nil])) rfl rfl ?_)
  clear hf hS; rintro v a w ⟨g1, q1, cap1, L1, h1, rfl, hS⟩ hf; rw [allB_nil] at h1; have hl1 : L1.length = 0 := byts_len_eq h1; rw [hl1] at hf hS; rw [wB_0, wS_0] at hS
  refine step_l (st_rd hf (Wn.none rfl) (rd_move hf rfl rfl) hS rfl rfl ?_)
  clear hf; intro a hf
  refine step_l (st_rd hf (Wn.none rfl) (rd_extract hf rfl rfl rfl) hS rfl rfl ?_)
  clear hf; intro a hf
  refine step_l (st_rd hf (Wn.none rfl) (rd_extract hf rfl rfl rfl) hS rfl rfl ?_)
  clear hf; intro a hf
  refine step_l (st_rd hf (Wn.none rfl) (rd_extract hf rfl rfl rfl) hS rfl rfl ?_)
  clear hf; intro a hf
  refine step_l (st_rd hf (Wn.none rfl) (rd_assign hf rfl rfl) hS rfl rfl ?_)
  clear hf; intro a hf
  refine step_l (st_rd hf (Wn.none rfl) (rd_assign hf rfl rfl) hS rfl rfl ?_)
  clear hf; intro a hf
  refine step_l (st_rd hf (Wn.none rfl) (rd_assign hf rfl rfl) hS rfl rfl ?_)
  clear hf; intro a hf
  refine done_l ?_
  refine t_normal ?_
  refine c_seq ?_
  refine c_seq ?_
  refine c_region ?_
  refine step_l (st_rd hf (Wn.none rfl) (rd_move hf rfl rfl) hS rfl rfl ?_)
  clear hf; intro a hf
  refine step_l (st_rdB hf (Wn.none rfl) (rd_neq hf rfl rfl rfl) hS rfl rfl ?_ ?_)
  · clear hf; intro hc1 a hf
    exact absurd rfl hc1
  · clear hf; intro hc1 a hf
    first
    | (first | exact Bool.noConfusion hc1 | exact absurd rfl hc1; done)
    | (
      refine step_l (st_rd hf (Wn.none rfl) (rd_move hf rfl rfl) hS rfl rfl ?_)
      clear hf; intro a hf
      refine step_l (st_rd hf (Wn.some hf rfl rfl rfl rfl) (rd_move hf rfl rfl) hS rfl rfl ?_)
      clear hf; intro a hf
      refine step_l (st_rdb hf (Wn.some hf rfl rfl rfl rfl) (rd_eqlNilP hf rfl rfl rfl Try.underlying26) hS rfl rfl ?_ ?_)
      · clear hf; intro hc2 a hf
        first
        | (first | exact Bool.noConfusion hc2 | exact absurd rfl hc2; done)
        | (
          refine step_l (st_rd hf (Wn.none rfl) (rd_pick_f hf rfl rfl rfl) hS rfl rfl ?_)
          clear hf; intro a hf
          refine done_l ?_
          refine t_normal ?_
          refine c_true hf rfl ?_
          refine c_seq ?_
          refine c_region ?_
          refine step_l (st_rd hf (Wn.none rfl) (rd_assign hf rfl rfl) hS rfl rfl ?_)
          clear hf; intro a hf
          refine done_l ?_
          refine t_normal ?_
          refine c_ret ?_
          refine t_ret ?_
          refine e_res1 hf.defers rfl (res_tmp hf rfl .nil) ?_
          exact ⟨rfl, hS.sub (by repeat (first | exact Sub.refl | exact Sub.none | exact Sub.behind | (apply Sub.cons; (focus ((repeat (first | exact Sel.head | apply Sel.tail)); done))) | apply Sub.skip))⟩
          )
      · clear hf; intro hc2 a hf
        first
        | (first | exact Bool.noConfusion hc2 | exact absurd rfl hc2; done)
        | (
          refine step_l (st_rd hf (Wn.none rfl) (rd_pick_f hf rfl rfl rfl) hS rfl rfl ?_)
          clear hf; intro a hf
          refine done_l ?_
          refine t_normal ?_
          refine c_false hf rfl ?_
          refine c_skip ?_
          refine t_normal ?_
          refine c_seq ?_
          refine c_seq ?_
          refine c_region ?_
          refine step_l (st_rd hf (Wn.none rfl) (rd_move hf rfl rfl) hS rfl rfl ?_)
          clear hf; intro a hf
          refine step_l (st_call hf (Wn.none rfl) rfl rfl rfl fn13 (small_c l _ _ _ hS rfl (by omega) (fun _ h => hv _ (h.sub (by repeat (first | exact Sub.refl | exact Sub.none | exact Sub.behind | (apply Sub.cons; (focus ((repeat (first | exact Sel.head | apply Sel.tail)); done))) | apply Sub.skip))))) rfl rfl ?_)
          clear hf hS; rintro v a w ⟨qs1, caps1, rfl, hS⟩ hf; obtain ⟨M, hMM⟩ : ∃ M, M = smallW l := ⟨_, rfl⟩; rw [← hMM] at hf hS; have hkM := SmW.of hMM; have hfaM := hkM.all; have hmlM := hkM.len
          refine step_l (st_rd hf (Wn.none rfl) (rd_len hf rfl rfl Try.underlying22) hS rfl rfl ?_)
          clear hf; intro a hf
          refine step_l (st_rd hf (Wn.none rfl) (rd_move hf rfl rfl) hS rfl rfl ?_)
          clear hf; intro a hf
          refine done_l ?_
          refine t_normal ?_
          refine c_block ?_
          have hk0 := Keep.of hf [(10, 10), (33, 40)] (by repeat (first | exact Keep.nil | apply Keep.drop rfl | apply Keep.take rfl))
          refine c_loopK hk0 (α := Nat × List UInt8 × Nat × Nat) (fun ⟨k, b, n, s⟩ => [(33, .int .i64 (k : Nat))]) (fun ⟨k, b, n, s⟩ w => Sat W (Rw 23 1 qs1 M.length caps1 (M.map sval) :: Blk g1 [.pointer (some ⟨pd, 0, none⟩), .int .i64 (n : Nat)] 59 :: DkP 5 56 pd (m : Int) b s :: R) w ∧ k ≤ M.length ∧ b.length ≤ m ∧ n ≤ k) (fun ⟨k, b, n, s⟩ => M.length - k) (0, [], 0, 0) ((hf.keep hk0).kb hf 33 rfl (by first | rfl | exact int_eq (by omega))) ⟨hS.sub (by repeat (first | exact Sub.refl | exact Sub.none | exact Sub.behind | (apply Sub.cons; (focus ((repeat (first | exact Sel.head | apply Sel.tail)); done))) | apply Sub.skip)), ⟨by omega, by simp, by omega⟩⟩ ?_
          clear hf hS; rintro ⟨k, b, n, s⟩ a w hf ⟨hS, ⟨hk, hbm, hnk⟩⟩; (try dsimp only [List.cons_append, List.nil_append] at hf)
          refine c_seq ?_
          refine c_region ?_
          refine step_l (st_rdB hf (Wn.none rfl) (rd_lss hf rfl rfl rfl) hS rfl rfl ?_ ?_)
          · clear hf; intro hc3 a hf
            obtain ⟨x, hget⟩ := get_of_lt (l := M) (k := k) (by omega) rfl; obtain ⟨ad, rfl⟩ := (hS.slOfRw (xs := M.map sval) (by repeat (first | exact Sel.head | apply Sel.tail))).some (by omega); have hx5 := hkM.row x (List.mem_of_getElem? hget); have hfr := hkM.fr k; have hfr2 := hkM.fr (k + 1)
            first
            | (first | exact Bool.noConfusion hc3 | exact absurd rfl hc3; done)
            | (
              refine done_l ?_
              refine t_normal ?_
              refine c_seq ?_
              refine c_true hf rfl ?_
              refine c_skip ?_
              refine t_normal ?_
              refine c_seq ?_
              refine c_block ?_
              refine c_seq ?_
              refine c_region ?_
              refine step_l (st_rd hf (Wn.none rfl) ((by first | exact rd_indexAddrN1 hf rfl rfl rfl Try.underlying22 sz23 (by omega) | exact rd_indexAddr hf rfl rfl rfl Try.underlying22 sz23 (by first | decide | omega) (by omega))) hS rfl rfl ?_)
              clear hf; intro a hf
              refine step_l (st_rd hf (Wn.none rfl) (rd_load1 hf rfl rfl ag23 (by intro _ h; exact (h.slOfRw (xs := M.map sval) (by repeat (first | exact Sel.head | apply Sel.tail))).get (u := sval x) (by simp [hget]))) hS rfl rfl ?_)
              clear hf; intro a hf
              refine step_l (st_rd hf (Wn.none rfl) (rd_assign hf rfl rfl) hS rfl rfl ?_)
              clear hf; intro a hf
              refine done_l ?_
              refine t_normal ?_
              refine c_region ?_
              refine step_l (st_rd hf (Wn.none rfl) (rd_move hf rfl rfl) hS rfl rfl ?_)
              clear hf; intro a hf
              refine step_l (st_rd hf (Wn.none rfl) (rd_move hf rfl rfl) hS rfl rfl ?_)
              clear hf; intro a hf
              refine step_l (st_call hf (Wn.none rfl) rfl rfl rfl fn14 (WAppend_c _ _ _ _ _ _ x.2.2 _ _ _ (hS.sels (.cons (by repeat (first | exact Sel.head | apply Sel.tail)) (.cons (by repeat (first | exact Sel.head | apply Sel.tail)) .nil))) (by omega) (by omega) (by omega) rfl (fun _ h => (hv _ (h.sub (by repeat (first | exact Sub.refl | exact Sub.none | exact Sub.behind | (apply Sub.cons; (focus ((repeat (first | exact Sel.head | apply Sel.tail)); done))) | apply Sub.skip)))).row x (hkM.sub x (List.mem_of_getElem? hget)))) rfl rfl ?_)
              clear hf hS; rintro v a w ⟨rfl, hS⟩ hf
              refine done_l ?_
              refine b_normal ?_
              refine t_normal ?_
              refine c_region ?_
              refine step_l (st_rd hf (Wn.none rfl) (rd_add hf rfl rfl rfl (by first | exact Go.IntWalk.i64_in _ (by omega) | exact rfl)) hS rfl rfl ?_)
              clear hf; intro a hf
              refine step_l (st_rd hf (Wn.none rfl) (rd_move hf rfl rfl) hS rfl rfl ?_)
              clear hf; intro a hf
              refine done_l ?_
              refine t_normal ⟨(k + 1, aB m b x.2.2, aN m b x.2.2 n, aS m b x.2.2 s), ((hf.back (by repeat (first | exact Behind.refl | refine Behind.skip rfl ?_)) hk0).kb hf 33 rfl (by first | rfl | exact int_eq (by omega))), ⟨hS.sub (by repeat (first | exact Sub.refl | exact Sub.none | exact Sub.behind | (apply Sub.cons; (focus ((repeat (first | exact Sel.head | apply Sel.tail)); done))) | apply Sub.skip)), ⟨by omega, aB_le hbm, by have := aN_le (m := m) (b := b) (r := x.2.2) (n := n); omega⟩⟩, by first | omega | (simp only []; omega)⟩
              )
          · clear hf; intro hc3 a hf
            first
            | (first | exact Bool.noConfusion hc3 | exact absurd rfl hc3; done)
            | (
              refine done_l ?_
              refine t_normal ?_
              refine c_seq ?_
              refine c_false hf rfl ?_
              refine c_exit ?_
              refine t_exit ?_
              refine t_exit ?_
              refine b_exit ?_
              refine t_normal ?_
              refine c_seq ?_
              refine c_region ?_
              refine step_l (st_rd hf (Wn.none rfl) (rd_move hf rfl rfl) hS rfl rfl ?_)
              clear hf; intro a hf
              refine step_l (st_call hf (Wn.none rfl) rfl rfl rfl fn25 (WRoom_c _ _ _ _ _ _ (hS.sels (.cons (by repeat (first | exact Sel.head | apply Sel.tail)) (.cons (by repeat (first | exact Sel.head | apply Sel.tail)) .nil))) (by omega) (by omega)) rfl rfl ?_)
              clear hf hS; rintro v a w ⟨rfl, hS⟩ hf; obtain ⟨N, hN⟩ : ∃ N : Nat, (N : Int) = (max (-1) (min ((m : Int) - (b.length : Int) - 8) 60000)) + 1 := ⟨((max (-1) (min ((m : Int) - (b.length : Int) - 8) 60000)) + 1).toNat, (by omega)⟩
              refine step_l (st_rd hf (Wn.none rfl) (rd_assign hf rfl rfl) hS rfl rfl ?_)
              clear hf; intro a hf
              refine done_l ?_
              refine t_normal ?_
              refine c_seq ?_
              refine c_seq ?_
              refine c_region ?_
              refine step_l (st_rd hf (Wn.none rfl) (rd_move hf rfl rfl) hS rfl rfl ?_)
              clear hf; intro a hf
              refine step_l (st_rd hf (Wn.none rfl) (rd_move hf rfl rfl) hS rfl rfl ?_)
              clear hf; intro a hf
              refine step_l (st_rd hf (Wn.none rfl) (rd_add hf rfl rfl rfl ((Go.IntWalk.i64_in _ (by omega)).trans hN.symm)) hS rfl rfl ?_)
              clear hf; intro a hf
              refine step_l (st_make hf (Wn.none rfl) hS rfl rfl rfl Try.underlying23 tyb5 (by omega) (by simp only [maxLen]; omega) rfl rfl ?_)
              clear hf hS; intro b_4 a w hf hS; rw [made_bytes] at hS
              refine step_l (st_call hf (Wn.none rfl) rfl rfl rfl fn14 (WAppend_c _ _ _ _ _ _ (List.replicate N 0) _ _ _ (hS.sels (.cons (by repeat (first | exact Sel.head | apply Sel.tail)) (.cons (by repeat (first | exact Sel.head | apply Sel.tail)) .nil))) (by omega) (by omega) (by omega) List.length_replicate.symm (fun _ h => by rw [List.length_replicate]; exact h.slOfRw (by repeat (first | exact Sel.head | apply Sel.tail)))) rfl rfl ?_)
              clear hf hS; rintro v a w ⟨rfl, hS⟩ hf; have hrl : (List.replicate N (0 : UInt8)).length = N := List.length_replicate; have he : aE m b (List.replicate N 0) = 5 := a_full (by omega) (by omega); obtain ⟨e1, e2, e3⟩ := a_no (n := n) (s := s) he (by decide); rw [he] at hf; rw [e1, e2, e3] at hS
              refine step_l (st_rdB hf (Wn.none rfl) (rd_neq hf rfl rfl rfl) hS rfl rfl ?_ ?_)
              · clear hf; intro hc5 a hf
                exact absurd rfl hc5
              · clear hf; intro hc5 a hf
                first
                | (first | exact Bool.noConfusion hc5 | exact absurd rfl hc5; done)
                | (
                  refine done_l ?_
                  refine t_normal ?_
                  refine c_false hf rfl ?_
                  refine c_skip ?_
                  refine t_normal ?_
                  refine c_seq ?_
                  refine c_seq ?_
                  refine c_region ?_
                  refine step_l (st_rd hf (Wn.none rfl) (rd_move hf rfl rfl) hS rfl rfl ?_)
                  clear hf; intro a hf
                  refine step_l (st_rdB hf (Wn.none rfl) (rd_lss hf rfl rfl rfl) hS rfl rfl ?_ ?_)
                  · clear hf; intro hc6 a hf
                    first
                    | (first | exact Bool.noConfusion hc6 | exact absurd rfl hc6; done)
                    | (
                      refine done_l ?_
                      refine t_normal ?_
                      refine c_true hf rfl ?_
                      refine c_seq ?_
                      refine c_region ?_
                      refine step_l (st_rd hf (Wn.none rfl) (rd_move hf rfl rfl) hS rfl rfl ?_)
                      clear hf; intro a hf
                      refine step_l (st_rd hf (Wn.none rfl) (rd_move hf rfl rfl) hS rfl rfl ?_)
                      clear hf; intro a hf
                      refine step_l (st_call hf (Wn.none rfl) rfl rfl rfl fn23 (WSize_c _ _ _ _ _ _ (hS.sels (.cons (by repeat (first | exact Sel.head | apply Sel.tail)) (.cons (by repeat (first | exact Sel.head | apply Sel.tail)) .nil)))) rfl rfl ?_)
                      clear hf hS; rintro v a w ⟨rfl, hS⟩ hf
                      refine step_l (st_rd hf (Wn.none rfl) (rd_sub hf rfl rfl rfl (by first | exact Go.IntWalk.i64_in _ (by omega) | exact rfl)) hS rfl rfl ?_)
                      clear hf; intro a hf
                      refine step_l (st_rdB hf (Wn.none rfl) (rd_lss hf rfl rfl rfl) hS rfl rfl ?_ ?_)
                      · clear hf; intro hc7 a hf
                        first
                        | (first | exact Bool.noConfusion hc7 | exact absurd rfl hc7; done)
                        | (
                          refine step_l (st_rd hf (Wn.none rfl) (rd_move hf rfl rfl) hS rfl rfl ?_)
                          clear hf; intro a hf
                          refine step_l (st_call hf (Wn.some hf rfl rfl rfl rfl) rfl rfl rfl fn12 (awake_c hS) rfl rfl ?_)
                          clear hf hS; rintro v a w ⟨rfl, hS⟩ hf
                          refine step_l (st_rd hf (Wn.none rfl) (rd_pick_t hf rfl rfl rfl) hS rfl rfl ?_)
                          clear hf; intro a hf
                          refine step_l (st_rd hf (Wn.none rfl) (rd_assign hf rfl rfl) hS rfl rfl ?_)
                          clear hf; intro a hf
                          refine done_l ?_
                          refine t_normal ?_
                          refine c_ret ?_
                          refine t_ret ?_
                          refine e_res1 hf.defers rfl (res_tmp hf rfl .nil) ?_
                          exact ⟨rfl, hS.sub (by repeat (first | exact Sub.refl | exact Sub.none | exact Sub.behind | (apply Sub.cons; (focus ((repeat (first | exact Sel.head | apply Sel.tail)); done))) | apply Sub.skip))⟩
                          )
                      · clear hf; intro hc7 a hf
                        exact absurd (by omega) hc7
                      )
                  · clear hf; intro hc6 a hf
                    obtain ⟨Q, hQ⟩ : ∃ Q : Nat, (max (-1) (min ((m : Int) - (b.length : Int) - 8) 60000)) = (Q : Int) := ⟨((max (-1) (min ((m : Int) - (b.length : Int) - 8) 60000))).toNat, by omega⟩
                    rw [hQ] at hf
                    first
                    | (first | exact Bool.noConfusion hc6 | exact absurd rfl hc6; done)
                    | (
                      refine done_l ?_
                      refine t_normal ?_
                      refine c_false hf rfl ?_
                      refine c_skip ?_
                      refine t_normal ?_
                      refine c_seq ?_
                      refine c_region ?_
                      refine step_l (st_rd hf (Wn.none rfl) (rd_move hf rfl rfl) hS rfl rfl ?_)
                      clear hf; intro a hf
                      refine step_l (st_rd hf (Wn.none rfl) (rd_move hf rfl rfl) hS rfl rfl ?_)
                      clear hf; intro a hf
                      refine step_l (st_make hf (Wn.none rfl) hS rfl rfl rfl Try.underlying23 tyb5 (by omega) (by simp only [maxLen]; omega) rfl rfl ?_)
                      clear hf hS; intro b_8 a w hf hS; rw [made_bytes] at hS
                      refine step_l (st_call hf (Wn.none rfl) rfl rfl rfl fn14 (WAppend_c _ _ _ _ _ _ (List.replicate Q 0) _ _ _ (hS.sels (.cons (by repeat (first | exact Sel.head | apply Sel.tail)) (.cons (by repeat (first | exact Sel.head | apply Sel.tail)) .nil))) (by omega) (by omega) (by omega) List.length_replicate.symm (fun _ h => by rw [List.length_replicate]; exact h.slOfRw (by repeat (first | exact Sel.head | apply Sel.tail)))) rfl rfl ?_)
                      clear hf hS; rintro v a w ⟨rfl, hS⟩ hf; have hrq : (List.replicate Q (0 : UInt8)).length = Q := List.length_replicate; have he5 : aE m b (List.replicate Q 0) = 0 := a_fit (by omega) (by omega); obtain ⟨f1, f2, f3⟩ := a_yes (n := n) (s := s) he5; rw [he5] at hf; rw [f1, f2, f3] at hS; have hbf : (b ++ frB (List.replicate Q 0)).length = m := (by rw [List.length_append, frB_len]; omega)
                      refine step_l (st_rdB hf (Wn.none rfl) (rd_eql hf rfl rfl rfl) hS rfl rfl ?_ ?_)
                      · clear hf; intro hc9 a hf
                        first
                        | (first | exact Bool.noConfusion hc9 | exact absurd rfl hc9; done)
                        | (
                          refine step_l (st_rd hf (Wn.none rfl) (rd_move hf rfl rfl) hS rfl rfl ?_)
                          clear hf; intro a hf
                          refine step_l (st_rd hf (Wn.some hf rfl rfl rfl rfl) (rd_move hf rfl rfl) hS rfl rfl ?_)
                          clear hf; intro a hf
                          refine step_l (st_call hf (Wn.some hf rfl rfl rfl rfl) rfl rfl rfl fn26 (DSize_c _ _ _ _ (hS.sel (by repeat (first | exact Sel.head | apply Sel.tail)))) rfl rfl ?_)
                          clear hf hS; rintro v a w ⟨rfl, hS⟩ hf
                          refine step_l (st_rd hf (Wn.some hf rfl rfl rfl rfl) (rd_move hf rfl rfl) hS rfl rfl ?_)
                          clear hf; intro a hf
                          refine step_l (st_rdB hf (Wn.some hf rfl rfl rfl rfl) (rd_eql hf rfl rfl rfl) hS rfl rfl ?_ ?_)
                          · clear hf; intro hc10 a hf
                            first
                            | (first | exact Bool.noConfusion hc10 | exact absurd rfl hc10; done)
                            | (
                              refine step_l (st_rd hf (Wn.none rfl) (rd_pick_t hf rfl rfl rfl) hS rfl rfl ?_)
                              clear hf; intro a hf
                              refine step_l (st_rd hf (Wn.none rfl) (rd_move hf rfl rfl) hS rfl rfl ?_)
                              clear hf; intro a hf
                              refine step_l (st_rd hf (Wn.some hf rfl rfl rfl rfl) (rd_move hf rfl rfl) hS rfl rfl ?_)
                              clear hf; intro a hf
                              refine step_l (st_call hf (Wn.some hf rfl rfl rfl rfl) rfl rfl rfl fn25 (WRoom_c _ _ _ _ _ _ (hS.sels (.cons (by repeat (first | exact Sel.head | apply Sel.tail)) (.cons (by repeat (first | exact Sel.head | apply Sel.tail)) .nil))) (by omega) (by omega)) rfl rfl ?_)
                              clear hf hS; rintro v a w ⟨rfl, hS⟩ hf
                              refine step_l (st_rdB hf (Wn.some hf rfl rfl rfl rfl) (rd_eql hf rfl rfl rfl) hS rfl rfl ?_ ?_)
                              · clear hf; intro hc11 a hf
                                first
                                | (first | exact Bool.noConfusion hc11 | exact absurd rfl hc11; done)
                                | (
                                  refine step_l (st_rd hf (Wn.none rfl) (rd_pick_t hf rfl rfl rfl) hS rfl rfl ?_)
                                  clear hf; intro a hf
                                  refine step_l (st_rd hf (Wn.none rfl) (rd_move hf rfl rfl) hS rfl rfl ?_)
                                  clear hf; intro a hf
                                  refine step_l (st_call hf (Wn.some hf rfl rfl rfl rfl) rfl rfl rfl fn12 (awake_c hS) rfl rfl ?_)
                                  clear hf hS; rintro v a w ⟨rfl, hS⟩ hf
                                  refine step_l (st_rd hf (Wn.none rfl) (rd_pick_t hf rfl rfl rfl) hS rfl rfl ?_)
                                  clear hf; intro a hf
                                  refine step_l (st_rd hf (Wn.none rfl) (rd_assign hf rfl rfl) hS rfl rfl ?_)
                                  clear hf; intro a hf
                                  refine done_l ?_
                                  refine t_normal ?_
                                  refine c_ret ?_
                                  refine e_res1 hf.defers rfl (res_tmp hf rfl .nil) ?_
                                  exact ⟨rfl, hS.sub (by repeat (first | exact Sub.refl | exact Sub.none | exact Sub.behind | (apply Sub.cons; (focus ((repeat (first | exact Sel.head | apply Sel.tail)); done))) | apply Sub.skip))⟩
                                  )
                              · clear hf; intro hc11 a hf
                                exact absurd (by rw [hbf]; omega) hc11
                              )
                          · clear hf; intro hc10 a hf
                            exact absurd (by rw [hbf]) hc10
                          )
                      · clear hf; intro hc9 a hf
                        exact absurd rfl hc9
                      )
                  )
              )
          )
      )

end Go.Proofs.Ytiibgekphgmjcaa
