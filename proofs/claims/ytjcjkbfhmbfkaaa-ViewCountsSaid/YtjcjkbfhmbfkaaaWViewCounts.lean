/-
  The statement ViewCounts, walked.
  Conditions: none.
-/
import Derived.Test.YtjcjkbfhmbfkaaaView3
namespace Go.Proofs.Ytjcjkbfhmbfkaaa
open Go Go.Sl
set_option linter.unusedVariables false
set_option linter.unusedSimpArgs false
theorem ag42 : aggO Try.prog 42 = some true := by kernel_rfl
theorem fn14 : fnB Try.prog 14 = true := by kernel_rfl
theorem fn19 : fnB Try.prog 19 = true := by kernel_rfl
theorem fn20 : fnB Try.prog 20 = true := by kernel_rfl
theorem fn21 : fnB Try.prog 21 = true := by kernel_rfl
theorem fn22 : fnB Try.prog 22 = true := by kernel_rfl
theorem fn24 : fnB Try.prog 24 = true := by kernel_rfl
theorem sz42 : (Try.prog.info? 42).map (·.size) = some 3 := by kernel_rfl
set_option maxRecDepth 100000 in
set_option maxHeartbeats 4000000 in
theorem ViewCounts_c (nodes : Int) (l : List Int) (ql : Option Addr) (capl : Nat) {W : World} {R : List HP} {w : World} (hS : Sat W (R) w) (hnl : l.length ≤ 9223372036854775807) (hvl : ∀ w, Sat W R w → SlAt w ql l.length 1 (l.flatMap fun n : Int => [.int .i64 n])) : Calls Try.prog 3 [.int .i64 nodes, .slice ql l.length capl].toArray w (Ret fun v w' => v = .bool true ∧ Sat W R w') := by
  refine fn_start 72 Try.func3 rfl rfl rfl ?_
  intro a hf
  refine c_seq ?_
  refine c_region ?_
  refine step_l (st_rd hf (Wn.none rfl) (rd_assign hf rfl rfl) hS rfl rfl ?_)
  clear hf; intro a hf
  refine done_l ?_
  refine t_normal ?_
  refine c_seq ?_
  refine c_region ?_
  refine step_l (st_rd hf (Wn.none rfl) (rd_move hf rfl rfl) hS rfl rfl ?_)
  clear hf; intro a hf
  refine step_l (st_rd hf (Wn.none rfl) (rd_convInt hf rfl rfl Try.underlying3 Try.underlying23 rfl) hS rfl rfl ?_)
  clear hf; intro a hf
  refine step_l (st_rd hf (Wn.none rfl) (rd_rem hf rfl rfl rfl (by first | decide | omega) (u64mod (m := 7) nodes (by decide))) hS rfl rfl ?_)
  clear hf; intro a hf
  refine step_l (st_rd hf (Wn.none rfl) (rd_convInt hf rfl rfl Try.underlying23 Try.underlying3 (Go.IntWalk.i64_in _ (by omega))) hS rfl rfl ?_)
  clear hf; intro a hf
  refine step_l (st_rd hf (Wn.none rfl) (rd_add hf rfl rfl rfl ((Go.IntWalk.i64_in _ (by omega)).trans (Int.natCast_add _ 2).symm)) hS rfl rfl ?_)
  clear hf; intro a hf
  refine step_l (st_rd hf (Wn.none rfl) (rd_assign hf rfl rfl) hS rfl rfl ?_)
  clear hf; intro a hf
  refine done_l ?_
  obtain ⟨n, hn⟩ : ∃ n : Nat, n = (nodes % 18446744073709551616).toNat % 7 + 2 := ⟨_, rfl⟩
  rw [← hn] at hf; have hnb : n ≤ 8 ∧ 2 ≤ n := by omega
  refine t_normal ?_
  refine c_seq ?_
  refine c_region ?_
  refine step_l (st_rd hf (Wn.none rfl) (rd_move hf rfl rfl) hS rfl rfl ?_)
  clear hf; intro a hf
  refine step_l (st_call hf (Wn.none rfl) rfl rfl rfl fn10 (VNew_c _ 0 n hS (by omega) (by omega)) rfl rfl ?_)
  clear hf hS; rintro v a w ⟨pv, b1, b2, b3, rfl, hS⟩ hf
  refine step_l (st_rd hf (Wn.none rfl) (rd_assign hf rfl rfl) hS rfl rfl ?_)
  clear hf; intro a hf
  refine done_l ?_
  refine t_normal ?_
  refine c_seq ?_
  refine c_region ?_
  refine step_l (st_rd hf (Wn.none rfl) (rd_move hf rfl rfl) hS rfl rfl ?_)
  clear hf; intro a hf
  refine step_l (st_make hf (Wn.none rfl) hS rfl rfl rfl Try.underlying22 tyb3 (by omega) (by simp only [maxLen]; omega) rfl rfl ?_)
  clear hf hS; intro b_1 a w hf hS; obtain ⟨bo, hbo⟩ : ∃ bo, bo = b_1 := ⟨_, rfl⟩; rw [← hbo] at hf hS; replace hS := hS.rwCast (xs' := i64s (vNew n 0).op) (made_i64 _) rfl
  refine step_l (st_rd hf (Wn.none rfl) (rd_assign hf rfl rfl) hS rfl rfl ?_)
  clear hf; intro a hf
  refine done_l ?_
  refine t_normal ?_
  refine c_seq ?_
  refine c_seq ?_
  refine c_region ?_
  refine step_l (st_rd hf (Wn.none rfl) (rd_move hf rfl rfl) hS rfl rfl ?_)
  clear hf; intro a hf
  refine step_l (st_rd hf (Wn.none rfl) (rd_len hf rfl rfl Try.underlying22) hS rfl rfl ?_)
  clear hf; intro a hf
  refine step_l (st_rd hf (Wn.none rfl) (rd_move hf rfl rfl) hS rfl rfl ?_)
  clear hf; intro a hf
  refine done_l ?_
  refine t_normal ?_
  refine c_block ?_
  have hk0 := Keep.of hf [(4, 4), (7, 10), (22, 70)] (by repeat (first | exact Keep.nil | apply Keep.drop rfl | apply Keep.take rfl))
  refine c_loopK hk0 (α := Nat × VS) (fun ⟨i, u⟩ => [(22, .int .i64 (i : Nat))]) (fun ⟨i, u⟩ w => Sat W (Blk pv [.int .i64 (u.me : Nat), .slice (some ⟨b1, 0, none⟩) n n, .slice (some ⟨b2, 0, none⟩) n n, .slice (some ⟨b3, 0, none⟩) n n] 53 :: Rw 31 2 (some ⟨b1, 0, none⟩) n n (u.l.flatMap memC) :: Rw 3 1 (some ⟨b2, 0, none⟩) n n (i64s u.ag) :: Rw 3 1 (some ⟨b3, 0, none⟩) n n (i64s u.op) :: Rw 3 1 (some ⟨bo, 0, none⟩) n n (i64s u.op) :: R) w ∧ i ≤ l.length ∧ VOk n u ∧ u.me = 0 ∧ u.op.getD 0 0 = 0) (fun ⟨i, u⟩ => l.length - i) (0, vNew n 0) ((hf.keep hk0).kb hf 22 rfl (by first | rfl | exact int_eq (by omega))) ⟨hS.sub (by repeat (first | exact Sub.refl | exact Sub.none | exact Sub.behind | (apply Sub.cons; (focus ((repeat (first | exact Sel.head | apply Sel.tail)); done))) | apply Sub.skip)), ⟨by omega, vNew_ok (by omega) hnb.1, rfl, by simp [vNew, List.getD_eq_getElem?_getD, List.getElem?_replicate]; split <;> rfl⟩⟩ ?_
  clear hf hS; rintro ⟨i, u⟩ a w hf ⟨hS, ⟨hi, hok, hme, h0⟩⟩; (try dsimp only [List.cons_append, List.nil_append] at hf)
  refine c_seq ?_
  refine c_region ?_
  refine step_l (st_rdB hf (Wn.none rfl) (rd_lss hf rfl rfl rfl) hS rfl rfl ?_ ?_)
  · clear hf; intro hc2 a hf
    obtain ⟨x, hget⟩ := get_of_lt (l := l) (k := i) (by omega) rfl; obtain ⟨adl, rfl⟩ := (hvl _ (hS.sub (by repeat (first | exact Sub.refl | exact Sub.none | exact Sub.behind | (apply Sub.cons; (focus ((repeat (first | exact Sel.head | apply Sel.tail)); done))) | apply Sub.skip)))).some (by omega)
    first
    | (first | exact Bool.noConfusion hc2 | exact absurd rfl hc2 | exact absurd hmi hc2; done)
    | (
      refine done_l ?_
      refine t_normal ?_
      refine c_seq ?_
      refine c_true hf rfl ?_
      refine c_skip ?_
      refine t_normal ?_
      refine c_seq ?_
      refine c_block ?_
      refine c_seq ?_
      refine c_region ?_
      refine step_l (st_rd hf (Wn.none rfl) (rd_move hf rfl rfl) hS rfl rfl ?_)
      clear hf; intro a hf
      refine step_l (st_rd hf (Wn.none rfl) ((by first | exact rd_indexAddrN1 hf rfl rfl rfl Try.underlying22 sz3 (by omega) | exact rd_indexAddr hf rfl rfl rfl Try.underlying22 sz3 (by first | decide | omega) (by omega))) hS rfl rfl ?_)
      clear hf; intro a hf
      refine step_l (st_rd hf (Wn.none rfl) (rd_load1 hf rfl rfl ag3 (by intro _ h; exact one_elem (hvl _ (h.sub (by repeat (first | exact Sub.refl | exact Sub.none | exact Sub.behind | (apply Sub.cons; (focus ((repeat (first | exact Sel.head | apply Sel.tail)); done))) | apply Sub.skip)))) hget)) hS rfl rfl ?_)
      clear hf; intro a hf
      refine step_l (st_rd hf (Wn.none rfl) (rd_assign hf rfl rfl) hS rfl rfl ?_)
      clear hf; intro a hf
      refine step_l (st_rd hf (Wn.none rfl) (rd_assign hf rfl rfl) hS rfl rfl ?_)
      clear hf; intro a hf
      refine done_l ?_
      refine t_normal ?_
      refine c_seq ?_
      refine c_seq ?_
      refine c_region ?_
      refine step_l (st_rd hf (Wn.none rfl) (rd_move hf rfl rfl) hS rfl rfl ?_)
      clear hf; intro a hf
      refine step_l (st_rdB hf (Wn.none rfl) (rd_geq hf rfl rfl rfl) hS rfl rfl ?_ ?_)
      · clear hf; intro hc3 a hf
        first
        | (first | exact Bool.noConfusion hc3 | exact absurd rfl hc3 | exact absurd hmi hc3; done)
        | (
          refine done_l ?_
          refine t_normal ?_
          refine c_true hf rfl ?_
          refine c_exit ?_
          refine t_exit ?_
          refine b_exit' (by decide) ?_
          refine t_exit ?_
          refine t_exit ?_
          refine b_exit ?_
          refine t_normal ?_
          refine c_seq ?_
          refine c_region ?_
          refine step_l (st_call hf (Wn.none rfl) rfl rfl rfl fn14 (awake_c hS) rfl rfl ?_)
          clear hf hS; rintro v a w ⟨rfl, hS⟩ hf
          refine step_l (st_rd hf (Wn.none rfl) (rd_assign hf rfl rfl) hS rfl rfl ?_)
          clear hf; intro a hf
          refine done_l ?_
          refine t_normal ?_
          refine c_ret ?_
          refine e_res1 hf.defers rfl (res_tmp hf rfl .nil) ?_
          exact ⟨rfl, hS.sub (by repeat (first | exact Sub.refl | exact Sub.none | exact Sub.behind | (apply Sub.cons; (focus ((repeat (first | exact Sel.head | apply Sel.tail)); done))) | apply Sub.skip))⟩
          )
      · clear hf; intro hc3 a hf
        first
        | (first | exact Bool.noConfusion hc3 | exact absurd rfl hc3 | exact absurd hmi hc3; done)
        | (
          refine done_l ?_
          refine t_normal ?_
          refine c_false hf rfl ?_
          refine c_skip ?_
          refine t_normal ?_
          refine c_seq ?_
          refine c_region ?_
          refine step_l (st_rd hf (Wn.none rfl) (rd_move hf rfl rfl) hS rfl rfl ?_)
          clear hf; intro a hf
          refine step_l (st_rd hf (Wn.none rfl) (rd_convInt hf rfl rfl Try.underlying3 Try.underlying23 rfl) hS rfl rfl ?_)
          clear hf; intro a hf
          refine step_l (st_rd hf (Wn.none rfl) (rd_move hf rfl rfl) hS rfl rfl ?_)
          clear hf; intro a hf
          refine step_l (st_rd hf (Wn.none rfl) (rd_mul hf rfl rfl rfl ((Go.IntWalk.i64_in _ (by omega)).trans (Int.natCast_mul 2 n).symm)) hS rfl rfl ?_)
          clear hf; intro a hf
          refine step_l (st_rd hf (Wn.none rfl) (rd_convInt hf rfl rfl Try.underlying3 Try.underlying23 (wrap64 (by omega))) hS rfl rfl ?_)
          clear hf; intro a hf
          refine step_l (st_rd hf (Wn.none rfl) (rd_rem hf rfl rfl rfl (by first | decide | omega) (u64mod x (by omega))) hS rfl rfl ?_)
          clear hf; intro a hf
          refine step_l (st_rd hf (Wn.none rfl) (rd_convInt hf rfl rfl Try.underlying23 Try.underlying3 (Go.IntWalk.i64_in _ (by have := Nat.mod_lt (x % 18446744073709551616).toNat (show 0 < 2 * n by omega); omega))) hS rfl rfl ?_)
          clear hf; intro a hf
          refine step_l (st_rd hf (Wn.none rfl) (rd_quo hf rfl rfl rfl (by first | decide | omega) (i64_quo2 (by have := Nat.mod_lt (x % 18446744073709551616).toNat (show 0 < 2 * n by omega); omega))) hS rfl rfl ?_)
          clear hf; intro a hf
          refine step_l (st_rd hf (Wn.none rfl) (rd_assign hf rfl rfl) hS rfl rfl ?_)
          clear hf; intro a hf
          refine done_l ?_
          obtain ⟨k, hkk⟩ : ∃ k : Nat, k = ((x % 18446744073709551616).toNat % (2 * n) / 2) := ⟨_, rfl⟩
          have hk : k < n := by have := Nat.mod_lt (x % 18446744073709551616).toNat (show 0 < 2 * n by omega); omega
          rw [← hkk] at hf; have hgo := go_get hok hk
          refine t_normal ?_
          refine c_seq ?_
          refine c_seq ?_
          refine c_region ?_
          refine step_l (st_rd hf (Wn.none rfl) (rd_move hf rfl rfl) hS rfl rfl ?_)
          clear hf; intro a hf
          refine step_l (st_rd hf (Wn.none rfl) (rd_rem hf rfl rfl rfl (by first | decide | omega) rfl) hS rfl rfl ?_)
          clear hf; intro a hf
          refine step_l (st_rdB hf (Wn.none rfl) (rd_eql hf rfl rfl rfl) hS rfl rfl ?_ ?_)
          · clear hf; intro hc4 a hf
            obtain ⟨he3, h03, hme3⟩ := cnt_ask hok hme h0 hk; have hok2 := vAsk_ok (k := (k : Int)) hok
            first
            | (first | exact Bool.noConfusion hc4 | exact absurd rfl hc4 | exact absurd hmi hc4; done)
            | (
              refine done_l ?_
              refine t_normal ?_
              refine c_true hf rfl ?_
              refine c_seq ?_
              refine c_region ?_
              refine step_l (st_rd hf (Wn.none rfl) (rd_move hf rfl rfl) hS rfl rfl ?_)
              clear hf; intro a hf
              refine step_l (st_rd hf (Wn.none rfl) (rd_move hf rfl rfl) hS rfl rfl ?_)
              clear hf; intro a hf
              refine step_l (st_call hf (Wn.none rfl) rfl rfl rfl fn11 (VAsked_c _ _ _ _ _ _ _ (hS.sels (.cons (by repeat (first | exact Sel.head | apply Sel.tail)) (.cons (by repeat (first | exact Sel.head | apply Sel.tail)) (.cons (by repeat (first | exact Sel.head | apply Sel.tail)) (.cons (by repeat (first | exact Sel.head | apply Sel.tail)) .nil))))) hok) rfl rfl ?_)
              clear hf hS; rintro v a w ⟨rfl, hS⟩ hf
              refine done_l ?_
              refine t_normal ?_
              refine c_region ?_
              refine step_l (st_rd hf (Wn.none rfl) (rd_move hf rfl rfl) hS rfl rfl ?_)
              clear hf; intro a hf
              refine step_l (st_rd hf (Wn.none rfl) (rd_move hf rfl rfl) hS rfl rfl ?_)
              clear hf; intro a hf
              refine step_l (st_rd hf (Wn.none rfl) ((by first | exact rd_indexAddrN1 hf rfl rfl rfl Try.underlying22 sz3 (by omega) | exact rd_indexAddr hf rfl rfl rfl Try.underlying22 sz3 (by first | decide | omega) (by omega))) hS rfl rfl ?_)
              clear hf; intro a hf
              refine step_l (st_rd hf (Wn.none rfl) (rd_load1 hf rfl rfl ag3 (by intro _ h; exact (h.slOfRw (by repeat (first | exact Sel.head | apply Sel.tail))).get (i64s_get hgo))) hS rfl rfl ?_)
              clear hf; intro a hf
              refine step_l (st_rd hf (Wn.none rfl) (rd_add hf rfl rfl rfl (show IntKind.i64.wrap (go u k + 1) = w1 (go u k) from rfl)) hS rfl rfl ?_)
              clear hf; intro a hf
              refine step_l (st_rd hf (Wn.none rfl) ((by first | exact rd_indexAddrN1 hf rfl rfl rfl Try.underlying22 sz3 (by omega) | exact rd_indexAddr hf rfl rfl rfl Try.underlying22 sz3 (by first | decide | omega) (by omega))) hS rfl rfl ?_)
              clear hf; intro a hf
              refine step_l (st_storeRw hf (Wn.none rfl) hS rfl rfl rfl (by rfl) sz3 (by rfl) (by repeat (first | exact Sel.head | apply Sel.tail)) (by omega) rfl ?_)
              clear hf hS; intro a w hf hS
              refine done_l ?_
              refine t_normal ?_
              refine c_seq ?_
              refine c_region ?_
              refine step_l (st_rd hf (Wn.none rfl) (rd_move hf rfl rfl) hS rfl rfl ?_)
              clear hf; intro a hf
              refine step_l (st_rd hf (Wn.none rfl) ((by first | exact rd_indexAddrN1 hf rfl rfl rfl Try.underlying22 sz3 (by omega) | exact rd_indexAddr hf rfl rfl rfl Try.underlying22 sz3 (by first | decide | omega) (by omega))) hS rfl rfl ?_)
              clear hf; intro a hf
              refine step_l (st_storeRw hf (Wn.none rfl) hS rfl rfl rfl (by rfl) sz3 (by rfl) (by repeat (first | exact Sel.head | apply Sel.tail)) (by omega) rfl ?_)
              clear hf hS; intro a w hf hS
              refine done_l ?_
              replace hS := (hS.sel (by repeat (first | exact Sel.head | apply Sel.tail)) : Sat W (Rw 3 1 (some ⟨bo, 0, none⟩) n n _ :: _) _).rwCast (xs' := i64s (vAsk u k).op) (by rw [← he3, i64s_set, i64s_set]; rfl) rfl
              refine t_normal ?_
              refine c_seq ?_
              refine c_region ?_
              refine step_l (st_rd hf (Wn.none rfl) (rd_move hf rfl rfl) hS rfl rfl ?_)
              clear hf; intro a hf
              refine step_l (st_rd hf (Wn.none rfl) (rd_move hf rfl rfl) hS rfl rfl ?_)
              clear hf; intro a hf
              refine done_l ?_
              refine t_normal ?_
              refine c_block ?_
              have hk1 := Keep.of hf [(4, 4), (10, 10), (58, 69)] (by repeat (first | exact Keep.nil | apply Keep.drop rfl | apply Keep.take rfl))
              refine c_loopK hk1 (α := Nat) (fun j => [(58, .int .i64 (j : Nat))]) (fun j w => Sat W (Blk pv [.int .i64 ((vAsk u k).me : Nat), .slice (some ⟨b1, 0, none⟩) n n, .slice (some ⟨b2, 0, none⟩) n n, .slice (some ⟨b3, 0, none⟩) n n] 53 :: Rw 31 2 (some ⟨b1, 0, none⟩) n n ((vAsk u k).l.flatMap memC) :: Rw 3 1 (some ⟨b2, 0, none⟩) n n (i64s (vAsk u k).ag) :: Rw 3 1 (some ⟨b3, 0, none⟩) n n (i64s (vAsk u k).op) :: Rw 3 1 (some ⟨bo, 0, none⟩) n n (i64s (vAsk u k).op) :: R) w ∧ j ≤ n) (fun j => n - j) 0 ((hf.keep hk1).kb hf 58 rfl (by first | rfl | exact int_eq (by omega))) ⟨hS.sub (by repeat (first | exact Sub.refl | exact Sub.none | exact Sub.behind | (apply Sub.cons; (focus ((repeat (first | exact Sel.head | apply Sel.tail)); done))) | apply Sub.skip)), by omega⟩ ?_
              clear hf hS; rintro j a w hf ⟨hS, hj⟩; (try dsimp only [List.cons_append, List.nil_append] at hf)
              refine c_seq ?_
              refine c_region ?_
              refine step_l (st_rdB hf (Wn.none rfl) (rd_lss hf rfl rfl rfl) hS rfl rfl ?_ ?_)
              · clear hf; intro hc5 a hf
                have hjn : j < n := by omega
                have hgj := go_get hok2 hjn; have hmi := miss_in hok2 hjn
                first
                | (first | exact Bool.noConfusion hc5 | exact absurd rfl hc5 | exact absurd hmi hc5; done)
                | (
                  refine done_l ?_
                  refine t_normal ?_
                  refine c_seq ?_
                  refine c_true hf rfl ?_
                  refine c_skip ?_
                  refine t_normal ?_
                  refine c_seq ?_
                  refine c_block ?_
                  refine c_seq ?_
                  refine c_region ?_
                  refine step_l (st_rd hf (Wn.none rfl) (rd_move hf rfl rfl) hS rfl rfl ?_)
                  clear hf; intro a hf
                  refine step_l (st_rd hf (Wn.none rfl) (rd_assign hf rfl rfl) hS rfl rfl ?_)
                  clear hf; intro a hf
                  refine done_l ?_
                  refine t_normal ?_
                  refine c_seq ?_
                  refine any_begin mixed hS.drew ?_
                  replace hS := hS.drew
                  have hT := hS
                  refine any_take (i := 0) hf rfl (by kernel_rfl) (by kernel_rfl) (by kernel_rfl) (fun _ _ _ h => h) (Wn.none rfl) (rd_move hf rfl rfl) hT rfl rfl ?_
                  clear hf; intro a hf
                  refine any_take (i := 1) hf rfl (by kernel_rfl) (by kernel_rfl) (by kernel_rfl) (fun _ _ _ h => h) (Wn.none rfl) (rd_move hf rfl rfl) hT rfl rfl ?_
                  clear hf; intro a hf
                  refine any_take (i := 3) hf rfl (by kernel_rfl) (by kernel_rfl) (by kernel_rfl) (fun _ _ _ h => h) (Wn.none rfl) (rd_move hf rfl rfl) hT rfl rfl ?_
                  clear hf; intro a hf
                  refine any_take (i := 4) hf rfl (by kernel_rfl) (by kernel_rfl) (by kernel_rfl) (fun _ _ _ h => h) (Wn.none rfl) (rd_move hf rfl rfl) hT rfl rfl ?_
                  clear hf; intro a hf
                  refine any_take (i := 5) hf rfl (by kernel_rfl) (by kernel_rfl) (by kernel_rfl) (fun _ _ _ h => h) (Wn.none rfl) ((by first | exact rd_indexAddrN1 hf rfl rfl rfl Try.underlying22 sz3 (by omega) | exact rd_indexAddr hf rfl rfl rfl Try.underlying22 sz3 (by first | decide | omega) (by omega))) hT rfl rfl ?_
                  clear hf; intro a hf
                  refine any_take (i := 6) hf rfl (by kernel_rfl) (by kernel_rfl) (by kernel_rfl) (fun _ _ _ h => h) (Wn.none rfl) (rd_load1 hf rfl rfl ag3 (by intro _ h; exact (h.slOfRw (by repeat (first | exact Sel.head | apply Sel.tail))).get (i64s_get hgj))) hT rfl rfl ?_
                  clear hf; intro a hf
                  refine any_one (i := 2) rfl (by kernel_rfl) (st_call hf (Wn.none rfl) rfl rfl rfl fn13 (VMissed_c _ _ _ _ _ _ _ (hS.sels (.cons (by repeat (first | exact Sel.head | apply Sel.tail)) (.cons (by repeat (first | exact Sel.head | apply Sel.tail)) (.cons (by repeat (first | exact Sel.head | apply Sel.tail)) (.cons (by repeat (first | exact Sel.head | apply Sel.tail)) .nil))))) hok2) rfl rfl ?_)
                  clear hf hS; rintro v a w ⟨rfl, hS⟩ hf
                  replace hT := hS.sub' hT (by repeat (first | exact Sub.refl | exact Sub.none | exact Sub.behind | (apply Sub.cons; (focus ((repeat (first | exact Sel.head | apply Sel.tail)); done))) | apply Sub.skip))
                  refine ⟨hT, ?_⟩
                  refine any_takeB (i := 7) hf rfl (by kernel_rfl) (by kernel_rfl) (by kernel_rfl) (fun _ _ _ _ h => h) (Wn.none rfl) (rd_neq hf rfl rfl rfl) hT rfl rfl ?_ ?_
                  · clear hf; intro hc6 a hf
                    first
                    | (first | exact Bool.noConfusion hc6 | exact absurd rfl hc6 | exact absurd hmi hc6; done)
                    | (
                      refine any_done (by kernel_rfl) ?_
                      refine t_normal ?_
                      refine c_true hf rfl ?_
                      refine c_seq ?_
                      refine c_region ?_
                      refine step_l (st_rd hf (Wn.none rfl) (rd_assign hf rfl rfl) hS rfl rfl ?_)
                      clear hf; intro a hf
                      refine done_l ?_
                      refine t_normal ?_
                      refine c_ret ?_
                      refine b_ret ?_
                      refine t_ret ?_
                      refine t_ret ?_
                      refine b_ret ?_
                      refine b_ret ?_
                      refine t_ret ?_
                      refine t_ret ?_
                      refine b_ret ?_
                      refine t_ret ?_
                      refine e_res1 hf.defers rfl (res_tmp hf rfl .nil) ?_
                      exact ⟨rfl, hS.sub (by repeat (first | exact Sub.refl | exact Sub.none | exact Sub.behind | (apply Sub.cons; (focus ((repeat (first | exact Sel.head | apply Sel.tail)); done))) | apply Sub.skip))⟩
                      )
                  · clear hf; intro hc6 a hf
                    first
                    | (first | exact Bool.noConfusion hc6 | exact absurd rfl hc6 | exact absurd hmi hc6; done)
                    | (
                      refine any_done (by kernel_rfl) ?_
                      refine t_normal ?_
                      refine c_false hf rfl ?_
                      refine c_skip ?_
                      refine b_normal ?_
                      refine t_normal ?_
                      refine c_region ?_
                      refine step_l (st_rd hf (Wn.none rfl) (rd_add hf rfl rfl rfl (by first | exact Go.IntWalk.i64_in _ (by omega) | exact rfl)) hS rfl rfl ?_)
                      clear hf; intro a hf
                      refine step_l (st_rd hf (Wn.none rfl) (rd_move hf rfl rfl) hS rfl rfl ?_)
                      clear hf; intro a hf
                      refine done_l ?_
                      refine t_normal ⟨j + 1, ((hf.back (by repeat (first | exact Behind.refl | refine Behind.skip rfl ?_)) hk1).kb hf 58 rfl (by first | rfl | exact int_eq (by omega))), ⟨hS.sub (by repeat (first | exact Sub.refl | exact Sub.none | exact Sub.behind | (apply Sub.cons; (focus ((repeat (first | exact Sel.head | apply Sel.tail)); done))) | apply Sub.skip)), by omega⟩, by first | omega | (simp only []; omega)⟩
                      )
                  )
              · clear hf; intro hc5 a hf
                first
                | (first | exact Bool.noConfusion hc5 | exact absurd rfl hc5 | exact absurd hmi hc5; done)
                | (
                  refine done_l ?_
                  refine t_normal ?_
                  refine c_seq ?_
                  refine c_false hf rfl ?_
                  refine c_exit ?_
                  refine t_exit ?_
                  refine t_exit ?_
                  refine b_exit ?_
                  refine b_normal ?_
                  refine t_normal ?_
                  refine c_region ?_
                  refine step_l (st_rd hf (Wn.none rfl) (rd_add hf rfl rfl rfl (by first | exact Go.IntWalk.i64_in _ (by omega) | exact rfl)) hS rfl rfl ?_)
                  clear hf; intro a hf
                  refine step_l (st_rd hf (Wn.none rfl) (rd_move hf rfl rfl) hS rfl rfl ?_)
                  clear hf; intro a hf
                  refine done_l ?_
                  refine t_normal ⟨(i + 1, vAsk u k), ((hf.back (by repeat (first | exact Behind.refl | refine Behind.skip rfl ?_)) hk0).kb hf 22 rfl (by first | rfl | exact int_eq (by omega))), ⟨hS.sub (by repeat (first | exact Sub.refl | exact Sub.none | exact Sub.behind | (apply Sub.cons; (focus ((repeat (first | exact Sel.head | apply Sel.tail)); done))) | apply Sub.skip)), ⟨by omega, hok2, hme3, h03⟩⟩, by first | omega | (simp only []; omega)⟩
                  )
              )
          · clear hf; intro hc4 a hf
            obtain ⟨he3, h03, hme3⟩ := cnt_hear hok hme h0 hk; have hok2 := vHear_ok (k := (k : Int)) hok
            first
            | (first | exact Bool.noConfusion hc4 | exact absurd rfl hc4 | exact absurd hmi hc4; done)
            | (
              refine done_l ?_
              refine t_normal ?_
              refine c_false hf rfl ?_
              refine c_seq ?_
              refine c_region ?_
              refine step_l (st_rd hf (Wn.none rfl) (rd_move hf rfl rfl) hS rfl rfl ?_)
              clear hf; intro a hf
              refine step_l (st_rd hf (Wn.none rfl) (rd_move hf rfl rfl) hS rfl rfl ?_)
              clear hf; intro a hf
              refine step_l (st_call hf (Wn.none rfl) rfl rfl rfl fn12 (VHeard_c _ _ _ _ _ _ _ (hS.sels (.cons (by repeat (first | exact Sel.head | apply Sel.tail)) (.cons (by repeat (first | exact Sel.head | apply Sel.tail)) (.cons (by repeat (first | exact Sel.head | apply Sel.tail)) (.cons (by repeat (first | exact Sel.head | apply Sel.tail)) .nil))))) hok) rfl rfl ?_)
              clear hf hS; rintro v a w ⟨rfl, hS⟩ hf
              refine done_l ?_
              refine t_normal ?_
              refine c_region ?_
              refine step_l (st_rd hf (Wn.none rfl) (rd_move hf rfl rfl) hS rfl rfl ?_)
              clear hf; intro a hf
              refine step_l (st_rd hf (Wn.none rfl) (rd_move hf rfl rfl) hS rfl rfl ?_)
              clear hf; intro a hf
              refine step_l (st_rd hf (Wn.none rfl) ((by first | exact rd_indexAddrN1 hf rfl rfl rfl Try.underlying22 sz3 (by omega) | exact rd_indexAddr hf rfl rfl rfl Try.underlying22 sz3 (by first | decide | omega) (by omega))) hS rfl rfl ?_)
              clear hf; intro a hf
              refine step_l (st_storeRw hf (Wn.none rfl) hS rfl rfl rfl (by rfl) sz3 (by rfl) (by repeat (first | exact Sel.head | apply Sel.tail)) (by omega) rfl ?_)
              clear hf hS; intro a w hf hS
              refine done_l ?_
              refine t_normal ?_
              refine c_seq ?_
              refine c_region ?_
              refine step_l (st_rd hf (Wn.none rfl) (rd_move hf rfl rfl) hS rfl rfl ?_)
              clear hf; intro a hf
              refine step_l (st_rd hf (Wn.none rfl) ((by first | exact rd_indexAddrN1 hf rfl rfl rfl Try.underlying22 sz3 (by omega) | exact rd_indexAddr hf rfl rfl rfl Try.underlying22 sz3 (by first | decide | omega) (by omega))) hS rfl rfl ?_)
              clear hf; intro a hf
              refine step_l (st_storeRw hf (Wn.none rfl) hS rfl rfl rfl (by rfl) sz3 (by rfl) (by repeat (first | exact Sel.head | apply Sel.tail)) (by omega) rfl ?_)
              clear hf hS; intro a w hf hS
              refine done_l ?_
              replace hS := (hS.sel (by repeat (first | exact Sel.head | apply Sel.tail)) : Sat W (Rw 3 1 (some ⟨bo, 0, none⟩) n n _ :: _) _).rwCast (xs' := i64s (vHear u k).op) (by rw [← he3, i64s_set, i64s_set]; rfl) rfl
              refine t_normal ?_
              refine c_seq ?_
              refine c_region ?_
              refine step_l (st_rd hf (Wn.none rfl) (rd_move hf rfl rfl) hS rfl rfl ?_)
              clear hf; intro a hf
              refine step_l (st_rd hf (Wn.none rfl) (rd_move hf rfl rfl) hS rfl rfl ?_)
              clear hf; intro a hf
              refine done_l ?_
              refine t_normal ?_
              refine c_block ?_
              have hk2 := Keep.of hf [(4, 4), (10, 10), (58, 69)] (by repeat (first | exact Keep.nil | apply Keep.drop rfl | apply Keep.take rfl))
              refine c_loopK hk2 (α := Nat) (fun j => [(58, .int .i64 (j : Nat))]) (fun j w => Sat W (Blk pv [.int .i64 ((vHear u k).me : Nat), .slice (some ⟨b1, 0, none⟩) n n, .slice (some ⟨b2, 0, none⟩) n n, .slice (some ⟨b3, 0, none⟩) n n] 53 :: Rw 31 2 (some ⟨b1, 0, none⟩) n n ((vHear u k).l.flatMap memC) :: Rw 3 1 (some ⟨b2, 0, none⟩) n n (i64s (vHear u k).ag) :: Rw 3 1 (some ⟨b3, 0, none⟩) n n (i64s (vHear u k).op) :: Rw 3 1 (some ⟨bo, 0, none⟩) n n (i64s (vHear u k).op) :: R) w ∧ j ≤ n) (fun j => n - j) 0 ((hf.keep hk2).kb hf 58 rfl (by first | rfl | exact int_eq (by omega))) ⟨hS.sub (by repeat (first | exact Sub.refl | exact Sub.none | exact Sub.behind | (apply Sub.cons; (focus ((repeat (first | exact Sel.head | apply Sel.tail)); done))) | apply Sub.skip)), by omega⟩ ?_
              clear hf hS; rintro j a w hf ⟨hS, hj⟩; (try dsimp only [List.cons_append, List.nil_append] at hf)
              refine c_seq ?_
              refine c_region ?_
              refine step_l (st_rdB hf (Wn.none rfl) (rd_lss hf rfl rfl rfl) hS rfl rfl ?_ ?_)
              · clear hf; intro hc7 a hf
                have hjn : j < n := by omega
                have hgj := go_get hok2 hjn; have hmi := miss_in hok2 hjn
                first
                | (first | exact Bool.noConfusion hc7 | exact absurd rfl hc7 | exact absurd hmi hc7; done)
                | (
                  refine done_l ?_
                  refine t_normal ?_
                  refine c_seq ?_
                  refine c_true hf rfl ?_
                  refine c_skip ?_
                  refine t_normal ?_
                  refine c_seq ?_
                  refine c_block ?_
                  refine c_seq ?_
                  refine c_region ?_
                  refine step_l (st_rd hf (Wn.none rfl) (rd_move hf rfl rfl) hS rfl rfl ?_)
                  clear hf; intro a hf
                  refine step_l (st_rd hf (Wn.none rfl) (rd_assign hf rfl rfl) hS rfl rfl ?_)
                  clear hf; intro a hf
                  refine done_l ?_
                  refine t_normal ?_
                  refine c_seq ?_
                  refine any_begin mixed hS.drew ?_
                  replace hS := hS.drew
                  have hT := hS
                  refine any_take (i := 0) hf rfl (by kernel_rfl) (by kernel_rfl) (by kernel_rfl) (fun _ _ _ h => h) (Wn.none rfl) (rd_move hf rfl rfl) hT rfl rfl ?_
                  clear hf; intro a hf
                  refine any_take (i := 1) hf rfl (by kernel_rfl) (by kernel_rfl) (by kernel_rfl) (fun _ _ _ h => h) (Wn.none rfl) (rd_move hf rfl rfl) hT rfl rfl ?_
                  clear hf; intro a hf
                  refine any_take (i := 3) hf rfl (by kernel_rfl) (by kernel_rfl) (by kernel_rfl) (fun _ _ _ h => h) (Wn.none rfl) (rd_move hf rfl rfl) hT rfl rfl ?_
                  clear hf; intro a hf
                  refine any_take (i := 4) hf rfl (by kernel_rfl) (by kernel_rfl) (by kernel_rfl) (fun _ _ _ h => h) (Wn.none rfl) (rd_move hf rfl rfl) hT rfl rfl ?_
                  clear hf; intro a hf
                  refine any_take (i := 5) hf rfl (by kernel_rfl) (by kernel_rfl) (by kernel_rfl) (fun _ _ _ h => h) (Wn.none rfl) ((by first | exact rd_indexAddrN1 hf rfl rfl rfl Try.underlying22 sz3 (by omega) | exact rd_indexAddr hf rfl rfl rfl Try.underlying22 sz3 (by first | decide | omega) (by omega))) hT rfl rfl ?_
                  clear hf; intro a hf
                  refine any_take (i := 6) hf rfl (by kernel_rfl) (by kernel_rfl) (by kernel_rfl) (fun _ _ _ h => h) (Wn.none rfl) (rd_load1 hf rfl rfl ag3 (by intro _ h; exact (h.slOfRw (by repeat (first | exact Sel.head | apply Sel.tail))).get (i64s_get hgj))) hT rfl rfl ?_
                  clear hf; intro a hf
                  refine any_one (i := 2) rfl (by kernel_rfl) (st_call hf (Wn.none rfl) rfl rfl rfl fn13 (VMissed_c _ _ _ _ _ _ _ (hS.sels (.cons (by repeat (first | exact Sel.head | apply Sel.tail)) (.cons (by repeat (first | exact Sel.head | apply Sel.tail)) (.cons (by repeat (first | exact Sel.head | apply Sel.tail)) (.cons (by repeat (first | exact Sel.head | apply Sel.tail)) .nil))))) hok2) rfl rfl ?_)
                  clear hf hS; rintro v a w ⟨rfl, hS⟩ hf
                  replace hT := hS.sub' hT (by repeat (first | exact Sub.refl | exact Sub.none | exact Sub.behind | (apply Sub.cons; (focus ((repeat (first | exact Sel.head | apply Sel.tail)); done))) | apply Sub.skip))
                  refine ⟨hT, ?_⟩
                  refine any_takeB (i := 7) hf rfl (by kernel_rfl) (by kernel_rfl) (by kernel_rfl) (fun _ _ _ _ h => h) (Wn.none rfl) (rd_neq hf rfl rfl rfl) hT rfl rfl ?_ ?_
                  · clear hf; intro hc8 a hf
                    first
                    | (first | exact Bool.noConfusion hc8 | exact absurd rfl hc8 | exact absurd hmi hc8; done)
                    | (
                      refine any_done (by kernel_rfl) ?_
                      refine t_normal ?_
                      refine c_true hf rfl ?_
                      refine c_seq ?_
                      refine c_region ?_
                      refine step_l (st_rd hf (Wn.none rfl) (rd_assign hf rfl rfl) hS rfl rfl ?_)
                      clear hf; intro a hf
                      refine done_l ?_
                      refine t_normal ?_
                      refine c_ret ?_
                      refine b_ret ?_
                      refine t_ret ?_
                      refine t_ret ?_
                      refine b_ret ?_
                      refine b_ret ?_
                      refine t_ret ?_
                      refine t_ret ?_
                      refine b_ret ?_
                      refine t_ret ?_
                      refine e_res1 hf.defers rfl (res_tmp hf rfl .nil) ?_
                      exact ⟨rfl, hS.sub (by repeat (first | exact Sub.refl | exact Sub.none | exact Sub.behind | (apply Sub.cons; (focus ((repeat (first | exact Sel.head | apply Sel.tail)); done))) | apply Sub.skip))⟩
                      )
                  · clear hf; intro hc8 a hf
                    first
                    | (first | exact Bool.noConfusion hc8 | exact absurd rfl hc8 | exact absurd hmi hc8; done)
                    | (
                      refine any_done (by kernel_rfl) ?_
                      refine t_normal ?_
                      refine c_false hf rfl ?_
                      refine c_skip ?_
                      refine b_normal ?_
                      refine t_normal ?_
                      refine c_region ?_
                      refine step_l (st_rd hf (Wn.none rfl) (rd_add hf rfl rfl rfl (by first | exact Go.IntWalk.i64_in _ (by omega) | exact rfl)) hS rfl rfl ?_)
                      clear hf; intro a hf
                      refine step_l (st_rd hf (Wn.none rfl) (rd_move hf rfl rfl) hS rfl rfl ?_)
                      clear hf; intro a hf
                      refine done_l ?_
                      refine t_normal ⟨j + 1, ((hf.back (by repeat (first | exact Behind.refl | refine Behind.skip rfl ?_)) hk2).kb hf 58 rfl (by first | rfl | exact int_eq (by omega))), ⟨hS.sub (by repeat (first | exact Sub.refl | exact Sub.none | exact Sub.behind | (apply Sub.cons; (focus ((repeat (first | exact Sel.head | apply Sel.tail)); done))) | apply Sub.skip)), by omega⟩, by first | omega | (simp only []; omega)⟩
                      )
                  )
              · clear hf; intro hc7 a hf
                first
                | (first | exact Bool.noConfusion hc7 | exact absurd rfl hc7 | exact absurd hmi hc7; done)
                | (
                  refine done_l ?_
                  refine t_normal ?_
                  refine c_seq ?_
                  refine c_false hf rfl ?_
                  refine c_exit ?_
                  refine t_exit ?_
                  refine t_exit ?_
                  refine b_exit ?_
                  refine b_normal ?_
                  refine t_normal ?_
                  refine c_region ?_
                  refine step_l (st_rd hf (Wn.none rfl) (rd_add hf rfl rfl rfl (by first | exact Go.IntWalk.i64_in _ (by omega) | exact rfl)) hS rfl rfl ?_)
                  clear hf; intro a hf
                  refine step_l (st_rd hf (Wn.none rfl) (rd_move hf rfl rfl) hS rfl rfl ?_)
                  clear hf; intro a hf
                  refine done_l ?_
                  refine t_normal ⟨(i + 1, vHear u k), ((hf.back (by repeat (first | exact Behind.refl | refine Behind.skip rfl ?_)) hk0).kb hf 22 rfl (by first | rfl | exact int_eq (by omega))), ⟨hS.sub (by repeat (first | exact Sub.refl | exact Sub.none | exact Sub.behind | (apply Sub.cons; (focus ((repeat (first | exact Sel.head | apply Sel.tail)); done))) | apply Sub.skip)), ⟨by omega, hok2, hme3, h03⟩⟩, by first | omega | (simp only []; omega)⟩
                  )
              )
          )
      )
  · clear hf; intro hc2 a hf
    first
    | (first | exact Bool.noConfusion hc2 | exact absurd rfl hc2 | exact absurd hmi hc2; done)
    | (
      refine done_l ?_
      refine t_normal ?_
      refine c_seq ?_
      refine c_false hf rfl ?_
      refine c_exit ?_
      refine t_exit ?_
      refine t_exit ?_
      refine b_exit ?_
      refine t_normal ?_
      refine c_seq ?_
      refine c_region ?_
      refine step_l (st_call hf (Wn.none rfl) rfl rfl rfl fn14 (awake_c hS) rfl rfl ?_)
      clear hf hS; rintro v a w ⟨rfl, hS⟩ hf
      refine step_l (st_rd hf (Wn.none rfl) (rd_assign hf rfl rfl) hS rfl rfl ?_)
      clear hf; intro a hf
      refine done_l ?_
      refine t_normal ?_
      refine c_ret ?_
      refine e_res1 hf.defers rfl (res_tmp hf rfl .nil) ?_
      exact ⟨rfl, hS.sub (by repeat (first | exact Sub.refl | exact Sub.none | exact Sub.behind | (apply Sub.cons; (focus ((repeat (first | exact Sel.head | apply Sel.tail)); done))) | apply Sub.skip))⟩
      )

end Go.Proofs.Ytjcjkbfhmbfkaaa
