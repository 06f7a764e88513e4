/-
  The statement WalShort, walked.
  Conditions: none.
-/
import Derived.Test.YtiibgekphgmjcaaWlaw1
namespace Go.Proofs.Ytiibgekphgmjcaa
open Go Go.Sl
set_option linter.unusedVariables false
set_option linter.unusedSimpArgs false
theorem fn12 : fnB Try.prog 12 = true := by kernel_rfl
theorem fn13 : fnB Try.prog 13 = true := by kernel_rfl
theorem fn17 : fnB Try.prog 17 = true := by kernel_rfl
theorem fn22 : fnB Try.prog 22 = true := by kernel_rfl
theorem fn23 : fnB Try.prog 23 = true := by kernel_rfl
theorem fn25 : fnB Try.prog 25 = true := by kernel_rfl
theorem fn27 : fnB Try.prog 27 = true := by kernel_rfl
theorem fn28 : fnB Try.prog 28 = true := by kernel_rfl
set_option maxRecDepth 100000 in
set_option maxHeartbeats 2000000 in
theorem WalShort_c (lx : List (Sli UInt8)) (qlx : Option Addr) (clx : Nat) (ly : List (Sli UInt8)) (qly : Option Addr) (cly : Nat) (most0 : Int) {W : World} {R : List HP} {w : World} (hS : Sat W (R) w) (hl9x : lx.length ≤ 140737488351232) (hvx : ∀ w, Sat W R w → BB w qlx lx) (hl9y : ly.length ≤ 140737488351232) (hvy : ∀ w, Sat W R w → BB w qly ly) : Calls Try.prog 7 [.slice qlx lx.length clx, .slice qly ly.length cly, .int .i64 most0].toArray w (Ret fun v w' => v = .bool true ∧ Sat W R w') := by
  refine fn_start 100 Try.func7 rfl rfl rfl ?_
  intro a hf
  refine c_seq ?_
  refine c_region ?_
  refine step_l (st_rd hf (Wn.none rfl) (rd_assign hf rfl rfl) hS rfl rfl ?_)
  clear hf; intro a hf
  refine done_l ?_
  refine t_normal ?_
  refine c_seq ?_
  refine c_region ?_
  refine step_l (st_rd hf (Wn.none rfl) (rd_move hf rfl rfl) hS rfl rfl ?_)
  clear hf; intro a hf
  refine step_l (st_rd hf (Wn.none rfl) (rd_convInt hf rfl rfl Try.underlying3 Try.underlying40 rfl) hS rfl rfl ?_)
  clear hf; intro a hf
  refine step_l (st_rd hf (Wn.none rfl) (rd_rem hf rfl rfl rfl (by first | decide | omega) (u64mod (m := 4000) most0 (by decide))) hS rfl rfl ?_)
  clear hf; intro a hf
  refine step_l (st_rd hf (Wn.none rfl) (rd_convInt hf rfl rfl Try.underlying40 Try.underlying3 (Go.IntWalk.i64_in _ (by omega))) hS rfl rfl ?_)
  clear hf; intro a hf
  refine step_l (st_rd hf (Wn.none rfl) (rd_assign hf rfl rfl) hS rfl rfl ?_)
  clear hf; intro a hf
  refine done_l ?_
  obtain ⟨m, hdm⟩ : ∃ m : Nat, m = (most0 % 18446744073709551616).toNat % 4000 := ⟨_, rfl⟩
  rw [← hdm] at hf; have hm2 : m < 4000 := by omega
  refine t_normal ?_
  refine c_seq ?_
  refine c_region ?_
  refine step_l (st_rd hf (Wn.none rfl) (rd_move hf rfl rfl) hS rfl rfl ?_)
  clear hf; intro a hf
  refine step_l (st_call hf (Wn.none rfl) rfl rfl rfl fn10 (DNew_c _ hS) rfl rfl ?_)
  clear hf hS; rintro v a w ⟨pd, rfl, hS⟩ hf; rw [show max 0 (min (((m : Nat) : Int) : Int) 1048576) = ((m : Nat) : Int) by omega] at hS
  refine step_l (st_rd hf (Wn.none rfl) (rd_assign hf rfl rfl) hS rfl rfl ?_)
  clear hf; intro a hf
  refine done_l ?_
  refine t_normal ?_
  refine c_seq ?_
  refine c_region ?_
  refine step_l (st_rd hf (Wn.none rfl) (rd_move hf rfl rfl) hS rfl rfl ?_)
  clear hf; intro a hf
  refine step_l (st_call hf (Wn.none rfl) rfl rfl rfl fn11 (OpenOk_c _ _ [] _ (hS.sel (by repeat (first | exact Sel.head | apply Sel.tail))) (by simp) (by rw [allB_nil])) rfl rfl ?_)
  clear hf hS; rintro v a w ⟨g1, q1, cap1, L1, h1, rfl, hS⟩ hf; rw [allB_nil] at h1; have hl1 : L1.length = 0 := byts_len_eq h1; rw [hl1] at hf hS; rw [wB_0, wS_0] at hS
  refine step_l (st_rd hf (Wn.none rfl) (rd_move hf rfl rfl) hS rfl rfl ?_)
  clear hf; intro a hf
  refine step_l (st_rd hf (Wn.none rfl) (rd_extract hf rfl rfl rfl) hS rfl rfl ?_)
  clear hf; intro a hf
  refine step_l (st_rd hf (Wn.none rfl) (rd_extract hf rfl rfl rfl) hS rfl rfl ?_)
  clear hf; intro a hf
  refine step_l (st_rd hf (Wn.none rfl) (rd_extract hf rfl rfl rfl) hS rfl rfl ?_)
  clear hf; intro a hf
  refine step_l (st_rd hf (Wn.none rfl) (rd_assign hf rfl rfl) hS rfl rfl ?_)
  clear hf; intro a hf
  refine step_l (st_rd hf (Wn.none rfl) (rd_assign hf rfl rfl) hS rfl rfl ?_)
  clear hf; intro a hf
  refine step_l (st_rd hf (Wn.none rfl) (rd_assign hf rfl rfl) hS rfl rfl ?_)
  clear hf; intro a hf
  refine done_l ?_
  refine t_normal ?_
  refine c_seq ?_
  refine c_seq ?_
  refine c_region ?_
  refine step_l (st_rd hf (Wn.none rfl) (rd_move hf rfl rfl) hS rfl rfl ?_)
  clear hf; intro a hf
  refine step_l (st_rdB hf (Wn.none rfl) (rd_neq hf rfl rfl rfl) hS rfl rfl ?_ ?_)
  · clear hf; intro hc1 a hf
    exact absurd rfl hc1
  · clear hf; intro hc1 a hf
    first
    | (first | exact Bool.noConfusion hc1 | exact absurd rfl hc1; done)
    | (
      refine step_l (st_rd hf (Wn.none rfl) (rd_move hf rfl rfl) hS rfl rfl ?_)
      clear hf; intro a hf
      refine step_l (st_rd hf (Wn.some hf rfl rfl rfl rfl) (rd_move hf rfl rfl) hS rfl rfl ?_)
      clear hf; intro a hf
      refine step_l (st_rdb hf (Wn.some hf rfl rfl rfl rfl) (rd_eqlNilP hf rfl rfl rfl Try.underlying26) hS rfl rfl ?_ ?_)
      · clear hf; intro hc2 a hf
        first
        | (first | exact Bool.noConfusion hc2 | exact absurd rfl hc2; done)
        | (
          refine step_l (st_rd hf (Wn.none rfl) (rd_pick_f hf rfl rfl rfl) hS rfl rfl ?_)
          clear hf; intro a hf
          refine done_l ?_
          refine t_normal ?_
          refine c_true hf rfl ?_
          refine c_seq ?_
          refine c_region ?_
          refine step_l (st_rd hf (Wn.none rfl) (rd_assign hf rfl rfl) hS rfl rfl ?_)
          clear hf; intro a hf
          refine done_l ?_
          refine t_normal ?_
          refine c_ret ?_
          refine t_ret ?_
          refine e_res1 hf.defers rfl (res_tmp hf rfl .nil) ?_
          exact ⟨rfl, hS.sub (by repeat (first | exact Sub.refl | exact Sub.none | exact Sub.behind | (apply Sub.cons; (focus ((repeat (first | exact Sel.head | apply Sel.tail)); done))) | apply Sub.skip))⟩
          )
      · clear hf; intro hc2 a hf
        first
        | (first | exact Bool.noConfusion hc2 | exact absurd rfl hc2; done)
        | (
          refine step_l (st_rd hf (Wn.none rfl) (rd_pick_f hf rfl rfl rfl) hS rfl rfl ?_)
          clear hf; intro a hf
          refine done_l ?_
          refine t_normal ?_
          refine c_false hf rfl ?_
          refine c_skip ?_
          refine t_normal ?_
          refine c_seq ?_
          refine c_seq ?_
          refine c_region ?_
          refine step_l (st_rd hf (Wn.none rfl) (rd_move hf rfl rfl) hS rfl rfl ?_)
          clear hf; intro a hf
          refine step_l (st_call hf (Wn.none rfl) rfl rfl rfl fn13 (small_c lx _ _ _ hS rfl (by omega) (fun _ h => hvx _ (h.sub (by repeat (first | exact Sub.refl | exact Sub.none | exact Sub.behind | (apply Sub.cons; (focus ((repeat (first | exact Sel.head | apply Sel.tail)); done))) | apply Sub.skip))))) rfl rfl ?_)
          clear hf hS; rintro v a w ⟨qs1, caps1, rfl, hS⟩ hf; obtain ⟨M, hMM⟩ : ∃ M, M = smallW lx := ⟨_, rfl⟩; rw [← hMM] at hf hS; have hkM := SmW.of hMM; have hfaM := hkM.all; have hmlM := hkM.len
          refine step_l (st_rd hf (Wn.none rfl) (rd_len hf rfl rfl Try.underlying22) hS rfl rfl ?_)
          clear hf; intro a hf
          refine step_l (st_rd hf (Wn.none rfl) (rd_move hf rfl rfl) hS rfl rfl ?_)
          clear hf; intro a hf
          refine done_l ?_
          refine t_normal ?_
          refine c_block ?_
          have hk0 := Keep.of hf [(12, 12), (39, 46)] (by repeat (first | exact Keep.nil | apply Keep.drop rfl | apply Keep.take rfl))
          refine c_loopK hk0 (α := Nat × List (List UInt8) × Nat × Nat) (fun ⟨k, rs, n, s⟩ => [(39, .int .i64 (k : Nat))]) (fun ⟨k, rs, n, s⟩ w => Sat W (Rw 23 1 qs1 M.length caps1 (M.map sval) :: Blk g1 [.pointer (some ⟨pd, 0, none⟩), .int .i64 (n : Nat)] 59 :: DkP 5 56 pd (m : Int) (frs rs) s :: R) w ∧ k ≤ M.length ∧ (frs rs).length ≤ m ∧ n ≤ k ∧ ∀ r ∈ rs, r.length ≤ 60000) (fun ⟨k, rs, n, s⟩ => M.length - k) (0, [], 0, 0) ((hf.keep hk0).kb hf 39 rfl (by first | rfl | exact int_eq (by omega))) ⟨hS.sub (by repeat (first | exact Sub.refl | exact Sub.none | exact Sub.behind | (apply Sub.cons; (focus ((repeat (first | exact Sel.head | apply Sel.tail)); done))) | apply Sub.skip)), ⟨by omega, by simp [frs], by omega, by simp⟩⟩ ?_
          clear hf hS; rintro ⟨k, rs, n, s⟩ a w hf ⟨hS, ⟨hk, hbm, hnk, hrs⟩⟩; (try dsimp only [List.cons_append, List.nil_append] at hf)
          refine c_seq ?_
          refine c_region ?_
          refine step_l (st_rdB hf (Wn.none rfl) (rd_lss hf rfl rfl rfl) hS rfl rfl ?_ ?_)
          · clear hf; intro hc3 a hf
            obtain ⟨x, hget⟩ := get_of_lt (l := M) (k := k) (by omega) rfl; obtain ⟨ad, rfl⟩ := (hS.slOfRw (xs := M.map sval) (by repeat (first | exact Sel.head | apply Sel.tail))).some (by omega); have hx5 := hkM.row x (List.mem_of_getElem? hget); have hfr := hkM.fr k; have hfr2 := hkM.fr (k + 1)
            first
            | (first | exact Bool.noConfusion hc3 | exact absurd rfl hc3; done)
            | (
              refine done_l ?_
              refine t_normal ?_
              refine c_seq ?_
              refine c_true hf rfl ?_
              refine c_skip ?_
              refine t_normal ?_
              refine c_seq ?_
              refine c_block ?_
              refine c_seq ?_
              refine c_region ?_
              refine step_l (st_rd hf (Wn.none rfl) ((by first | exact rd_indexAddrN1 hf rfl rfl rfl Try.underlying22 sz23 (by omega) | exact rd_indexAddr hf rfl rfl rfl Try.underlying22 sz23 (by first | decide | omega) (by omega))) hS rfl rfl ?_)
              clear hf; intro a hf
              refine step_l (st_rd hf (Wn.none rfl) (rd_load1 hf rfl rfl ag23 (by intro _ h; exact (h.slOfRw (xs := M.map sval) (by repeat (first | exact Sel.head | apply Sel.tail))).get (u := sval x) (by simp [hget]))) hS rfl rfl ?_)
              clear hf; intro a hf
              refine step_l (st_rd hf (Wn.none rfl) (rd_assign hf rfl rfl) hS rfl rfl ?_)
              clear hf; intro a hf
              refine done_l ?_
              refine t_normal ?_
              refine c_region ?_
              refine step_l (st_rd hf (Wn.none rfl) (rd_move hf rfl rfl) hS rfl rfl ?_)
              clear hf; intro a hf
              refine step_l (st_rd hf (Wn.none rfl) (rd_move hf rfl rfl) hS rfl rfl ?_)
              clear hf; intro a hf
              refine step_l (st_call hf (Wn.none rfl) rfl rfl rfl fn14 (WAppend_c _ _ _ _ _ _ x.2.2 _ _ _ (hS.sels (.cons (by repeat (first | exact Sel.head | apply Sel.tail)) (.cons (by repeat (first | exact Sel.head | apply Sel.tail)) .nil))) (by omega) (by omega) (by omega) rfl (fun _ h => (hvx _ (h.sub (by repeat (first | exact Sub.refl | exact Sub.none | exact Sub.behind | (apply Sub.cons; (focus ((repeat (first | exact Sel.head | apply Sel.tail)); done))) | apply Sub.skip)))).row x (hkM.sub x (List.mem_of_getElem? hget)))) rfl rfl ?_)
              clear hf hS; rintro v a w ⟨rfl, hS⟩ hf; obtain ⟨rs2, hr1, hr2⟩ := aB_frs (m := m) (r := x.2.2) hrs; rw [hr1] at hS
              refine done_l ?_
              refine b_normal ?_
              refine t_normal ?_
              refine c_region ?_
              refine step_l (st_rd hf (Wn.none rfl) (rd_add hf rfl rfl rfl (by first | exact Go.IntWalk.i64_in _ (by omega) | exact rfl)) hS rfl rfl ?_)
              clear hf; intro a hf
              refine step_l (st_rd hf (Wn.none rfl) (rd_move hf rfl rfl) hS rfl rfl ?_)
              clear hf; intro a hf
              refine done_l ?_
              refine t_normal ⟨(k + 1, rs2, aN m (frs rs) x.2.2 n, aS m (frs rs) x.2.2 s), ((hf.back (by repeat (first | exact Behind.refl | refine Behind.skip rfl ?_)) hk0).kb hf 39 rfl (by first | rfl | exact int_eq (by omega))), ⟨hS.sub (by repeat (first | exact Sub.refl | exact Sub.none | exact Sub.behind | (apply Sub.cons; (focus ((repeat (first | exact Sel.head | apply Sel.tail)); done))) | apply Sub.skip)), ⟨by omega, by rw [← hr1]; exact aB_le hbm, by have := aN_le (m := m) (b := frs rs) (r := x.2.2) (n := n); omega, hr2⟩⟩, by first | omega | (simp only []; omega)⟩
              )
          · clear hf; intro hc3 a hf
            first
            | (first | exact Bool.noConfusion hc3 | exact absurd rfl hc3; done)
            | (
              refine done_l ?_
              refine t_normal ?_
              refine c_seq ?_
              refine c_false hf rfl ?_
              refine c_exit ?_
              refine t_exit ?_
              refine t_exit ?_
              refine b_exit ?_
              refine t_normal ?_
              refine c_seq ?_
              refine c_region ?_
              refine step_l (st_rd hf (Wn.none rfl) (rd_move hf rfl rfl) hS rfl rfl ?_)
              clear hf; intro a hf
              refine step_l (st_call hf (Wn.none rfl) rfl rfl rfl fn16 (DBytes_c _ _ (frs rs) _ (hS.sel (by repeat (first | exact Sel.head | apply Sel.tail))) (by omega)) rfl rfl ?_)
              clear hf hS; rintro v a w ⟨qb1, capb1, rfl, hS⟩ hf
              refine step_l (st_rd hf (Wn.none rfl) (rd_assign hf rfl rfl) hS rfl rfl ?_)
              clear hf; intro a hf
              refine done_l ?_
              refine t_normal ?_
              refine c_seq ?_
              refine c_region ?_
              refine step_l (st_rd hf (Wn.none rfl) (rd_move hf rfl rfl) hS rfl rfl ?_)
              clear hf; intro a hf
              refine step_l (st_rd hf (Wn.none rfl) (rd_move hf rfl rfl) hS rfl rfl ?_)
              clear hf; intro a hf
              refine step_l (st_call hf (Wn.none rfl) rfl rfl rfl fn13 (small_c ly _ _ _ hS rfl (by omega) (fun _ h => hvy _ (h.sub (by repeat (first | exact Sub.refl | exact Sub.none | exact Sub.behind | (apply Sub.cons; (focus ((repeat (first | exact Sel.head | apply Sel.tail)); done))) | apply Sub.skip))))) rfl rfl ?_)
              clear hf hS; rintro v a w ⟨qs2, caps2, rfl, hS⟩ hf; obtain ⟨M2, hMM2⟩ : ∃ M, M = smallW ly := ⟨_, rfl⟩; rw [← hMM2] at hf hS; have hkM2 := SmW.of hMM2; have hfaM2 := hkM2.all; have hmlM2 := hkM2.len
              refine step_l (st_call hf (Wn.none rfl) rfl rfl rfl fn27 (WCompact_c _ _ _ _ _ _ M2 _ _ _ (hS.sels (.cons (by repeat (first | exact Sel.head | apply Sel.tail)) (.cons (by repeat (first | exact Sel.head | apply Sel.tail)) .nil))) (by omega) (by omega) rfl (by omega) (fun z hz => by have := hkM2.row z hz; omega) (by omega) (fun _ h => (BB.sub (hvy _ (h.sub (by repeat (first | exact Sub.refl | exact Sub.none | exact Sub.behind | (apply Sub.cons; (focus ((repeat (first | exact Sel.head | apply Sel.tail)); done))) | apply Sub.skip)))) (h.slOfRw (xs := M2.map sval) (by repeat (first | exact Sel.head | apply Sel.tail))) hkM2.sub))) rfl rfl ?_)
              clear hf hS; rintro v a w ⟨rfl, hS⟩ hf; obtain ⟨r3, hd1, hd2, hd3⟩ := rep_frs (m := m) hrs hkM2.big; rw [hd1] at hS; have hr3 : (frs r3).length ≤ 20000 := (by rcases hd3 with ⟨_, h⟩ | ⟨_, h, _⟩; (· rw [h]; omega); (· rw [h]; omega))
              refine step_l (st_rd hf (Wn.none rfl) (rd_assign hf rfl rfl) hS rfl rfl ?_)
              clear hf; intro a hf
              refine done_l ?_
              refine t_normal ?_
              refine c_seq ?_
              refine c_region ?_
              refine step_l (st_rd hf (Wn.none rfl) (rd_move hf rfl rfl) hS rfl rfl ?_)
              clear hf; intro a hf
              refine step_l (st_call hf (Wn.none rfl) rfl rfl rfl fn11 (OpenOk_c _ _ (frs r3) _ (hS.sel (by repeat (first | exact Sel.head | apply Sel.tail))) (by omega) (by rw [allB_frs0 _ hd2])) rfl rfl ?_)
              clear hf hS; rintro v a w ⟨g2, q2, cap2, L2, h2, rfl, hS⟩ hf; rw [allB_frs0 _ hd2] at h2; rw [w_frs0 hd2, wS_frs0 hd2] at hS
              refine step_l (st_rd hf (Wn.none rfl) (rd_move hf rfl rfl) hS rfl rfl ?_)
              clear hf; intro a hf
              refine step_l (st_rd hf (Wn.none rfl) (rd_extract hf rfl rfl rfl) hS rfl rfl ?_)
              clear hf; intro a hf
              refine step_l (st_rd hf (Wn.none rfl) (rd_extract hf rfl rfl rfl) hS rfl rfl ?_)
              clear hf; intro a hf
              refine step_l (st_rd hf (Wn.none rfl) (rd_extract hf rfl rfl rfl) hS rfl rfl ?_)
              clear hf; intro a hf
              refine step_l (st_rd hf (Wn.none rfl) (rd_assign hf rfl rfl) hS rfl rfl ?_)
              clear hf; intro a hf
              refine step_l (st_rd hf (Wn.none rfl) (rd_assign hf rfl rfl) hS rfl rfl ?_)
              clear hf; intro a hf
              refine step_l (st_rd hf (Wn.none rfl) (rd_assign hf rfl rfl) hS rfl rfl ?_)
              clear hf; intro a hf
              refine done_l ?_
              refine t_normal ?_
              refine c_seq ?_
              refine c_seq ?_
              refine c_region ?_
              refine step_l (st_rd hf (Wn.none rfl) (rd_move hf rfl rfl) hS rfl rfl ?_)
              clear hf; intro a hf
              refine step_l (st_rdB hf (Wn.none rfl) (rd_neq hf rfl rfl rfl) hS rfl rfl ?_ ?_)
              · clear hf; intro hc4 a hf
                obtain ⟨hE1, hE2, hE3⟩ := hd3.resolve_left fun h => hc4 h.1
                subst hE2
                first
                | (first | exact Bool.noConfusion hc4 | exact absurd rfl hc4; done)
                | (
                  refine done_l ?_
                  refine t_normal ?_
                  refine c_true hf rfl ?_
                  refine c_seq ?_
                  refine any_begin mixed hS.drew ?_
                  replace hS := hS.drew
                  have hT := hS
                  refine any_take (i := 0) hf rfl (by kernel_rfl) (by kernel_rfl) (by kernel_rfl) (fun _ _ _ h => h) (Wn.none rfl) (rd_move hf rfl rfl) hT rfl rfl ?_
                  clear hf; intro a hf
                  refine any_takeB (i := 1) hf rfl (by kernel_rfl) (by kernel_rfl) (by kernel_rfl) (fun _ _ _ _ h => h) (Wn.none rfl) (rd_eql hf rfl rfl rfl) hT rfl rfl ?_ ?_
                  · clear hf; intro hc5 a hf
                    first
                    | (first | exact Bool.noConfusion hc5 | exact absurd rfl hc5; done)
                    | (
                      refine any_take (i := 2) hf rfl (by kernel_rfl) (by kernel_rfl) (by kernel_rfl) (fun _ _ _ h => h) (Wn.none rfl) (rd_move hf rfl rfl) hT rfl rfl ?_
                      clear hf; intro a hf
                      refine any_take (i := 3) hf rfl (by kernel_rfl) (by kernel_rfl) (by kernel_rfl) (fun _ _ _ h => h) (Wn.some hf rfl rfl rfl rfl) (rd_move hf rfl rfl) hT rfl rfl ?_
                      clear hf; intro a hf
                      refine any_take (i := 6) hf rfl (by kernel_rfl) (by kernel_rfl) (by kernel_rfl) (fun _ _ _ h => h) (Wn.some hf rfl rfl rfl rfl) (rd_move hf rfl rfl) hT rfl rfl ?_
                      clear hf; intro a hf
                      refine any_one (i := 4) rfl (by kernel_rfl) (st_call hf (Wn.some hf rfl rfl rfl rfl) rfl rfl rfl fn13 (small_c ly _ _ _ hS rfl (by omega) (fun _ h => hvy _ (h.sub (by repeat (first | exact Sub.refl | exact Sub.none | exact Sub.behind | (apply Sub.cons; (focus ((repeat (first | exact Sel.head | apply Sel.tail)); done))) | apply Sub.skip))))) rfl rfl ?_)
                      clear hf hS; rintro v a w ⟨qs3, caps3, rfl, hS⟩ hf; rw [← hMM2] at hf hS
                      replace hT := hS.sub' hT (by repeat (first | exact Sub.refl | exact Sub.none | exact Sub.behind | (apply Sub.cons; (focus ((repeat (first | exact Sel.head | apply Sel.tail)); done))) | apply Sub.skip))
                      refine ⟨hT, ?_⟩
                      refine any_one (i := 5) rfl (by kernel_rfl) (st_call hf (Wn.some hf rfl rfl rfl rfl) rfl rfl rfl fn28 (size_c M2 _ _ _ hS rfl (by omega) (by omega) (fun _ h => (BB.sub (hvy _ (h.sub (by repeat (first | exact Sub.refl | exact Sub.none | exact Sub.behind | (apply Sub.cons; (focus ((repeat (first | exact Sel.head | apply Sel.tail)); done))) | apply Sub.skip)))) (h.slOfRw (xs := M2.map sval) (by repeat (first | exact Sel.head | apply Sel.tail))) hkM2.sub))) rfl rfl ?_)
                      clear hf hS; rintro v a w ⟨rfl, hS⟩ hf
                      replace hT := hS.sub' hT (by repeat (first | exact Sub.refl | exact Sub.none | exact Sub.behind | (apply Sub.cons; (focus ((repeat (first | exact Sel.head | apply Sel.tail)); done))) | apply Sub.skip))
                      refine ⟨hT, ?_⟩
                      refine any_takeB (i := 7) hf rfl (by kernel_rfl) (by kernel_rfl) (by kernel_rfl) (fun _ _ _ _ h => h) (Wn.some hf rfl rfl rfl rfl) (rd_gtr hf rfl rfl rfl) hT rfl rfl ?_ ?_
                      · clear hf; intro hc6 a hf
                        first
                        | (first | exact Bool.noConfusion hc6 | exact absurd rfl hc6; done)
                        | (
                          refine any_take (i := 8) hf rfl (by kernel_rfl) (by kernel_rfl) (by kernel_rfl) (fun _ _ _ h => h) (Wn.none rfl) (rd_pick_t hf rfl rfl rfl) hT rfl rfl ?_
                          clear hf; intro a hf
                          refine any_take (i := 9) hf rfl (by kernel_rfl) (by kernel_rfl) (by kernel_rfl) (fun _ _ _ h => h) (Wn.none rfl) (rd_move hf rfl rfl) hT rfl rfl ?_
                          clear hf; intro a hf
                          refine any_take (i := 10) hf rfl (by kernel_rfl) (by kernel_rfl) (by kernel_rfl) (fun _ _ _ h => h) (Wn.some hf rfl rfl rfl rfl) (rd_move hf rfl rfl) hT rfl rfl ?_
                          clear hf; intro a hf
                          refine any_take (i := 13) hf rfl (by kernel_rfl) (by kernel_rfl) (by kernel_rfl) (fun _ _ _ h => h) (Wn.some hf rfl rfl rfl rfl) (rd_move hf rfl rfl) hT rfl rfl ?_
                          clear hf; intro a hf
                          refine any_take (i := 14) hf rfl (by kernel_rfl) (by kernel_rfl) (by kernel_rfl) (fun _ _ _ h => h) (Wn.some hf rfl rfl rfl rfl) (rd_str hf rfl rfl Try.underlying23 Try.underlying9 Try.underlying5 (by intro _ h; first | exact h.slOfRw (by repeat (first | exact Sel.head | apply Sel.tail)) | exact h.slOfBlkPre (by repeat (first | exact Sel.head | apply Sel.tail)) (bvs_len1 _) | exact h.slOfRw (by repeat (first | exact Sel.head | apply Sel.tail)))) hT rfl rfl ?_
                          clear hf; intro a hf
                          refine any_one (i := 11) rfl (by kernel_rfl) (st_call hf (Wn.some hf rfl rfl rfl rfl) rfl rfl rfl fn16 (DBytes_c _ _ (frs r3) _ (hS.sel (by repeat (first | exact Sel.head | apply Sel.tail))) (by omega)) rfl rfl ?_)
                          clear hf hS; rintro v a w ⟨qb3, capb3, rfl, hS⟩ hf
                          replace hT := hS.sub' hT (by repeat (first | exact Sub.refl | exact Sub.none | exact Sub.behind | (apply Sub.cons; (focus ((repeat (first | exact Sel.head | apply Sel.tail)); done))) | apply Sub.skip))
                          refine ⟨hT, ?_⟩
                          refine any_one (i := 12) rfl (by kernel_rfl) (st_rd hf (Wn.some hf rfl rfl rfl rfl) (rd_str hf rfl rfl Try.underlying23 Try.underlying9 Try.underlying5 (by intro _ h; first | exact h.slOfRw (by repeat (first | exact Sel.head | apply Sel.tail)) | exact h.slOfBlkPre (by repeat (first | exact Sel.head | apply Sel.tail)) (bvs_len1 _) | exact h.slOfRw (by repeat (first | exact Sel.head | apply Sel.tail)))) hS rfl rfl ?_)
                          clear hf; intro a hf
                          refine ⟨hT, ?_⟩
                          refine any_takeB (i := 15) hf rfl (by kernel_rfl) (by kernel_rfl) (by kernel_rfl) (fun _ _ _ _ h => h) (Wn.some hf rfl rfl rfl rfl) (rd_eqlS hf rfl rfl rfl) hT rfl rfl ?_ ?_
                          · clear hf; intro hc7 a hf
                            first
                            | (first | exact Bool.noConfusion hc7 | exact absurd rfl hc7; done)
                            | (
                              refine any_take (i := 16) hf rfl (by kernel_rfl) (by kernel_rfl) (by kernel_rfl) (fun _ _ _ h => h) (Wn.none rfl) (rd_pick_t hf rfl rfl rfl) hT rfl rfl ?_
                              clear hf; intro a hf
                              refine any_take (i := 17) hf rfl (by kernel_rfl) (by kernel_rfl) (by kernel_rfl) (fun _ _ _ h => h) (Wn.none rfl) (rd_move hf rfl rfl) hT rfl rfl ?_
                              clear hf; intro a hf
                              refine any_one (i := 18) rfl (by kernel_rfl) (st_call hf (Wn.some hf rfl rfl rfl rfl) rfl rfl rfl fn12 (awake_c hS) rfl rfl ?_)
                              clear hf hS; rintro v a w ⟨rfl, hS⟩ hf
                              replace hT := hS.sub' hT (by repeat (first | exact Sub.refl | exact Sub.none | exact Sub.behind | (apply Sub.cons; (focus ((repeat (first | exact Sel.head | apply Sel.tail)); done))) | apply Sub.skip))
                              refine ⟨hT, ?_⟩
                              refine any_take (i := 19) hf rfl (by kernel_rfl) (by kernel_rfl) (by kernel_rfl) (fun _ _ _ h => h) (Wn.none rfl) (rd_pick_t hf rfl rfl rfl) hT rfl rfl ?_
                              clear hf; intro a hf
                              refine any_take (i := 20) hf rfl (by kernel_rfl) (by kernel_rfl) (by kernel_rfl) (fun _ _ _ h => h) (Wn.none rfl) (rd_assign hf rfl rfl) hT rfl rfl ?_
                              clear hf; intro a hf
                              refine any_done (by kernel_rfl) ?_
                              refine t_normal ?_
                              refine c_ret ?_
                              refine t_ret ?_
                              refine e_res1 hf.defers rfl (res_tmp hf rfl .nil) ?_
                              exact ⟨rfl, hS.sub (by repeat (first | exact Sub.refl | exact Sub.none | exact Sub.behind | (apply Sub.cons; (focus ((repeat (first | exact Sel.head | apply Sel.tail)); done))) | apply Sub.skip))⟩
                              )
                          · clear hf; intro hc7 a hf
                            exact absurd rfl hc7
                          )
                      · clear hf; intro hc6 a hf
                        exact absurd hE3 hc6
                      )
                  · clear hf; intro hc5 a hf
                    exact absurd hE1 hc5
                  )
              · clear hf; intro hc4 a hf
                obtain ⟨hE1, hE2⟩ := hd3.resolve_right fun h => by have := h.1; omega
                first
                | (first | exact Bool.noConfusion hc4 | exact absurd rfl hc4; done)
                | (
                  refine done_l ?_
                  refine t_normal ?_
                  refine c_false hf rfl ?_
                  refine c_skip ?_
                  refine t_normal ?_
                  refine c_seq ?_
                  refine c_region ?_
                  refine step_l (st_rd hf (Wn.none rfl) (rd_move hf rfl rfl) hS rfl rfl ?_)
                  clear hf; intro a hf
                  refine step_l (st_rdB hf (Wn.none rfl) (rd_eql hf rfl rfl rfl) hS rfl rfl ?_ ?_)
                  · clear hf; intro hc8 a hf
                    first
                    | (first | exact Bool.noConfusion hc8 | exact absurd rfl hc8; done)
                    | (
                      refine step_l (st_rd hf (Wn.none rfl) (rd_move hf rfl rfl) hS rfl rfl ?_)
                      clear hf; intro a hf
                      refine step_l (st_rd hf (Wn.some hf rfl rfl rfl rfl) (rd_move hf rfl rfl) hS rfl rfl ?_)
                      clear hf; intro a hf
                      refine step_l (st_rd hf (Wn.some hf rfl rfl rfl rfl) (rd_move hf rfl rfl) hS rfl rfl ?_)
                      clear hf; intro a hf
                      refine step_l (st_call hf (Wn.some hf rfl rfl rfl rfl) rfl rfl rfl fn13 (small_c ly _ _ _ hS rfl (by omega) (fun _ h => hvy _ (h.sub (by repeat (first | exact Sub.refl | exact Sub.none | exact Sub.behind | (apply Sub.cons; (focus ((repeat (first | exact Sel.head | apply Sel.tail)); done))) | apply Sub.skip))))) rfl rfl ?_)
                      clear hf hS; rintro v a w ⟨qs3, caps3, rfl, hS⟩ hf; rw [← hMM2] at hf hS
                      refine step_l (st_call hf (Wn.some hf rfl rfl rfl rfl) rfl rfl rfl fn17 (SameBytes_c L2 _ _ _ M2 _ _ _ hS rfl rfl (by have := byts_len_eq h2; rw [hE2, byts_len] at this; omega) (fun _ h => BB.mk (h.slOfRw (xs := L2.map sval) (by repeat (first | exact Sel.head | apply Sel.tail))) (h.rws (L := L2) (by repeat (first | exact Sel.head | apply Sel.tail)))) (fun _ h => (BB.sub (hvy _ (h.sub (by repeat (first | exact Sub.refl | exact Sub.none | exact Sub.behind | (apply Sub.cons; (focus ((repeat (first | exact Sel.head | apply Sel.tail)); done))) | apply Sub.skip)))) (h.slOfRw (xs := M2.map sval) (by repeat (first | exact Sel.head | apply Sel.tail))) hkM2.sub))) rfl rfl ?_)
                      clear hf hS; rintro v a w ⟨rfl, hS⟩ hf; rw [decide_eq_true (h2.trans hE2)] at hf
                      first | refine split_dec (d := 87) hf rfl ?_ ?_ | refine split_bool (d := 87) hf rfl ?_ ?_
                      · clear hf; intro hc9 hf
                        first
                        | (first | exact Bool.noConfusion hc9 | exact absurd rfl hc9; done)
                        | (
                          refine step_l (st_rd hf (Wn.none rfl) (rd_pick_t hf rfl rfl rfl) hS rfl rfl ?_)
                          clear hf; intro a hf
                          refine step_l (st_rd hf (Wn.none rfl) (rd_move hf rfl rfl) hS rfl rfl ?_)
                          clear hf; intro a hf
                          refine step_l (st_rd hf (Wn.some hf rfl rfl rfl rfl) (rd_move hf rfl rfl) hS rfl rfl ?_)
                          clear hf; intro a hf
                          refine step_l (st_call hf (Wn.some hf rfl rfl rfl rfl) rfl rfl rfl fn22 (WLen_c _ _ _ _ _ _ (hS.sels (.cons (by repeat (first | exact Sel.head | apply Sel.tail)) (.cons (by repeat (first | exact Sel.head | apply Sel.tail)) .nil)))) rfl rfl ?_)
                          clear hf hS; rintro v a w ⟨rfl, hS⟩ hf
                          refine step_l (st_rd hf (Wn.some hf rfl rfl rfl rfl) (rd_move hf rfl rfl) hS rfl rfl ?_)
                          clear hf; intro a hf
                          refine step_l (st_call hf (Wn.some hf rfl rfl rfl rfl) rfl rfl rfl fn13 (small_c ly _ _ _ hS rfl (by omega) (fun _ h => hvy _ (h.sub (by repeat (first | exact Sub.refl | exact Sub.none | exact Sub.behind | (apply Sub.cons; (focus ((repeat (first | exact Sel.head | apply Sel.tail)); done))) | apply Sub.skip))))) rfl rfl ?_)
                          clear hf hS; rintro v a w ⟨qs4, caps4, rfl, hS⟩ hf; rw [← hMM2] at hf hS
                          refine step_l (st_rd hf (Wn.some hf rfl rfl rfl rfl) (rd_len hf rfl rfl Try.underlying22) hS rfl rfl ?_)
                          clear hf; intro a hf
                          refine step_l (st_rdB hf (Wn.some hf rfl rfl rfl rfl) (rd_eql hf rfl rfl rfl) hS rfl rfl ?_ ?_)
                          · clear hf; intro hc10 a hf
                            first
                            | (first | exact Bool.noConfusion hc10 | exact absurd rfl hc10; done)
                            | (
                              refine step_l (st_rd hf (Wn.none rfl) (rd_pick_t hf rfl rfl rfl) hS rfl rfl ?_)
                              clear hf; intro a hf
                              refine step_l (st_rd hf (Wn.none rfl) (rd_move hf rfl rfl) hS rfl rfl ?_)
                              clear hf; intro a hf
                              refine step_l (st_call hf (Wn.some hf rfl rfl rfl rfl) rfl rfl rfl fn12 (awake_c hS) rfl rfl ?_)
                              clear hf hS; rintro v a w ⟨rfl, hS⟩ hf
                              refine step_l (st_rd hf (Wn.none rfl) (rd_pick_t hf rfl rfl rfl) hS rfl rfl ?_)
                              clear hf; intro a hf
                              refine step_l (st_rd hf (Wn.none rfl) (rd_assign hf rfl rfl) hS rfl rfl ?_)
                              clear hf; intro a hf
                              refine done_l ?_
                              refine t_normal ?_
                              refine c_ret ?_
                              refine e_res1 hf.defers rfl (res_tmp hf rfl .nil) ?_
                              exact ⟨rfl, hS.sub (by repeat (first | exact Sub.refl | exact Sub.none | exact Sub.behind | (apply Sub.cons; (focus ((repeat (first | exact Sel.head | apply Sel.tail)); done))) | apply Sub.skip))⟩
                              )
                          · clear hf; intro hc10 a hf
                            exact absurd (by rw [if_pos hE1]) hc10
                          )
                      · clear hf; intro hc9 hf
                        first
                        | (first | exact Bool.noConfusion hc9 | exact absurd rfl hc9; done)
                        | (
                          refine step_l (st_rd hf (Wn.none rfl) (rd_pick_t hf rfl rfl rfl) hS rfl rfl ?_)
                          clear hf; intro a hf
                          refine step_l (st_rd hf (Wn.none rfl) (rd_move hf rfl rfl) hS rfl rfl ?_)
                          clear hf; intro a hf
                          refine step_l (st_skip hf (Wn.some hf rfl rfl rfl rfl) rfl rfl ?_)
                          clear hf; intro a hf
                          refine step_l (st_skip hf (Wn.some hf rfl rfl rfl rfl) rfl rfl ?_)
                          clear hf; intro a hf
                          refine step_l (st_skip hf (Wn.some hf rfl rfl rfl rfl) rfl rfl ?_)
                          clear hf; intro a hf
                          refine step_l (st_skip hf (Wn.some hf rfl rfl rfl rfl) rfl rfl ?_)
                          clear hf; intro a hf
                          refine step_l (st_skip hf (Wn.some hf rfl rfl rfl rfl) rfl rfl ?_)
                          clear hf; intro a hf
                          refine step_l (st_skip hf (Wn.some hf rfl rfl rfl rfl) rfl rfl ?_)
                          clear hf; intro a hf
                          refine step_l (st_rd hf (Wn.none rfl) (rd_pick_f hf rfl rfl rfl) hS rfl rfl ?_)
                          clear hf; intro a hf
                          refine step_l (st_rd hf (Wn.none rfl) (rd_move hf rfl rfl) hS rfl rfl ?_)
                          clear hf; intro a hf
                          refine step_l (st_skip hf (Wn.some hf rfl rfl rfl rfl) rfl rfl ?_)
                          clear hf; intro a hf
                          refine step_l (st_rd hf (Wn.none rfl) (rd_pick_f hf rfl rfl rfl) hS rfl rfl ?_)
                          clear hf; intro a hf
                          refine step_l (st_rd hf (Wn.none rfl) (rd_assign hf rfl rfl) hS rfl rfl ?_)
                          clear hf; intro a hf
                          refine done_l ?_
                          refine t_normal ?_
                          refine c_ret ?_
                          refine e_res1 hf.defers rfl (res_tmp hf rfl .nil) ?_
                          exact ⟨rfl, hS.sub (by repeat (first | exact Sub.refl | exact Sub.none | exact Sub.behind | (apply Sub.cons; (focus ((repeat (first | exact Sel.head | apply Sel.tail)); done))) | apply Sub.skip))⟩
                          )
                      )
                  · clear hf; intro hc8 a hf
                    exact absurd rfl hc8
                  )
              )
          )
      )

end Go.Proofs.Ytiibgekphgmjcaa
