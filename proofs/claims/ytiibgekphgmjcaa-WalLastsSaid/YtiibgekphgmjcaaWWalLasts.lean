/-
  The statement WalLasts, walked.
  Conditions: none.
-/
import Derived.Test.YtiibgekphgmjcaaWlaw1
namespace Go.Proofs.Ytiibgekphgmjcaa
open Go Go.Sl
set_option linter.unusedVariables false
set_option linter.unusedSimpArgs false
theorem fn12 : fnB Try.prog 12 = true := by kernel_rfl
theorem fn13 : fnB Try.prog 13 = true := by kernel_rfl
theorem fn17 : fnB Try.prog 17 = true := by kernel_rfl
theorem fn18 : fnB Try.prog 18 = true := by kernel_rfl
theorem fn19 : fnB Try.prog 19 = true := by kernel_rfl
theorem fn21 : fnB Try.prog 21 = true := by kernel_rfl
theorem fn22 : fnB Try.prog 22 = true := by kernel_rfl
theorem fn23 : fnB Try.prog 23 = true := by kernel_rfl
theorem fn24 : fnB Try.prog 24 = true := by kernel_rfl
theorem fn25 : fnB Try.prog 25 = true := by kernel_rfl
theorem fn27 : fnB Try.prog 27 = true := by kernel_rfl
theorem fn28 : fnB Try.prog 28 = true := by kernel_rfl
theorem dk_cast {W w : World} {l : List HP} {B T p sure : Nat} {most : Int} {b b2 : List UInt8} (h : Sat W (DkP B T p most b sure :: l) w) (hb : b = b2) : Sat W (DkP B T p most b2 sure :: l) w := hb ▸ h
set_option maxRecDepth 100000 in
set_option maxHeartbeats 4000000 in
theorem WalLasts_c (l : List (Sli UInt8)) (ql : Option Addr) (cl : Nat) (lt : List (Sli UInt8)) (qlt : Option Addr) (clt : Nat) (ps : List Int) (qps : Option Addr) (cps : Nat) {W : World} {R : List HP} {w : World} (hS : Sat W (R) w) (hl9 : l.length ≤ 140737488351232) (hv : ∀ w, Sat W R w → BB w ql l) (hl9t : lt.length ≤ 140737488351232) (hvt : ∀ w, Sat W R w → BB w qlt lt) (hps : ps.length ≤ 140737488351232) (hvps : ∀ w, Sat W R w → SlAt w qps ps.length 1 (i64s ps)) : Calls Try.prog 4 [.slice ql l.length cl, .slice qlt lt.length clt, .slice qps ps.length cps].toArray w (Ret fun v w' => v = .bool true ∧ Sat W R w') := by
  refine fn_start 123 Try.func4 rfl rfl rfl ?_
  intro a hf
  refine c_seq ?_
  refine c_region ?_
  refine step_l (st_rd hf (Wn.none rfl) (rd_assign hf rfl rfl) hS rfl rfl ?_)
  clear hf; intro a hf
  refine done_l ?_
  refine t_normal ?_
  refine c_seq ?_
  refine c_region ?_
  refine step_l (st_call hf (Wn.none rfl) rfl rfl rfl fn10 (DNew_c _ hS) rfl rfl ?_)
  clear hf hS; rintro v a w ⟨pd, rfl, hS⟩ hf; rw [show max 0 (min (60000 : Int) 1048576) = 60000 by omega] at hS
  refine step_l (st_rd hf (Wn.none rfl) (rd_assign hf rfl rfl) hS rfl rfl ?_)
  clear hf; intro a hf
  refine done_l ?_
  refine t_normal ?_
  refine c_seq ?_
  refine c_region ?_
  refine step_l (st_rd hf (Wn.none rfl) (rd_move hf rfl rfl) hS rfl rfl ?_)
  clear hf; intro a hf
  refine step_l (st_call hf (Wn.none rfl) rfl rfl rfl fn13 (small_c l _ _ _ hS rfl (by omega) (fun _ h => hv _ (h.sub (by repeat (first | exact Sub.refl | exact Sub.none | exact Sub.behind | (apply Sub.cons; (focus ((repeat (first | exact Sel.head | apply Sel.tail)); done))) | apply Sub.skip))))) rfl rfl ?_)
  clear hf hS; rintro v a w ⟨qs1, caps1, rfl, hS⟩ hf; obtain ⟨M, hMM⟩ : ∃ M, M = smallW l := ⟨_, rfl⟩; rw [← hMM] at hf hS; have hkM := SmW.of hMM; have hfaM := hkM.all; have hmlM := hkM.len
  refine step_l (st_rd hf (Wn.none rfl) (rd_assign hf rfl rfl) hS rfl rfl ?_)
  clear hf; intro a hf
  refine done_l ?_
  refine t_normal ?_
  refine c_seq ?_
  refine c_region ?_
  refine step_l (st_rd hf (Wn.none rfl) (rd_assign hf rfl rfl) hS rfl rfl ?_)
  clear hf; intro a hf
  refine done_l ?_
  refine t_normal ?_
  refine c_seq ?_
  refine c_region ?_
  refine step_l (st_rd hf (Wn.none rfl) (rd_assign hf rfl rfl) hS rfl rfl ?_)
  clear hf; intro a hf
  refine done_l ?_
  refine t_normal ?_
  refine c_seq ?_
  refine c_seq ?_
  refine c_region ?_
  refine step_l (st_rd hf (Wn.none rfl) (rd_assign hf rfl rfl) hS rfl rfl ?_)
  clear hf; intro a hf
  refine done_l ?_
  refine t_normal ?_
  refine c_block ?_
  have hk0 := Keep.of hf [(6, 6), (9, 17), (24, 106)] (by repeat (first | exact Keep.nil | apply Keep.drop rfl | apply Keep.take rfl))
  refine c_loopK hk0 (α := Nat × Nat × Option Addr × Nat × List UInt8 × Nat) (fun ⟨rd, at_, q, cap, t, s⟩ => [(9, .slice q at_ cap), (10, .int .i64 (at_ : Nat)), (11, .int .i64 (rd : Nat))]) (fun ⟨rd, at_, q, cap, t, s⟩ w => Sat W (Rw 23 1 qs1 M.length caps1 (M.map sval) :: Rw 23 1 q at_ cap ((M.take at_).map sval) :: DkP 5 56 pd 60000 ((frs ((byts M).take at_)) ++ t) s :: R) w ∧ rd ≤ 6 ∧ at_ ≤ M.length ∧ Torn t ∧ (frs ((byts M).take at_)).length ≤ s ∧ s ≤ ((frs ((byts M).take at_)) ++ t).length) (fun ⟨rd, at_, q, cap, t, s⟩ => 6 - rd) (0, 0, none, 0, [], 0) ((((hf.keep hk0).kb hf 11 rfl (by first | rfl | exact int_eq (by omega))).kb hf 10 rfl (by first | rfl | exact int_eq (by omega))).kb hf 9 rfl (by first | rfl | exact int_eq (by omega))) ⟨(hS.rwNil 23 1).sub (by repeat (first | exact Sub.refl | exact Sub.none | exact Sub.behind | (apply Sub.cons; (focus ((repeat (first | exact Sel.head | apply Sel.tail)); done))) | apply Sub.skip)), ⟨by omega, by omega, Torn.nil, by simp [frs], by simp [frs]⟩⟩ ?_
  clear hf hS; rintro ⟨rd, at_, q, cap, t, s⟩ a w hf ⟨hS, ⟨hrd, hat, htn, hs1, hs2⟩⟩; (try dsimp only [List.cons_append, List.nil_append] at hf)
  have hfr := hkM.fr at_; have hbig : ∀ r ∈ (byts M).take at_, r.length ≤ 60000 := fun r hr => hkM.big r (List.mem_of_mem_take hr)
  refine c_seq ?_
  refine c_seq ?_
  refine c_region ?_
  refine step_l (st_rd hf (Wn.none rfl) (rd_move hf rfl rfl) hS rfl rfl ?_)
  clear hf; intro a hf
  refine step_l (st_rdB hf (Wn.none rfl) (rd_lss hf rfl rfl rfl) hS rfl rfl ?_ ?_)
  · clear hf; intro hc1 a hf
    first
    | (first | exact Bool.noConfusion hc1 | exact absurd rfl hc1; done)
    | (
      refine done_l ?_
      refine t_normal ?_
      refine c_true hf rfl ?_
      refine c_skip ?_
      refine t_normal ?_
      refine c_seq ?_
      refine c_block ?_
      refine c_seq ?_
      obtain ⟨w1, w2⟩ := w_frs hbig htn.e; have hbl : ((frs ((byts M).take at_)) ++ t).length ≤ 100000000 := by obtain ⟨y, k, hy, hk, rfl⟩ := htn; rw [List.length_append, List.length_take]; omega
      refine c_region ?_
      refine step_l (st_rd hf (Wn.none rfl) (rd_move hf rfl rfl) hS rfl rfl ?_)
      clear hf; intro a hf
      refine step_l (st_call hf (Wn.none rfl) rfl rfl rfl fn11 (OpenOk_c _ _ ((frs ((byts M).take at_)) ++ t) _ (hS.sel (by repeat (first | exact Sel.head | apply Sel.tail))) (by omega) (by rw [w1])) rfl rfl ?_)
      clear hf hS; rintro v a w ⟨g2, q2, cap2, L2, h2, rfl, hS⟩ hf; rw [w1] at h2; rw [w2, wS_torn hbig htn.e hs1 hs2] at hS; have hl2 : L2.length = at_ := (byts_len_eq h2).trans (by rw [List.length_take, byts_len]; omega); rw [hl2] at hf hS
      refine step_l (st_rd hf (Wn.none rfl) (rd_move hf rfl rfl) hS rfl rfl ?_)
      clear hf; intro a hf
      refine step_l (st_rd hf (Wn.none rfl) (rd_extract hf rfl rfl rfl) hS rfl rfl ?_)
      clear hf; intro a hf
      refine step_l (st_rd hf (Wn.none rfl) (rd_extract hf rfl rfl rfl) hS rfl rfl ?_)
      clear hf; intro a hf
      refine step_l (st_rd hf (Wn.none rfl) (rd_extract hf rfl rfl rfl) hS rfl rfl ?_)
      clear hf; intro a hf
      refine step_l (st_rd hf (Wn.none rfl) (rd_assign hf rfl rfl) hS rfl rfl ?_)
      clear hf; intro a hf
      refine step_l (st_rd hf (Wn.none rfl) (rd_assign hf rfl rfl) hS rfl rfl ?_)
      clear hf; intro a hf
      refine step_l (st_rd hf (Wn.none rfl) (rd_assign hf rfl rfl) hS rfl rfl ?_)
      clear hf; intro a hf
      refine done_l ?_
      refine t_normal ?_
      refine c_seq ?_
      refine c_seq ?_
      refine c_region ?_
      refine step_l (st_rd hf (Wn.none rfl) (rd_move hf rfl rfl) hS rfl rfl ?_)
      clear hf; intro a hf
      refine step_l (st_rdB hf (Wn.none rfl) (rd_neq hf rfl rfl rfl) hS rfl rfl ?_ ?_)
      · clear hf; intro hc2 a hf
        exact absurd rfl hc2
      · clear hf; intro hc2 a hf
        first
        | (first | exact Bool.noConfusion hc2 | exact absurd rfl hc2; done)
        | (
          refine step_l (st_rd hf (Wn.none rfl) (rd_move hf rfl rfl) hS rfl rfl ?_)
          clear hf; intro a hf
          refine step_l (st_rd hf (Wn.some hf rfl rfl rfl rfl) (rd_move hf rfl rfl) hS rfl rfl ?_)
          clear hf; intro a hf
          refine step_l (st_rdb hf (Wn.some hf rfl rfl rfl rfl) (rd_eqlNilP hf rfl rfl rfl Try.underlying26) hS rfl rfl ?_ ?_)
          · clear hf; intro hc3 a hf
            first
            | (first | exact Bool.noConfusion hc3 | exact absurd rfl hc3; done)
            | (
              refine step_l (st_rd hf (Wn.none rfl) (rd_pick_f hf rfl rfl rfl) hS rfl rfl ?_)
              clear hf; intro a hf
              refine step_l (st_rd hf (Wn.none rfl) (rd_move hf rfl rfl) hS rfl rfl ?_)
              clear hf; intro a hf
              refine step_l (st_skip hf (Wn.some hf rfl rfl rfl rfl) rfl rfl ?_)
              clear hf; intro a hf
              refine step_l (st_skip hf (Wn.some hf rfl rfl rfl rfl) rfl rfl ?_)
              clear hf; intro a hf
              refine step_l (st_skip hf (Wn.some hf rfl rfl rfl rfl) rfl rfl ?_)
              clear hf; intro a hf
              refine step_l (st_skip hf (Wn.some hf rfl rfl rfl rfl) rfl rfl ?_)
              clear hf; intro a hf
              refine step_l (st_rd hf (Wn.none rfl) (rd_pick_t hf rfl rfl rfl) hS rfl rfl ?_)
              clear hf; intro a hf
              refine done_l ?_
              refine t_normal ?_
              refine c_true hf rfl ?_
              refine c_seq ?_
              refine c_region ?_
              refine step_l (st_rd hf (Wn.none rfl) (rd_assign hf rfl rfl) hS rfl rfl ?_)
              clear hf; intro a hf
              refine done_l ?_
              refine t_normal ?_
              refine c_ret ?_
              refine t_ret ?_
              refine b_ret ?_
              refine t_ret ?_
              refine t_ret ?_
              refine b_ret ?_
              refine t_ret ?_
              refine e_res1 hf.defers rfl (res_tmp hf rfl .nil) ?_
              exact ⟨rfl, hS.sub (by repeat (first | exact Sub.refl | exact Sub.none | exact Sub.behind | (apply Sub.cons; (focus ((repeat (first | exact Sel.head | apply Sel.tail)); done))) | apply Sub.skip))⟩
              )
          · clear hf; intro hc3 a hf
            first
            | (first | exact Bool.noConfusion hc3 | exact absurd rfl hc3; done)
            | (
              refine step_l (st_rd hf (Wn.none rfl) (rd_pick_f hf rfl rfl rfl) hS rfl rfl ?_)
              clear hf; intro a hf
              refine step_l (st_rd hf (Wn.none rfl) (rd_move hf rfl rfl) hS rfl rfl ?_)
              clear hf; intro a hf
              refine step_l (st_rd hf (Wn.some hf rfl rfl rfl rfl) (rd_move hf rfl rfl) hS rfl rfl ?_)
              clear hf; intro a hf
              refine step_l (st_rd hf (Wn.some hf rfl rfl rfl rfl) (rd_move hf rfl rfl) hS rfl rfl ?_)
              clear hf; intro a hf
              refine step_l (st_call hf (Wn.some hf rfl rfl rfl rfl) rfl rfl rfl fn17 (SameBytes_c L2 _ _ _ (M.take at_) _ _ _ hS hl2.symm (by rw [List.length_take]; omega) (by omega) (fun _ h => BB.mk (by rw [hl2]; exact h.slOfRw (xs := L2.map sval) (by repeat (first | exact Sel.head | apply Sel.tail))) (h.rws (L := L2) (by repeat (first | exact Sel.head | apply Sel.tail)))) (fun _ h => (by have hm := h.slOfRw (xs := (M.take at_).map sval) (by repeat (first | exact Sel.head | apply Sel.tail)); exact BB.sub (hv _ (h.sub (by repeat (first | exact Sub.refl | exact Sub.none | exact Sub.behind | (apply Sub.cons; (focus ((repeat (first | exact Sel.head | apply Sel.tail)); done))) | apply Sub.skip)))) (by rw [List.length_take, Nat.min_eq_left hat]; exact hm) (fun z hz => hkM.sub z (List.mem_of_mem_take hz))))) rfl rfl ?_)
              clear hf hS; rintro v a w ⟨rfl, hS⟩ hf; rw [decide_eq_true (h2.trans (byts_takeM M at_).symm)] at hf
              first | refine split_dec (d := 43) hf rfl ?_ ?_ | refine split_bool (d := 43) hf rfl ?_ ?_
              · clear hf; intro hc4 hf
                first
                | (first | exact Bool.noConfusion hc4 | exact absurd rfl hc4; done)
                | (
                  refine step_l (st_rd hf (Wn.some hf rfl rfl rfl rfl) (rd_not hf rfl rfl) hS rfl rfl ?_)
                  clear hf; intro a hf
                  refine step_l (st_rd hf (Wn.none rfl) (rd_pick_f hf rfl rfl rfl) hS rfl rfl ?_)
                  clear hf; intro a hf
                  refine done_l ?_
                  refine t_normal ?_
                  refine c_false hf rfl ?_
                  refine c_skip ?_
                  refine t_normal ?_
                  refine c_seq ?_
                  refine c_seq ?_
                  refine c_region ?_
                  refine step_l (st_rd hf (Wn.none rfl) (rd_assign hf rfl rfl) hS rfl rfl ?_)
                  clear hf; intro a hf
                  refine done_l ?_
                  refine t_normal ?_
                  refine c_block ?_
                  have hk1 := Keep.of hf [(6, 6), (9, 10), (15, 16), (46, 72)] (by repeat (first | exact Keep.nil | apply Keep.drop rfl | apply Keep.take rfl))
                  refine c_loopK hk1 (α := Nat × Nat × Option Addr × Nat) (fun ⟨kk, at_, q, cap⟩ => [(9, .slice q at_ cap), (10, .int .i64 (at_ : Nat)), (15, .int .i64 (kk : Nat))]) (fun ⟨kk, at_, q, cap⟩ w => Sat W (Rw 23 1 qs1 M.length caps1 (M.map sval) :: Rw 23 1 q at_ cap ((M.take at_).map sval) :: Blk g2 [.pointer (some ⟨pd, 0, none⟩), .int .i64 (at_ : Nat)] 59 :: DkP 5 56 pd 60000 (frs ((byts M).take at_)) (frs ((byts M).take at_)).length :: R) w ∧ kk ≤ 4 ∧ at_ ≤ M.length) (fun ⟨kk, at_, q, cap⟩ => 4 - kk) (0, at_, q, cap) ((((hf.keep hk1).kb hf 15 rfl (by first | rfl | exact int_eq (by omega))).kb hf 10 rfl (by first | rfl | exact int_eq (by omega))).kb hf 9 rfl (by first | rfl | exact int_eq (by omega))) ⟨hS.sub (by repeat (first | exact Sub.refl | exact Sub.none | exact Sub.behind | (apply Sub.cons; (focus ((repeat (first | exact Sel.head | apply Sel.tail)); done))) | apply Sub.skip)), ⟨by omega, hat⟩⟩ ?_
                  clear hf hS; rintro ⟨kk, at_, q, cap⟩ a w hf ⟨hS, ⟨hkk, hat⟩⟩; (try dsimp only [List.cons_append, List.nil_append] at hf)
                  have hfr := hkM.fr at_
                  refine c_seq ?_
                  refine c_seq ?_
                  refine c_region ?_
                  refine step_l (st_rd hf (Wn.none rfl) (rd_move hf rfl rfl) hS rfl rfl ?_)
                  clear hf; intro a hf
                  refine step_l (st_rdB hf (Wn.none rfl) (rd_lss hf rfl rfl rfl) hS rfl rfl ?_ ?_)
                  · clear hf; intro hc5 a hf
                    first
                    | (first | exact Bool.noConfusion hc5 | exact absurd rfl hc5; done)
                    | (
                      refine step_l (st_rd hf (Wn.none rfl) (rd_move hf rfl rfl) hS rfl rfl ?_)
                      clear hf; intro a hf
                      refine step_l (st_rd hf (Wn.some hf rfl rfl rfl rfl) (rd_move hf rfl rfl) hS rfl rfl ?_)
                      clear hf; intro a hf
                      refine step_l (st_rd hf (Wn.some hf rfl rfl rfl rfl) (rd_move hf rfl rfl) hS rfl rfl ?_)
                      clear hf; intro a hf
                      refine step_l (st_rd hf (Wn.some hf rfl rfl rfl rfl) (rd_len hf rfl rfl Try.underlying22) hS rfl rfl ?_)
                      clear hf; intro a hf
                      refine step_l (st_rdB hf (Wn.some hf rfl rfl rfl rfl) (rd_lss hf rfl rfl rfl) hS rfl rfl ?_ ?_)
                      · clear hf; intro hc6 a hf
                        obtain ⟨x, hget⟩ := get_of_lt (l := M) (k := at_) (by omega) rfl; obtain ⟨ad, rfl⟩ := (hS.slOfRw (xs := M.map sval) (by repeat (first | exact Sel.head | apply Sel.tail))).some (by omega); have hx5 := hkM.row x (List.mem_of_getElem? hget); have hfr2 := hkM.fr (at_ + 1)
                        first
                        | (first | exact Bool.noConfusion hc6 | exact absurd rfl hc6; done)
                        | (
                          refine step_l (st_rd hf (Wn.none rfl) (rd_pick_t hf rfl rfl rfl) hS rfl rfl ?_)
                          clear hf; intro a hf
                          refine done_l ?_
                          refine t_normal ?_
                          refine c_true hf rfl ?_
                          refine c_skip ?_
                          refine t_normal ?_
                          refine c_seq ?_
                          refine c_block ?_
                          refine c_seq ?_
                          refine c_seq ?_
                          refine c_region ?_
                          refine step_l (st_rd hf (Wn.none rfl) (rd_move hf rfl rfl) hS rfl rfl ?_)
                          clear hf; intro a hf
                          refine step_l (st_rd hf (Wn.none rfl) (rd_move hf rfl rfl) hS rfl rfl ?_)
                          clear hf; intro a hf
                          refine step_l (st_rd hf (Wn.none rfl) (rd_move hf rfl rfl) hS rfl rfl ?_)
                          clear hf; intro a hf
                          refine step_l (st_rd hf (Wn.none rfl) ((by first | exact rd_indexAddrN1 hf rfl rfl rfl Try.underlying22 sz23 (by omega) | exact rd_indexAddr hf rfl rfl rfl Try.underlying22 sz23 (by first | decide | omega) (by omega))) hS rfl rfl ?_)
                          clear hf; intro a hf
                          refine step_l (st_rd hf (Wn.none rfl) (rd_load1 hf rfl rfl ag23 (by intro _ h; exact (h.slOfRw (xs := M.map sval) (by repeat (first | exact Sel.head | apply Sel.tail))).get (u := sval x) (by simp [hget]))) hS rfl rfl ?_)
                          clear hf; intro a hf
                          refine step_l (st_call hf (Wn.none rfl) rfl rfl rfl fn14 (WAppend_c _ _ _ _ _ _ x.2.2 _ _ _ (hS.sels (.cons (by repeat (first | exact Sel.head | apply Sel.tail)) (.cons (by repeat (first | exact Sel.head | apply Sel.tail)) .nil))) (by omega) (by omega) (by omega) rfl (fun _ h => (hv _ (h.sub (by repeat (first | exact Sub.refl | exact Sub.none | exact Sub.behind | (apply Sub.cons; (focus ((repeat (first | exact Sel.head | apply Sel.tail)); done))) | apply Sub.skip)))).row x (hkM.sub x (List.mem_of_getElem? hget)))) rfl rfl ?_)
                          clear hf hS; rintro v a w ⟨rfl, hS⟩ hf; have he : aE 60000 (frs ((byts M).take at_)) x.2.2 = 0 := a_fit (by omega) (by omega); obtain ⟨e1, e2, e3⟩ := a_yes (n := at_) (s := (frs ((byts M).take at_)).length) he; rw [he] at hf; rw [e1, e2, e3, ← frs_step hget] at hS
                          refine step_l (st_rd hf (Wn.none rfl) (rd_assign hf rfl rfl) hS rfl rfl ?_)
                          clear hf; intro a hf
                          refine done_l ?_
                          refine t_normal ?_
                          refine c_seq ?_
                          refine c_region ?_
                          refine step_l (st_rd hf (Wn.none rfl) (rd_move hf rfl rfl) hS rfl rfl ?_)
                          clear hf; intro a hf
                          refine step_l (st_rdB hf (Wn.none rfl) (rd_neq hf rfl rfl rfl) hS rfl rfl ?_ ?_)
                          · clear hf; intro hc7 a hf
                            exact absurd rfl hc7
                          · clear hf; intro hc7 a hf
                            first
                            | (first | exact Bool.noConfusion hc7 | exact absurd rfl hc7; done)
                            | (
                              refine done_l ?_
                              refine t_normal ?_
                              refine c_false hf rfl ?_
                              refine c_skip ?_
                              refine t_normal ?_
                              refine c_seq ?_
                              refine c_region ?_
                              refine step_l (st_rd hf (Wn.none rfl) (rd_move hf rfl rfl) hS rfl rfl ?_)
                              clear hf; intro a hf
                              refine step_l (st_rd hf (Wn.none rfl) (rd_move hf rfl rfl) hS rfl rfl ?_)
                              clear hf; intro a hf
                              refine step_l (st_rd hf (Wn.none rfl) (rd_move hf rfl rfl) hS rfl rfl ?_)
                              clear hf; intro a hf
                              refine step_l (st_rd hf (Wn.none rfl) ((by first | exact rd_indexAddrN1 hf rfl rfl rfl Try.underlying22 sz23 (by omega) | exact rd_indexAddr hf rfl rfl rfl Try.underlying22 sz23 (by first | decide | omega) (by omega))) hS rfl rfl ?_)
                              clear hf; intro a hf
                              refine step_l (st_rd hf (Wn.none rfl) (rd_load1 hf rfl rfl ag23 (by intro _ h; exact (h.slOfRw (xs := M.map sval) (by repeat (first | exact Sel.head | apply Sel.tail))).get (u := sval x) (by simp [hget]))) hS rfl rfl ?_)
                              clear hf; intro a hf
                              refine step_l (st_buildSlice hf (Wn.none rfl) hS rfl rfl Try.underlying22 sz23 zr23 (by decide) bz23_1 rfl (.cons rfl (by first | rfl) (by rfl) (by repeat (first | exact Put.nil | apply Put.cons | apply Put.succ)) .nil) rfl rfl ?_)
                              clear hf hS; intro b_8 a w hf hS
                              refine step_l (st_append hf (Wn.none rfl) rfl rfl rfl Try.underlying22 tyb23 (by rfl) (by decide) hS (by repeat (first | exact Sel.head | apply Sel.tail)) (by first | exact hS.slOfBlk (by repeat (first | exact Sel.head | apply Sel.tail)) (by rfl) | exact hS.slOfBlkPre (by repeat (first | exact Sel.head | apply Sel.tail)) (bvs_len1 _) | exact hS.slOfRw (by repeat (first | exact Sel.head | apply Sel.tail)) | exact SlAt.nil _ _ _) (by first | rfl | exact bvs_one _ | (simp [Value.oneCell']; done) | exact svs_one _) (by omega) rfl rfl ?_)
                              clear hf hS; intro pA capA a w hf hS hnilA
                              refine step_l (st_rd hf (Wn.none rfl) (rd_assign hf rfl rfl) hS rfl rfl ?_)
                              clear hf; intro a hf
                              refine done_l ?_
                              refine t_normal ?_
                              refine c_region ?_
                              refine step_l (st_rd hf (Wn.none rfl) (rd_move hf rfl rfl) hS rfl rfl ?_)
                              clear hf; intro a hf
                              refine step_l (st_rd hf (Wn.none rfl) (rd_add hf rfl rfl rfl (by first | exact Go.IntWalk.i64_in _ (by omega) | exact rfl)) hS rfl rfl ?_)
                              clear hf; intro a hf
                              refine step_l (st_rd hf (Wn.none rfl) (rd_assign hf rfl rfl) hS rfl rfl ?_)
                              clear hf; intro a hf
                              refine done_l ?_
                              refine b_normal ?_
                              refine t_normal ?_
                              refine c_region ?_
                              refine step_l (st_rd hf (Wn.none rfl) (rd_move hf rfl rfl) hS rfl rfl ?_)
                              clear hf; intro a hf
                              refine step_l (st_rd hf (Wn.none rfl) (rd_add hf rfl rfl rfl (by first | exact Go.IntWalk.i64_in _ (by omega) | exact rfl)) hS rfl rfl ?_)
                              clear hf; intro a hf
                              refine step_l (st_rd hf (Wn.none rfl) (rd_assign hf rfl rfl) hS rfl rfl ?_)
                              clear hf; intro a hf
                              refine done_l ?_
                              refine t_normal ⟨(kk + 1, at_ + 1, pA, capA), ((((hf.back (by repeat (first | exact Behind.refl | refine Behind.skip rfl ?_)) hk1).kb hf 15 rfl (by first | rfl | exact int_eq (by omega))).kb hf 10 rfl (by first | rfl | exact int_eq (by omega))).kb hf 9 rfl (by first | rfl | exact int_eq (by omega))), ⟨((hS.sel (by repeat (first | exact Sel.head | apply Sel.tail)) : Sat W (Rw 23 1 pA (at_ + 1) capA _ :: _) _).rwCast (xs' := (M.take (at_ + 1)).map sval) (by rw [take_succ_get hget]; simp) rfl).sub (by repeat (first | exact Sub.refl | exact Sub.none | exact Sub.behind | (apply Sub.cons; (focus ((repeat (first | exact Sel.head | apply Sel.tail)); done))) | apply Sub.skip)), ⟨by omega, by omega⟩⟩, by first | omega | (simp only []; omega)⟩
                              )
                          )
                      · clear hf; intro hc6 a hf
                        first
                        | (first | exact Bool.noConfusion hc6 | exact absurd rfl hc6; done)
                        | (
                          refine step_l (st_rd hf (Wn.none rfl) (rd_pick_t hf rfl rfl rfl) hS rfl rfl ?_)
                          clear hf; intro a hf
                          refine done_l ?_
                          refine t_normal ?_
                          refine c_false hf rfl ?_
                          refine c_exit ?_
                          refine t_exit ?_
                          refine t_exit ?_
                          refine b_exit ?_
                          refine t_normal ?_
                          refine c_seq ?_
                          refine c_seq ?_
                          refine c_region ?_
                          refine step_l (st_rd hf (Wn.none rfl) (rd_move hf rfl rfl) hS rfl rfl ?_)
                          clear hf; intro a hf
                          refine step_l (st_rd hf (Wn.none rfl) (rd_move hf rfl rfl) hS rfl rfl ?_)
                          clear hf; intro a hf
                          refine step_l (st_rd hf (Wn.none rfl) (rd_len hf rfl rfl Try.underlying22) hS rfl rfl ?_)
                          clear hf; intro a hf
                          refine step_l (st_rdB hf (Wn.none rfl) (rd_lss hf rfl rfl rfl) hS rfl rfl ?_ ?_)
                          · clear hf; intro hc10 a hf
                            obtain ⟨y, hgy⟩ := get_of_lt (l := lt) (k := rd) (by omega) rfl; obtain ⟨adt, rfl⟩ := (hvt _ (hS.sub (by repeat (first | exact Sub.refl | exact Sub.none | exact Sub.behind | (apply Sub.cons; (focus ((repeat (first | exact Sel.head | apply Sel.tail)); done))) | apply Sub.skip)))).at'.some (by omega)
                            first
                            | (first | exact Bool.noConfusion hc10 | exact absurd rfl hc10; done)
                            | (
                              refine step_l (st_rd hf (Wn.none rfl) (rd_move hf rfl rfl) hS rfl rfl ?_)
                              clear hf; intro a hf
                              refine step_l (st_rd hf (Wn.some hf rfl rfl rfl rfl) (rd_move hf rfl rfl) hS rfl rfl ?_)
                              clear hf; intro a hf
                              refine step_l (st_rd hf (Wn.some hf rfl rfl rfl rfl) (rd_move hf rfl rfl) hS rfl rfl ?_)
                              clear hf; intro a hf
                              refine step_l (st_rd hf (Wn.some hf rfl rfl rfl rfl) ((by first | exact rd_indexAddrN1 hf rfl rfl rfl Try.underlying22 sz23 (by omega) | exact rd_indexAddr hf rfl rfl rfl Try.underlying22 sz23 (by first | decide | omega) (by omega))) hS rfl rfl ?_)
                              clear hf; intro a hf
                              refine step_l (st_rd hf (Wn.some hf rfl rfl rfl rfl) (rd_load1 hf rfl rfl ag23 (by intro _ h; exact (hvt _ (h.sub (by repeat (first | exact Sub.refl | exact Sub.none | exact Sub.behind | (apply Sub.cons; (focus ((repeat (first | exact Sel.head | apply Sel.tail)); done))) | apply Sub.skip)))).get hgy)) hS rfl rfl ?_)
                              clear hf; intro a hf
                              refine step_l (st_rd hf (Wn.some hf rfl rfl rfl rfl) (rd_len hf rfl rfl Try.underlying23) hS rfl rfl ?_)
                              clear hf; intro a hf
                              refine step_l (st_rdB hf (Wn.some hf rfl rfl rfl rfl) (rd_lss hf rfl rfl rfl) hS rfl rfl ?_ ?_)
                              · clear hf; intro hc11 a hf
                                first
                                | (first | exact Bool.noConfusion hc11 | exact absurd rfl hc11; done)
                                | (
                                  refine step_l (st_rd hf (Wn.none rfl) (rd_pick_t hf rfl rfl rfl) hS rfl rfl ?_)
                                  clear hf; intro a hf
                                  refine done_l ?_
                                  refine t_normal ?_
                                  refine c_true hf rfl ?_
                                  refine c_seq ?_
                                  refine c_region ?_
                                  refine step_l (st_rd hf (Wn.none rfl) (rd_move hf rfl rfl) hS rfl rfl ?_)
                                  clear hf; intro a hf
                                  refine step_l (st_rd hf (Wn.none rfl) (rd_move hf rfl rfl) hS rfl rfl ?_)
                                  clear hf; intro a hf
                                  refine step_l (st_rd hf (Wn.none rfl) ((by first | exact rd_indexAddrN1 hf rfl rfl rfl Try.underlying22 sz23 (by omega) | exact rd_indexAddr hf rfl rfl rfl Try.underlying22 sz23 (by first | decide | omega) (by omega))) hS rfl rfl ?_)
                                  clear hf; intro a hf
                                  refine step_l (st_rd hf (Wn.none rfl) (rd_load1 hf rfl rfl ag23 (by intro _ h; exact (hvt _ (h.sub (by repeat (first | exact Sub.refl | exact Sub.none | exact Sub.behind | (apply Sub.cons; (focus ((repeat (first | exact Sel.head | apply Sel.tail)); done))) | apply Sub.skip)))).get hgy)) hS rfl rfl ?_)
                                  clear hf; intro a hf
                                  refine step_l (st_call hf (Wn.none rfl) rfl rfl rfl fn18 (RFrame_c y.2.2 _ _ _ hS rfl (by omega) (fun _ h => (hvt _ (h.sub (by repeat (first | exact Sub.refl | exact Sub.none | exact Sub.behind | (apply Sub.cons; (focus ((repeat (first | exact Sel.head | apply Sel.tail)); done))) | apply Sub.skip)))).sl hgy)) rfl rfl ?_)
                                  clear hf hS; rintro v a w ⟨qf, capf, rfl, hS⟩ hf; have hfl := frB_len y.2.2; have hfc := (hS.rwLen (xs := bvs (frB y.2.2)) (by repeat (first | exact Sel.head | apply Sel.tail))).2.1
                                  refine step_l (st_rd hf (Wn.none rfl) (rd_assign hf rfl rfl) hS rfl rfl ?_)
                                  clear hf; intro a hf
                                  refine done_l ?_
                                  refine t_normal ?_
                                  refine c_region ?_
                                  refine step_l (st_rd hf (Wn.none rfl) (rd_move hf rfl rfl) hS rfl rfl ?_)
                                  clear hf; intro a hf
                                  refine step_l (st_rd hf (Wn.none rfl) (rd_move hf rfl rfl) hS rfl rfl ?_)
                                  clear hf; intro a hf
                                  refine step_l (st_rd hf (Wn.none rfl) (rd_move hf rfl rfl) hS rfl rfl ?_)
                                  clear hf; intro a hf
                                  refine step_l (st_rd hf (Wn.none rfl) (rd_len hf rfl rfl Try.underlying23) hS rfl rfl ?_)
                                  clear hf; intro a hf
                                  refine step_l (st_rd hf (Wn.none rfl) (rd_sub hf rfl rfl rfl (i64_sub (n := 1) (by omega) (by omega))) hS rfl rfl ?_)
                                  clear hf; intro a hf
                                  refine step_l (st_rd hf (Wn.none rfl) (rd_sliceH hf rfl rfl rfl Try.underlying23 sz5 (by omega) (by omega)) hS rfl rfl ?_)
                                  clear hf; intro a hf
                                  refine step_l (st_call hf (Wn.none rfl) rfl rfl rfl fn15 (DAppend_c _ 60000 (frs ((byts M).take at_)) _ ((frB y.2.2).take ((frB y.2.2).length - 1)) _ _ _ (hS.sel (by repeat (first | exact Sel.head | apply Sel.tail))) (by rw [List.length_take]; omega) (by omega) (by omega) (fun _ h => take1 (h.slOfRw (xs := bvs (frB y.2.2)) (by repeat (first | exact Sel.head | apply Sel.tail))) (by omega))) rfl rfl ?_)
                                  clear hf hS; rintro v a w ⟨rfl, hS⟩ hf; obtain ⟨d1, d2⟩ := dApp_fit (most := 60000) (b := (frs ((byts M).take at_))) (x := (frB y.2.2).take ((frB y.2.2).length - 1)) (by rw [List.length_take]; omega); rw [d1] at hS; obtain ⟨TL, htt⟩ : ∃ tt, tt = (frB y.2.2).take ((frB y.2.2).length - 1) := ⟨_, rfl⟩; rw [← htt] at hS; have hT : Torn TL := ⟨y.2.2, (frB y.2.2).length - 1, (by omega), (by omega), htt⟩
                                  refine done_l ?_
                                  refine t_normal ?_
                                  refine c_seq ?_
                                  refine c_region ?_
                                  refine step_l (st_rd hf (Wn.none rfl) (rd_move hf rfl rfl) hS rfl rfl ?_)
                                  clear hf; intro a hf
                                  refine step_l (st_rd hf (Wn.none rfl) (rd_move hf rfl rfl) hS rfl rfl ?_)
                                  clear hf; intro a hf
                                  refine step_l (st_rd hf (Wn.none rfl) (rd_len hf rfl rfl Try.underlying36) hS rfl rfl ?_)
                                  clear hf; intro a hf
                                  refine step_l (st_rdB hf (Wn.none rfl) (rd_lss hf rfl rfl rfl) hS rfl rfl ?_ ?_)
                                  · clear hf; intro hc12 a hf
                                    obtain ⟨pk, hgp⟩ := get_of_lt (l := ps) (k := rd) (by omega) rfl; obtain ⟨adp, rfl⟩ := (hvps _ (hS.sub (by repeat (first | exact Sub.refl | exact Sub.none | exact Sub.behind | (apply Sub.cons; (focus ((repeat (first | exact Sel.head | apply Sel.tail)); done))) | apply Sub.skip)))).some (by omega)
                                    first
                                    | (first | exact Bool.noConfusion hc12 | exact absurd rfl hc12; done)
                                    | (
                                      refine done_l ?_
                                      refine t_normal ?_
                                      refine c_true hf rfl ?_
                                      refine c_region ?_
                                      refine step_l (st_rd hf (Wn.none rfl) (rd_move hf rfl rfl) hS rfl rfl ?_)
                                      clear hf; intro a hf
                                      refine step_l (st_rd hf (Wn.none rfl) (rd_move hf rfl rfl) hS rfl rfl ?_)
                                      clear hf; intro a hf
                                      refine step_l (st_rd hf (Wn.none rfl) (rd_move hf rfl rfl) hS rfl rfl ?_)
                                      clear hf; intro a hf
                                      refine step_l (st_rd hf (Wn.none rfl) ((by first | exact rd_indexAddrN1 hf rfl rfl rfl Try.underlying36 sz3 (by omega) | exact rd_indexAddr hf rfl rfl rfl Try.underlying36 sz3 (by first | decide | omega) (by omega))) hS rfl rfl ?_)
                                      clear hf; intro a hf
                                      refine step_l (st_rd hf (Wn.none rfl) (rd_load1 hf rfl rfl ag3 (by intro _ h; exact (hvps _ (h.sub (by repeat (first | exact Sub.refl | exact Sub.none | exact Sub.behind | (apply Sub.cons; (focus ((repeat (first | exact Sel.head | apply Sel.tail)); done))) | apply Sub.skip)))).get (i64s_get hgp))) hS rfl rfl ?_)
                                      clear hf; intro a hf
                                      refine step_l (st_call hf (Wn.none rfl) rfl rfl rfl fn19 (DCrash_c _ _ ((frs ((byts M).take at_)) ++ TL) _ _ (hS.sel (by repeat (first | exact Sel.head | apply Sel.tail))) (by rw [List.length_append]; omega)) rfl rfl ?_)
                                      clear hf hS; rintro v a w ⟨rfl, hS⟩ hf; obtain ⟨hc1, hc2, hc3⟩ := crash_take (F := (frs ((byts M).take at_))) (t := TL) (s := (frs ((byts M).take at_)).length) pk (Nat.le_refl _) (by rw [List.length_append]; omega)
                                      refine done_l ?_
                                      refine b_normal ?_
                                      refine t_normal ?_
                                      refine c_region ?_
                                      refine step_l (st_rd hf (Wn.none rfl) (rd_move hf rfl rfl) hS rfl rfl ?_)
                                      clear hf; intro a hf
                                      refine step_l (st_rd hf (Wn.none rfl) (rd_add hf rfl rfl rfl (by first | exact Go.IntWalk.i64_in _ (by omega) | exact rfl)) hS rfl rfl ?_)
                                      clear hf; intro a hf
                                      refine step_l (st_rd hf (Wn.none rfl) (rd_assign hf rfl rfl) hS rfl rfl ?_)
                                      clear hf; intro a hf
                                      refine done_l ?_
                                      refine t_normal ⟨(rd + 1, at_, q, cap, (TL).take (dCraN ((frs ((byts M).take at_)) ++ TL) (frs ((byts M).take at_)).length pk - (frs ((byts M).take at_)).length), dCraN ((frs ((byts M).take at_)) ++ TL) (frs ((byts M).take at_)).length pk), ((((hf.back (by repeat (first | exact Behind.refl | refine Behind.skip rfl ?_)) hk0).kb hf 11 rfl (by first | rfl | exact int_eq (by omega))).kb hf 10 rfl (by first | rfl | exact int_eq (by omega))).kb hf 9 rfl (by first | rfl | exact int_eq (by omega))), ⟨(by rw [← hc1]; exact hS.sub (by repeat (first | exact Sub.refl | exact Sub.none | exact Sub.behind | (apply Sub.cons; (focus ((repeat (first | exact Sel.head | apply Sel.tail)); done))) | apply Sub.skip))), ⟨by omega, hat, hT.take _, hc2, Nat.le_of_eq hc3⟩⟩, by first | omega | (simp only []; omega)⟩
                                      )
                                  · clear hf; intro hc12 a hf
                                    first
                                    | (first | exact Bool.noConfusion hc12 | exact absurd rfl hc12; done)
                                    | (
                                      refine done_l ?_
                                      refine t_normal ?_
                                      refine c_false hf rfl ?_
                                      refine c_skip ?_
                                      refine b_normal ?_
                                      refine t_normal ?_
                                      refine c_region ?_
                                      refine step_l (st_rd hf (Wn.none rfl) (rd_move hf rfl rfl) hS rfl rfl ?_)
                                      clear hf; intro a hf
                                      refine step_l (st_rd hf (Wn.none rfl) (rd_add hf rfl rfl rfl (by first | exact Go.IntWalk.i64_in _ (by omega) | exact rfl)) hS rfl rfl ?_)
                                      clear hf; intro a hf
                                      refine step_l (st_rd hf (Wn.none rfl) (rd_assign hf rfl rfl) hS rfl rfl ?_)
                                      clear hf; intro a hf
                                      refine done_l ?_
                                      refine t_normal ⟨(rd + 1, at_, q, cap, TL, (frs ((byts M).take at_)).length), ((((hf.back (by repeat (first | exact Behind.refl | refine Behind.skip rfl ?_)) hk0).kb hf 11 rfl (by first | rfl | exact int_eq (by omega))).kb hf 10 rfl (by first | rfl | exact int_eq (by omega))).kb hf 9 rfl (by first | rfl | exact int_eq (by omega))), ⟨hS.sub (by repeat (first | exact Sub.refl | exact Sub.none | exact Sub.behind | (apply Sub.cons; (focus ((repeat (first | exact Sel.head | apply Sel.tail)); done))) | apply Sub.skip)), ⟨by omega, hat, hT, Nat.le_refl _, by rw [List.length_append]; omega⟩⟩, by first | omega | (simp only []; omega)⟩
                                      )
                                  )
                              · clear hf; intro hc11 a hf
                                obtain ⟨TL, hTL⟩ : ∃ tt : List UInt8, tt = [] := ⟨_, rfl⟩; have hT : Torn TL := by rw [hTL]; exact Torn.nil
                                replace hS := dk_cast (hS.sel (by repeat (first | exact Sel.head | apply Sel.tail)) : Sat W (DkP 5 56 pd 60000 (frs ((byts M).take at_)) (frs ((byts M).take at_)).length :: _) _) (show (frs ((byts M).take at_)) = (frs ((byts M).take at_)) ++ TL by rw [hTL, List.append_nil])
                                first
                                | (first | exact Bool.noConfusion hc11 | exact absurd rfl hc11; done)
                                | (
                                  refine step_l (st_rd hf (Wn.none rfl) (rd_pick_t hf rfl rfl rfl) hS rfl rfl ?_)
                                  clear hf; intro a hf
                                  refine done_l ?_
                                  refine t_normal ?_
                                  refine c_false hf rfl ?_
                                  refine c_skip ?_
                                  refine t_normal ?_
                                  refine c_seq ?_
                                  refine c_region ?_
                                  refine step_l (st_rd hf (Wn.none rfl) (rd_move hf rfl rfl) hS rfl rfl ?_)
                                  clear hf; intro a hf
                                  refine step_l (st_rd hf (Wn.none rfl) (rd_move hf rfl rfl) hS rfl rfl ?_)
                                  clear hf; intro a hf
                                  refine step_l (st_rd hf (Wn.none rfl) (rd_len hf rfl rfl Try.underlying36) hS rfl rfl ?_)
                                  clear hf; intro a hf
                                  refine step_l (st_rdB hf (Wn.none rfl) (rd_lss hf rfl rfl rfl) hS rfl rfl ?_ ?_)
                                  · clear hf; intro hc13 a hf
                                    obtain ⟨pk, hgp⟩ := get_of_lt (l := ps) (k := rd) (by omega) rfl; obtain ⟨adp, rfl⟩ := (hvps _ (hS.sub (by repeat (first | exact Sub.refl | exact Sub.none | exact Sub.behind | (apply Sub.cons; (focus ((repeat (first | exact Sel.head | apply Sel.tail)); done))) | apply Sub.skip)))).some (by omega)
                                    first
                                    | (first | exact Bool.noConfusion hc13 | exact absurd rfl hc13; done)
                                    | (
                                      refine done_l ?_
                                      refine t_normal ?_
                                      refine c_true hf rfl ?_
                                      refine c_region ?_
                                      refine step_l (st_rd hf (Wn.none rfl) (rd_move hf rfl rfl) hS rfl rfl ?_)
                                      clear hf; intro a hf
                                      refine step_l (st_rd hf (Wn.none rfl) (rd_move hf rfl rfl) hS rfl rfl ?_)
                                      clear hf; intro a hf
                                      refine step_l (st_rd hf (Wn.none rfl) (rd_move hf rfl rfl) hS rfl rfl ?_)
                                      clear hf; intro a hf
                                      refine step_l (st_rd hf (Wn.none rfl) ((by first | exact rd_indexAddrN1 hf rfl rfl rfl Try.underlying36 sz3 (by omega) | exact rd_indexAddr hf rfl rfl rfl Try.underlying36 sz3 (by first | decide | omega) (by omega))) hS rfl rfl ?_)
                                      clear hf; intro a hf
                                      refine step_l (st_rd hf (Wn.none rfl) (rd_load1 hf rfl rfl ag3 (by intro _ h; exact (hvps _ (h.sub (by repeat (first | exact Sub.refl | exact Sub.none | exact Sub.behind | (apply Sub.cons; (focus ((repeat (first | exact Sel.head | apply Sel.tail)); done))) | apply Sub.skip)))).get (i64s_get hgp))) hS rfl rfl ?_)
                                      clear hf; intro a hf
                                      refine step_l (st_call hf (Wn.none rfl) rfl rfl rfl fn19 (DCrash_c _ _ ((frs ((byts M).take at_)) ++ TL) _ _ (hS.sel (by repeat (first | exact Sel.head | apply Sel.tail))) (by rw [List.length_append]; omega)) rfl rfl ?_)
                                      clear hf hS; rintro v a w ⟨rfl, hS⟩ hf; obtain ⟨hc1, hc2, hc3⟩ := crash_take (F := (frs ((byts M).take at_))) (t := TL) (s := (frs ((byts M).take at_)).length) pk (Nat.le_refl _) (by rw [List.length_append]; omega)
                                      refine done_l ?_
                                      refine b_normal ?_
                                      refine t_normal ?_
                                      refine c_region ?_
                                      refine step_l (st_rd hf (Wn.none rfl) (rd_move hf rfl rfl) hS rfl rfl ?_)
                                      clear hf; intro a hf
                                      refine step_l (st_rd hf (Wn.none rfl) (rd_add hf rfl rfl rfl (by first | exact Go.IntWalk.i64_in _ (by omega) | exact rfl)) hS rfl rfl ?_)
                                      clear hf; intro a hf
                                      refine step_l (st_rd hf (Wn.none rfl) (rd_assign hf rfl rfl) hS rfl rfl ?_)
                                      clear hf; intro a hf
                                      refine done_l ?_
                                      refine t_normal ⟨(rd + 1, at_, q, cap, (TL).take (dCraN ((frs ((byts M).take at_)) ++ TL) (frs ((byts M).take at_)).length pk - (frs ((byts M).take at_)).length), dCraN ((frs ((byts M).take at_)) ++ TL) (frs ((byts M).take at_)).length pk), ((((hf.back (by repeat (first | exact Behind.refl | refine Behind.skip rfl ?_)) hk0).kb hf 11 rfl (by first | rfl | exact int_eq (by omega))).kb hf 10 rfl (by first | rfl | exact int_eq (by omega))).kb hf 9 rfl (by first | rfl | exact int_eq (by omega))), ⟨(by rw [← hc1]; exact hS.sub (by repeat (first | exact Sub.refl | exact Sub.none | exact Sub.behind | (apply Sub.cons; (focus ((repeat (first | exact Sel.head | apply Sel.tail)); done))) | apply Sub.skip))), ⟨by omega, hat, hT.take _, hc2, Nat.le_of_eq hc3⟩⟩, by first | omega | (simp only []; omega)⟩
                                      )
                                  · clear hf; intro hc13 a hf
                                    first
                                    | (first | exact Bool.noConfusion hc13 | exact absurd rfl hc13; done)
                                    | (
                                      refine done_l ?_
                                      refine t_normal ?_
                                      refine c_false hf rfl ?_
                                      refine c_skip ?_
                                      refine b_normal ?_
                                      refine t_normal ?_
                                      refine c_region ?_
                                      refine step_l (st_rd hf (Wn.none rfl) (rd_move hf rfl rfl) hS rfl rfl ?_)
                                      clear hf; intro a hf
                                      refine step_l (st_rd hf (Wn.none rfl) (rd_add hf rfl rfl rfl (by first | exact Go.IntWalk.i64_in _ (by omega) | exact rfl)) hS rfl rfl ?_)
                                      clear hf; intro a hf
                                      refine step_l (st_rd hf (Wn.none rfl) (rd_assign hf rfl rfl) hS rfl rfl ?_)
                                      clear hf; intro a hf
                                      refine done_l ?_
                                      refine t_normal ⟨(rd + 1, at_, q, cap, TL, (frs ((byts M).take at_)).length), ((((hf.back (by repeat (first | exact Behind.refl | refine Behind.skip rfl ?_)) hk0).kb hf 11 rfl (by first | rfl | exact int_eq (by omega))).kb hf 10 rfl (by first | rfl | exact int_eq (by omega))).kb hf 9 rfl (by first | rfl | exact int_eq (by omega))), ⟨hS.sub (by repeat (first | exact Sub.refl | exact Sub.none | exact Sub.behind | (apply Sub.cons; (focus ((repeat (first | exact Sel.head | apply Sel.tail)); done))) | apply Sub.skip)), ⟨by omega, hat, hT, Nat.le_refl _, by rw [List.length_append]; omega⟩⟩, by first | omega | (simp only []; omega)⟩
                                      )
                                  )
                              )
                          · clear hf; intro hc10 a hf
                            obtain ⟨TL, hTL⟩ : ∃ tt : List UInt8, tt = [] := ⟨_, rfl⟩; have hT : Torn TL := by rw [hTL]; exact Torn.nil
                            replace hS := dk_cast (hS.sel (by repeat (first | exact Sel.head | apply Sel.tail)) : Sat W (DkP 5 56 pd 60000 (frs ((byts M).take at_)) (frs ((byts M).take at_)).length :: _) _) (show (frs ((byts M).take at_)) = (frs ((byts M).take at_)) ++ TL by rw [hTL, List.append_nil])
                            first
                            | (first | exact Bool.noConfusion hc10 | exact absurd rfl hc10; done)
                            | (
                              refine step_l (st_rd hf (Wn.none rfl) (rd_move hf rfl rfl) hS rfl rfl ?_)
                              clear hf; intro a hf
                              refine step_l (st_skip hf (Wn.some hf rfl rfl rfl rfl) rfl rfl ?_)
                              clear hf; intro a hf
                              refine step_l (st_skip hf (Wn.some hf rfl rfl rfl rfl) rfl rfl ?_)
                              clear hf; intro a hf
                              refine step_l (st_skip hf (Wn.some hf rfl rfl rfl rfl) rfl rfl ?_)
                              clear hf; intro a hf
                              refine step_l (st_skip hf (Wn.some hf rfl rfl rfl rfl) rfl rfl ?_)
                              clear hf; intro a hf
                              refine step_l (st_skip hf (Wn.some hf rfl rfl rfl rfl) rfl rfl ?_)
                              clear hf; intro a hf
                              refine step_l (st_skip hf (Wn.some hf rfl rfl rfl rfl) rfl rfl ?_)
                              clear hf; intro a hf
                              refine step_l (st_rd hf (Wn.none rfl) (rd_pick_f hf rfl rfl rfl) hS rfl rfl ?_)
                              clear hf; intro a hf
                              refine done_l ?_
                              refine t_normal ?_
                              refine c_false hf rfl ?_
                              refine c_skip ?_
                              refine t_normal ?_
                              refine c_seq ?_
                              refine c_region ?_
                              refine step_l (st_rd hf (Wn.none rfl) (rd_move hf rfl rfl) hS rfl rfl ?_)
                              clear hf; intro a hf
                              refine step_l (st_rd hf (Wn.none rfl) (rd_move hf rfl rfl) hS rfl rfl ?_)
                              clear hf; intro a hf
                              refine step_l (st_rd hf (Wn.none rfl) (rd_len hf rfl rfl Try.underlying36) hS rfl rfl ?_)
                              clear hf; intro a hf
                              refine step_l (st_rdB hf (Wn.none rfl) (rd_lss hf rfl rfl rfl) hS rfl rfl ?_ ?_)
                              · clear hf; intro hc14 a hf
                                obtain ⟨pk, hgp⟩ := get_of_lt (l := ps) (k := rd) (by omega) rfl; obtain ⟨adp, rfl⟩ := (hvps _ (hS.sub (by repeat (first | exact Sub.refl | exact Sub.none | exact Sub.behind | (apply Sub.cons; (focus ((repeat (first | exact Sel.head | apply Sel.tail)); done))) | apply Sub.skip)))).some (by omega)
                                first
                                | (first | exact Bool.noConfusion hc14 | exact absurd rfl hc14; done)
                                | (
                                  refine done_l ?_
                                  refine t_normal ?_
                                  refine c_true hf rfl ?_
                                  refine c_region ?_
                                  refine step_l (st_rd hf (Wn.none rfl) (rd_move hf rfl rfl) hS rfl rfl ?_)
                                  clear hf; intro a hf
                                  refine step_l (st_rd hf (Wn.none rfl) (rd_move hf rfl rfl) hS rfl rfl ?_)
                                  clear hf; intro a hf
                                  refine step_l (st_rd hf (Wn.none rfl) (rd_move hf rfl rfl) hS rfl rfl ?_)
                                  clear hf; intro a hf
                                  refine step_l (st_rd hf (Wn.none rfl) ((by first | exact rd_indexAddrN1 hf rfl rfl rfl Try.underlying36 sz3 (by omega) | exact rd_indexAddr hf rfl rfl rfl Try.underlying36 sz3 (by first | decide | omega) (by omega))) hS rfl rfl ?_)
                                  clear hf; intro a hf
                                  refine step_l (st_rd hf (Wn.none rfl) (rd_load1 hf rfl rfl ag3 (by intro _ h; exact (hvps _ (h.sub (by repeat (first | exact Sub.refl | exact Sub.none | exact Sub.behind | (apply Sub.cons; (focus ((repeat (first | exact Sel.head | apply Sel.tail)); done))) | apply Sub.skip)))).get (i64s_get hgp))) hS rfl rfl ?_)
                                  clear hf; intro a hf
                                  refine step_l (st_call hf (Wn.none rfl) rfl rfl rfl fn19 (DCrash_c _ _ ((frs ((byts M).take at_)) ++ TL) _ _ (hS.sel (by repeat (first | exact Sel.head | apply Sel.tail))) (by rw [List.length_append]; omega)) rfl rfl ?_)
                                  clear hf hS; rintro v a w ⟨rfl, hS⟩ hf; obtain ⟨hc1, hc2, hc3⟩ := crash_take (F := (frs ((byts M).take at_))) (t := TL) (s := (frs ((byts M).take at_)).length) pk (Nat.le_refl _) (by rw [List.length_append]; omega)
                                  refine done_l ?_
                                  refine b_normal ?_
                                  refine t_normal ?_
                                  refine c_region ?_
                                  refine step_l (st_rd hf (Wn.none rfl) (rd_move hf rfl rfl) hS rfl rfl ?_)
                                  clear hf; intro a hf
                                  refine step_l (st_rd hf (Wn.none rfl) (rd_add hf rfl rfl rfl (by first | exact Go.IntWalk.i64_in _ (by omega) | exact rfl)) hS rfl rfl ?_)
                                  clear hf; intro a hf
                                  refine step_l (st_rd hf (Wn.none rfl) (rd_assign hf rfl rfl) hS rfl rfl ?_)
                                  clear hf; intro a hf
                                  refine done_l ?_
                                  refine t_normal ⟨(rd + 1, at_, q, cap, (TL).take (dCraN ((frs ((byts M).take at_)) ++ TL) (frs ((byts M).take at_)).length pk - (frs ((byts M).take at_)).length), dCraN ((frs ((byts M).take at_)) ++ TL) (frs ((byts M).take at_)).length pk), ((((hf.back (by repeat (first | exact Behind.refl | refine Behind.skip rfl ?_)) hk0).kb hf 11 rfl (by first | rfl | exact int_eq (by omega))).kb hf 10 rfl (by first | rfl | exact int_eq (by omega))).kb hf 9 rfl (by first | rfl | exact int_eq (by omega))), ⟨(by rw [← hc1]; exact hS.sub (by repeat (first | exact Sub.refl | exact Sub.none | exact Sub.behind | (apply Sub.cons; (focus ((repeat (first | exact Sel.head | apply Sel.tail)); done))) | apply Sub.skip))), ⟨by omega, hat, hT.take _, hc2, Nat.le_of_eq hc3⟩⟩, by first | omega | (simp only []; omega)⟩
                                  )
                              · clear hf; intro hc14 a hf
                                first
                                | (first | exact Bool.noConfusion hc14 | exact absurd rfl hc14; done)
                                | (
                                  refine done_l ?_
                                  refine t_normal ?_
                                  refine c_false hf rfl ?_
                                  refine c_skip ?_
                                  refine b_normal ?_
                                  refine t_normal ?_
                                  refine c_region ?_
                                  refine step_l (st_rd hf (Wn.none rfl) (rd_move hf rfl rfl) hS rfl rfl ?_)
                                  clear hf; intro a hf
                                  refine step_l (st_rd hf (Wn.none rfl) (rd_add hf rfl rfl rfl (by first | exact Go.IntWalk.i64_in _ (by omega) | exact rfl)) hS rfl rfl ?_)
                                  clear hf; intro a hf
                                  refine step_l (st_rd hf (Wn.none rfl) (rd_assign hf rfl rfl) hS rfl rfl ?_)
                                  clear hf; intro a hf
                                  refine done_l ?_
                                  refine t_normal ⟨(rd + 1, at_, q, cap, TL, (frs ((byts M).take at_)).length), ((((hf.back (by repeat (first | exact Behind.refl | refine Behind.skip rfl ?_)) hk0).kb hf 11 rfl (by first | rfl | exact int_eq (by omega))).kb hf 10 rfl (by first | rfl | exact int_eq (by omega))).kb hf 9 rfl (by first | rfl | exact int_eq (by omega))), ⟨hS.sub (by repeat (first | exact Sub.refl | exact Sub.none | exact Sub.behind | (apply Sub.cons; (focus ((repeat (first | exact Sel.head | apply Sel.tail)); done))) | apply Sub.skip)), ⟨by omega, hat, hT, Nat.le_refl _, by rw [List.length_append]; omega⟩⟩, by first | omega | (simp only []; omega)⟩
                                  )
                              )
                          )
                      )
                  · clear hf; intro hc5 a hf
                    first
                    | (first | exact Bool.noConfusion hc5 | exact absurd rfl hc5; done)
                    | (
                      refine step_l (st_rd hf (Wn.none rfl) (rd_move hf rfl rfl) hS rfl rfl ?_)
                      clear hf; intro a hf
                      refine step_l (st_skip hf (Wn.some hf rfl rfl rfl rfl) rfl rfl ?_)
                      clear hf; intro a hf
                      refine step_l (st_skip hf (Wn.some hf rfl rfl rfl rfl) rfl rfl ?_)
                      clear hf; intro a hf
                      refine step_l (st_skip hf (Wn.some hf rfl rfl rfl rfl) rfl rfl ?_)
                      clear hf; intro a hf
                      refine step_l (st_skip hf (Wn.some hf rfl rfl rfl rfl) rfl rfl ?_)
                      clear hf; intro a hf
                      refine step_l (st_rd hf (Wn.none rfl) (rd_pick_f hf rfl rfl rfl) hS rfl rfl ?_)
                      clear hf; intro a hf
                      refine done_l ?_
                      refine t_normal ?_
                      refine c_false hf rfl ?_
                      refine c_exit ?_
                      refine t_exit ?_
                      refine t_exit ?_
                      refine b_exit ?_
                      refine t_normal ?_
                      refine c_seq ?_
                      refine c_seq ?_
                      refine c_region ?_
                      refine step_l (st_rd hf (Wn.none rfl) (rd_move hf rfl rfl) hS rfl rfl ?_)
                      clear hf; intro a hf
                      refine step_l (st_rd hf (Wn.none rfl) (rd_move hf rfl rfl) hS rfl rfl ?_)
                      clear hf; intro a hf
                      refine step_l (st_rd hf (Wn.none rfl) (rd_len hf rfl rfl Try.underlying22) hS rfl rfl ?_)
                      clear hf; intro a hf
                      refine step_l (st_rdB hf (Wn.none rfl) (rd_lss hf rfl rfl rfl) hS rfl rfl ?_ ?_)
                      · clear hf; intro hc15 a hf
                        obtain ⟨y, hgy⟩ := get_of_lt (l := lt) (k := rd) (by omega) rfl; obtain ⟨adt, rfl⟩ := (hvt _ (hS.sub (by repeat (first | exact Sub.refl | exact Sub.none | exact Sub.behind | (apply Sub.cons; (focus ((repeat (first | exact Sel.head | apply Sel.tail)); done))) | apply Sub.skip)))).at'.some (by omega)
                        first
                        | (first | exact Bool.noConfusion hc15 | exact absurd rfl hc15; done)
                        | (
                          refine step_l (st_rd hf (Wn.none rfl) (rd_move hf rfl rfl) hS rfl rfl ?_)
                          clear hf; intro a hf
                          refine step_l (st_rd hf (Wn.some hf rfl rfl rfl rfl) (rd_move hf rfl rfl) hS rfl rfl ?_)
                          clear hf; intro a hf
                          refine step_l (st_rd hf (Wn.some hf rfl rfl rfl rfl) (rd_move hf rfl rfl) hS rfl rfl ?_)
                          clear hf; intro a hf
                          refine step_l (st_rd hf (Wn.some hf rfl rfl rfl rfl) ((by first | exact rd_indexAddrN1 hf rfl rfl rfl Try.underlying22 sz23 (by omega) | exact rd_indexAddr hf rfl rfl rfl Try.underlying22 sz23 (by first | decide | omega) (by omega))) hS rfl rfl ?_)
                          clear hf; intro a hf
                          refine step_l (st_rd hf (Wn.some hf rfl rfl rfl rfl) (rd_load1 hf rfl rfl ag23 (by intro _ h; exact (hvt _ (h.sub (by repeat (first | exact Sub.refl | exact Sub.none | exact Sub.behind | (apply Sub.cons; (focus ((repeat (first | exact Sel.head | apply Sel.tail)); done))) | apply Sub.skip)))).get hgy)) hS rfl rfl ?_)
                          clear hf; intro a hf
                          refine step_l (st_rd hf (Wn.some hf rfl rfl rfl rfl) (rd_len hf rfl rfl Try.underlying23) hS rfl rfl ?_)
                          clear hf; intro a hf
                          refine step_l (st_rdB hf (Wn.some hf rfl rfl rfl rfl) (rd_lss hf rfl rfl rfl) hS rfl rfl ?_ ?_)
                          · clear hf; intro hc16 a hf
                            first
                            | (first | exact Bool.noConfusion hc16 | exact absurd rfl hc16; done)
                            | (
                              refine step_l (st_rd hf (Wn.none rfl) (rd_pick_t hf rfl rfl rfl) hS rfl rfl ?_)
                              clear hf; intro a hf
                              refine done_l ?_
                              refine t_normal ?_
                              refine c_true hf rfl ?_
                              refine c_seq ?_
                              refine c_region ?_
                              refine step_l (st_rd hf (Wn.none rfl) (rd_move hf rfl rfl) hS rfl rfl ?_)
                              clear hf; intro a hf
                              refine step_l (st_rd hf (Wn.none rfl) (rd_move hf rfl rfl) hS rfl rfl ?_)
                              clear hf; intro a hf
                              refine step_l (st_rd hf (Wn.none rfl) ((by first | exact rd_indexAddrN1 hf rfl rfl rfl Try.underlying22 sz23 (by omega) | exact rd_indexAddr hf rfl rfl rfl Try.underlying22 sz23 (by first | decide | omega) (by omega))) hS rfl rfl ?_)
                              clear hf; intro a hf
                              refine step_l (st_rd hf (Wn.none rfl) (rd_load1 hf rfl rfl ag23 (by intro _ h; exact (hvt _ (h.sub (by repeat (first | exact Sub.refl | exact Sub.none | exact Sub.behind | (apply Sub.cons; (focus ((repeat (first | exact Sel.head | apply Sel.tail)); done))) | apply Sub.skip)))).get hgy)) hS rfl rfl ?_)
                              clear hf; intro a hf
                              refine step_l (st_call hf (Wn.none rfl) rfl rfl rfl fn18 (RFrame_c y.2.2 _ _ _ hS rfl (by omega) (fun _ h => (hvt _ (h.sub (by repeat (first | exact Sub.refl | exact Sub.none | exact Sub.behind | (apply Sub.cons; (focus ((repeat (first | exact Sel.head | apply Sel.tail)); done))) | apply Sub.skip)))).sl hgy)) rfl rfl ?_)
                              clear hf hS; rintro v a w ⟨qf, capf, rfl, hS⟩ hf; have hfl := frB_len y.2.2; have hfc := (hS.rwLen (xs := bvs (frB y.2.2)) (by repeat (first | exact Sel.head | apply Sel.tail))).2.1
                              refine step_l (st_rd hf (Wn.none rfl) (rd_assign hf rfl rfl) hS rfl rfl ?_)
                              clear hf; intro a hf
                              refine done_l ?_
                              refine t_normal ?_
                              refine c_region ?_
                              refine step_l (st_rd hf (Wn.none rfl) (rd_move hf rfl rfl) hS rfl rfl ?_)
                              clear hf; intro a hf
                              refine step_l (st_rd hf (Wn.none rfl) (rd_move hf rfl rfl) hS rfl rfl ?_)
                              clear hf; intro a hf
                              refine step_l (st_rd hf (Wn.none rfl) (rd_move hf rfl rfl) hS rfl rfl ?_)
                              clear hf; intro a hf
                              refine step_l (st_rd hf (Wn.none rfl) (rd_len hf rfl rfl Try.underlying23) hS rfl rfl ?_)
                              clear hf; intro a hf
                              refine step_l (st_rd hf (Wn.none rfl) (rd_sub hf rfl rfl rfl (i64_sub (n := 1) (by omega) (by omega))) hS rfl rfl ?_)
                              clear hf; intro a hf
                              refine step_l (st_rd hf (Wn.none rfl) (rd_sliceH hf rfl rfl rfl Try.underlying23 sz5 (by omega) (by omega)) hS rfl rfl ?_)
                              clear hf; intro a hf
                              refine step_l (st_call hf (Wn.none rfl) rfl rfl rfl fn15 (DAppend_c _ 60000 (frs ((byts M).take at_)) _ ((frB y.2.2).take ((frB y.2.2).length - 1)) _ _ _ (hS.sel (by repeat (first | exact Sel.head | apply Sel.tail))) (by rw [List.length_take]; omega) (by omega) (by omega) (fun _ h => take1 (h.slOfRw (xs := bvs (frB y.2.2)) (by repeat (first | exact Sel.head | apply Sel.tail))) (by omega))) rfl rfl ?_)
                              clear hf hS; rintro v a w ⟨rfl, hS⟩ hf; obtain ⟨d1, d2⟩ := dApp_fit (most := 60000) (b := (frs ((byts M).take at_))) (x := (frB y.2.2).take ((frB y.2.2).length - 1)) (by rw [List.length_take]; omega); rw [d1] at hS; obtain ⟨TL, htt⟩ : ∃ tt, tt = (frB y.2.2).take ((frB y.2.2).length - 1) := ⟨_, rfl⟩; rw [← htt] at hS; have hT : Torn TL := ⟨y.2.2, (frB y.2.2).length - 1, (by omega), (by omega), htt⟩
                              refine done_l ?_
                              refine t_normal ?_
                              refine c_seq ?_
                              refine c_region ?_
                              refine step_l (st_rd hf (Wn.none rfl) (rd_move hf rfl rfl) hS rfl rfl ?_)
                              clear hf; intro a hf
                              refine step_l (st_rd hf (Wn.none rfl) (rd_move hf rfl rfl) hS rfl rfl ?_)
                              clear hf; intro a hf
                              refine step_l (st_rd hf (Wn.none rfl) (rd_len hf rfl rfl Try.underlying36) hS rfl rfl ?_)
                              clear hf; intro a hf
                              refine step_l (st_rdB hf (Wn.none rfl) (rd_lss hf rfl rfl rfl) hS rfl rfl ?_ ?_)
                              · clear hf; intro hc17 a hf
                                obtain ⟨pk, hgp⟩ := get_of_lt (l := ps) (k := rd) (by omega) rfl; obtain ⟨adp, rfl⟩ := (hvps _ (hS.sub (by repeat (first | exact Sub.refl | exact Sub.none | exact Sub.behind | (apply Sub.cons; (focus ((repeat (first | exact Sel.head | apply Sel.tail)); done))) | apply Sub.skip)))).some (by omega)
                                first
                                | (first | exact Bool.noConfusion hc17 | exact absurd rfl hc17; done)
                                | (
                                  refine done_l ?_
                                  refine t_normal ?_
                                  refine c_true hf rfl ?_
                                  refine c_region ?_
                                  refine step_l (st_rd hf (Wn.none rfl) (rd_move hf rfl rfl) hS rfl rfl ?_)
                                  clear hf; intro a hf
                                  refine step_l (st_rd hf (Wn.none rfl) (rd_move hf rfl rfl) hS rfl rfl ?_)
                                  clear hf; intro a hf
                                  refine step_l (st_rd hf (Wn.none rfl) (rd_move hf rfl rfl) hS rfl rfl ?_)
                                  clear hf; intro a hf
                                  refine step_l (st_rd hf (Wn.none rfl) ((by first | exact rd_indexAddrN1 hf rfl rfl rfl Try.underlying36 sz3 (by omega) | exact rd_indexAddr hf rfl rfl rfl Try.underlying36 sz3 (by first | decide | omega) (by omega))) hS rfl rfl ?_)
                                  clear hf; intro a hf
                                  refine step_l (st_rd hf (Wn.none rfl) (rd_load1 hf rfl rfl ag3 (by intro _ h; exact (hvps _ (h.sub (by repeat (first | exact Sub.refl | exact Sub.none | exact Sub.behind | (apply Sub.cons; (focus ((repeat (first | exact Sel.head | apply Sel.tail)); done))) | apply Sub.skip)))).get (i64s_get hgp))) hS rfl rfl ?_)
                                  clear hf; intro a hf
                                  refine step_l (st_call hf (Wn.none rfl) rfl rfl rfl fn19 (DCrash_c _ _ ((frs ((byts M).take at_)) ++ TL) _ _ (hS.sel (by repeat (first | exact Sel.head | apply Sel.tail))) (by rw [List.length_append]; omega)) rfl rfl ?_)
                                  clear hf hS; rintro v a w ⟨rfl, hS⟩ hf; obtain ⟨hc1, hc2, hc3⟩ := crash_take (F := (frs ((byts M).take at_))) (t := TL) (s := (frs ((byts M).take at_)).length) pk (Nat.le_refl _) (by rw [List.length_append]; omega)
                                  refine done_l ?_
                                  refine b_normal ?_
                                  refine t_normal ?_
                                  refine c_region ?_
                                  refine step_l (st_rd hf (Wn.none rfl) (rd_move hf rfl rfl) hS rfl rfl ?_)
                                  clear hf; intro a hf
                                  refine step_l (st_rd hf (Wn.none rfl) (rd_add hf rfl rfl rfl (by first | exact Go.IntWalk.i64_in _ (by omega) | exact rfl)) hS rfl rfl ?_)
                                  clear hf; intro a hf
                                  refine step_l (st_rd hf (Wn.none rfl) (rd_assign hf rfl rfl) hS rfl rfl ?_)
                                  clear hf; intro a hf
                                  refine done_l ?_
                                  refine t_normal ⟨(rd + 1, at_, q, cap, (TL).take (dCraN ((frs ((byts M).take at_)) ++ TL) (frs ((byts M).take at_)).length pk - (frs ((byts M).take at_)).length), dCraN ((frs ((byts M).take at_)) ++ TL) (frs ((byts M).take at_)).length pk), ((((hf.back (by repeat (first | exact Behind.refl | refine Behind.skip rfl ?_)) hk0).kb hf 11 rfl (by first | rfl | exact int_eq (by omega))).kb hf 10 rfl (by first | rfl | exact int_eq (by omega))).kb hf 9 rfl (by first | rfl | exact int_eq (by omega))), ⟨(by rw [← hc1]; exact hS.sub (by repeat (first | exact Sub.refl | exact Sub.none | exact Sub.behind | (apply Sub.cons; (focus ((repeat (first | exact Sel.head | apply Sel.tail)); done))) | apply Sub.skip))), ⟨by omega, hat, hT.take _, hc2, Nat.le_of_eq hc3⟩⟩, by first | omega | (simp only []; omega)⟩
                                  )
                              · clear hf; intro hc17 a hf
                                first
                                | (first | exact Bool.noConfusion hc17 | exact absurd rfl hc17; done)
                                | (
                                  refine done_l ?_
                                  refine t_normal ?_
                                  refine c_false hf rfl ?_
                                  refine c_skip ?_
                                  refine b_normal ?_
                                  refine t_normal ?_
                                  refine c_region ?_
                                  refine step_l (st_rd hf (Wn.none rfl) (rd_move hf rfl rfl) hS rfl rfl ?_)
                                  clear hf; intro a hf
                                  refine step_l (st_rd hf (Wn.none rfl) (rd_add hf rfl rfl rfl (by first | exact Go.IntWalk.i64_in _ (by omega) | exact rfl)) hS rfl rfl ?_)
                                  clear hf; intro a hf
                                  refine step_l (st_rd hf (Wn.none rfl) (rd_assign hf rfl rfl) hS rfl rfl ?_)
                                  clear hf; intro a hf
                                  refine done_l ?_
                                  refine t_normal ⟨(rd + 1, at_, q, cap, TL, (frs ((byts M).take at_)).length), ((((hf.back (by repeat (first | exact Behind.refl | refine Behind.skip rfl ?_)) hk0).kb hf 11 rfl (by first | rfl | exact int_eq (by omega))).kb hf 10 rfl (by first | rfl | exact int_eq (by omega))).kb hf 9 rfl (by first | rfl | exact int_eq (by omega))), ⟨hS.sub (by repeat (first | exact Sub.refl | exact Sub.none | exact Sub.behind | (apply Sub.cons; (focus ((repeat (first | exact Sel.head | apply Sel.tail)); done))) | apply Sub.skip)), ⟨by omega, hat, hT, Nat.le_refl _, by rw [List.length_append]; omega⟩⟩, by first | omega | (simp only []; omega)⟩
                                  )
                              )
                          · clear hf; intro hc16 a hf
                            obtain ⟨TL, hTL⟩ : ∃ tt : List UInt8, tt = [] := ⟨_, rfl⟩; have hT : Torn TL := by rw [hTL]; exact Torn.nil
                            replace hS := dk_cast (hS.sel (by repeat (first | exact Sel.head | apply Sel.tail)) : Sat W (DkP 5 56 pd 60000 (frs ((byts M).take at_)) (frs ((byts M).take at_)).length :: _) _) (show (frs ((byts M).take at_)) = (frs ((byts M).take at_)) ++ TL by rw [hTL, List.append_nil])
                            first
                            | (first | exact Bool.noConfusion hc16 | exact absurd rfl hc16; done)
                            | (
                              refine step_l (st_rd hf (Wn.none rfl) (rd_pick_t hf rfl rfl rfl) hS rfl rfl ?_)
                              clear hf; intro a hf
                              refine done_l ?_
                              refine t_normal ?_
                              refine c_false hf rfl ?_
                              refine c_skip ?_
                              refine t_normal ?_
                              refine c_seq ?_
                              refine c_region ?_
                              refine step_l (st_rd hf (Wn.none rfl) (rd_move hf rfl rfl) hS rfl rfl ?_)
                              clear hf; intro a hf
                              refine step_l (st_rd hf (Wn.none rfl) (rd_move hf rfl rfl) hS rfl rfl ?_)
                              clear hf; intro a hf
                              refine step_l (st_rd hf (Wn.none rfl) (rd_len hf rfl rfl Try.underlying36) hS rfl rfl ?_)
                              clear hf; intro a hf
                              refine step_l (st_rdB hf (Wn.none rfl) (rd_lss hf rfl rfl rfl) hS rfl rfl ?_ ?_)
                              · clear hf; intro hc18 a hf
                                obtain ⟨pk, hgp⟩ := get_of_lt (l := ps) (k := rd) (by omega) rfl; obtain ⟨adp, rfl⟩ := (hvps _ (hS.sub (by repeat (first | exact Sub.refl | exact Sub.none | exact Sub.behind | (apply Sub.cons; (focus ((repeat (first | exact Sel.head | apply Sel.tail)); done))) | apply Sub.skip)))).some (by omega)
                                first
                                | (first | exact Bool.noConfusion hc18 | exact absurd rfl hc18; done)
                                | (
                                  refine done_l ?_
                                  refine t_normal ?_
                                  refine c_true hf rfl ?_
                                  refine c_region ?_
                                  refine step_l (st_rd hf (Wn.none rfl) (rd_move hf rfl rfl) hS rfl rfl ?_)
                                  clear hf; intro a hf
                                  refine step_l (st_rd hf (Wn.none rfl) (rd_move hf rfl rfl) hS rfl rfl ?_)
                                  clear hf; intro a hf
                                  refine step_l (st_rd hf (Wn.none rfl) (rd_move hf rfl rfl) hS rfl rfl ?_)
                                  clear hf; intro a hf
                                  refine step_l (st_rd hf (Wn.none rfl) ((by first | exact rd_indexAddrN1 hf rfl rfl rfl Try.underlying36 sz3 (by omega) | exact rd_indexAddr hf rfl rfl rfl Try.underlying36 sz3 (by first | decide | omega) (by omega))) hS rfl rfl ?_)
                                  clear hf; intro a hf
                                  refine step_l (st_rd hf (Wn.none rfl) (rd_load1 hf rfl rfl ag3 (by intro _ h; exact (hvps _ (h.sub (by repeat (first | exact Sub.refl | exact Sub.none | exact Sub.behind | (apply Sub.cons; (focus ((repeat (first | exact Sel.head | apply Sel.tail)); done))) | apply Sub.skip)))).get (i64s_get hgp))) hS rfl rfl ?_)
                                  clear hf; intro a hf
                                  refine step_l (st_call hf (Wn.none rfl) rfl rfl rfl fn19 (DCrash_c _ _ ((frs ((byts M).take at_)) ++ TL) _ _ (hS.sel (by repeat (first | exact Sel.head | apply Sel.tail))) (by rw [List.length_append]; omega)) rfl rfl ?_)
                                  clear hf hS; rintro v a w ⟨rfl, hS⟩ hf; obtain ⟨hc1, hc2, hc3⟩ := crash_take (F := (frs ((byts M).take at_))) (t := TL) (s := (frs ((byts M).take at_)).length) pk (Nat.le_refl _) (by rw [List.length_append]; omega)
                                  refine done_l ?_
                                  refine b_normal ?_
                                  refine t_normal ?_
                                  refine c_region ?_
                                  refine step_l (st_rd hf (Wn.none rfl) (rd_move hf rfl rfl) hS rfl rfl ?_)
                                  clear hf; intro a hf
                                  refine step_l (st_rd hf (Wn.none rfl) (rd_add hf rfl rfl rfl (by first | exact Go.IntWalk.i64_in _ (by omega) | exact rfl)) hS rfl rfl ?_)
                                  clear hf; intro a hf
                                  refine step_l (st_rd hf (Wn.none rfl) (rd_assign hf rfl rfl) hS rfl rfl ?_)
                                  clear hf; intro a hf
                                  refine done_l ?_
                                  refine t_normal ⟨(rd + 1, at_, q, cap, (TL).take (dCraN ((frs ((byts M).take at_)) ++ TL) (frs ((byts M).take at_)).length pk - (frs ((byts M).take at_)).length), dCraN ((frs ((byts M).take at_)) ++ TL) (frs ((byts M).take at_)).length pk), ((((hf.back (by repeat (first | exact Behind.refl | refine Behind.skip rfl ?_)) hk0).kb hf 11 rfl (by first | rfl | exact int_eq (by omega))).kb hf 10 rfl (by first | rfl | exact int_eq (by omega))).kb hf 9 rfl (by first | rfl | exact int_eq (by omega))), ⟨(by rw [← hc1]; exact hS.sub (by repeat (first | exact Sub.refl | exact Sub.none | exact Sub.behind | (apply Sub.cons; (focus ((repeat (first | exact Sel.head | apply Sel.tail)); done))) | apply Sub.skip))), ⟨by omega, hat, hT.take _, hc2, Nat.le_of_eq hc3⟩⟩, by first | omega | (simp only []; omega)⟩
                                  )
                              · clear hf; intro hc18 a hf
                                first
                                | (first | exact Bool.noConfusion hc18 | exact absurd rfl hc18; done)
                                | (
                                  refine done_l ?_
                                  refine t_normal ?_
                                  refine c_false hf rfl ?_
                                  refine c_skip ?_
                                  refine b_normal ?_
                                  refine t_normal ?_
                                  refine c_region ?_
                                  refine step_l (st_rd hf (Wn.none rfl) (rd_move hf rfl rfl) hS rfl rfl ?_)
                                  clear hf; intro a hf
                                  refine step_l (st_rd hf (Wn.none rfl) (rd_add hf rfl rfl rfl (by first | exact Go.IntWalk.i64_in _ (by omega) | exact rfl)) hS rfl rfl ?_)
                                  clear hf; intro a hf
                                  refine step_l (st_rd hf (Wn.none rfl) (rd_assign hf rfl rfl) hS rfl rfl ?_)
                                  clear hf; intro a hf
                                  refine done_l ?_
                                  refine t_normal ⟨(rd + 1, at_, q, cap, TL, (frs ((byts M).take at_)).length), ((((hf.back (by repeat (first | exact Behind.refl | refine Behind.skip rfl ?_)) hk0).kb hf 11 rfl (by first | rfl | exact int_eq (by omega))).kb hf 10 rfl (by first | rfl | exact int_eq (by omega))).kb hf 9 rfl (by first | rfl | exact int_eq (by omega))), ⟨hS.sub (by repeat (first | exact Sub.refl | exact Sub.none | exact Sub.behind | (apply Sub.cons; (focus ((repeat (first | exact Sel.head | apply Sel.tail)); done))) | apply Sub.skip)), ⟨by omega, hat, hT, Nat.le_refl _, by rw [List.length_append]; omega⟩⟩, by first | omega | (simp only []; omega)⟩
                                  )
                              )
                          )
                      · clear hf; intro hc15 a hf
                        obtain ⟨TL, hTL⟩ : ∃ tt : List UInt8, tt = [] := ⟨_, rfl⟩; have hT : Torn TL := by rw [hTL]; exact Torn.nil
                        replace hS := dk_cast (hS.sel (by repeat (first | exact Sel.head | apply Sel.tail)) : Sat W (DkP 5 56 pd 60000 (frs ((byts M).take at_)) (frs ((byts M).take at_)).length :: _) _) (show (frs ((byts M).take at_)) = (frs ((byts M).take at_)) ++ TL by rw [hTL, List.append_nil])
                        first
                        | (first | exact Bool.noConfusion hc15 | exact absurd rfl hc15; done)
                        | (
                          refine step_l (st_rd hf (Wn.none rfl) (rd_move hf rfl rfl) hS rfl rfl ?_)
                          clear hf; intro a hf
                          refine step_l (st_skip hf (Wn.some hf rfl rfl rfl rfl) rfl rfl ?_)
                          clear hf; intro a hf
                          refine step_l (st_skip hf (Wn.some hf rfl rfl rfl rfl) rfl rfl ?_)
                          clear hf; intro a hf
                          refine step_l (st_skip hf (Wn.some hf rfl rfl rfl rfl) rfl rfl ?_)
                          clear hf; intro a hf
                          refine step_l (st_skip hf (Wn.some hf rfl rfl rfl rfl) rfl rfl ?_)
                          clear hf; intro a hf
                          refine step_l (st_skip hf (Wn.some hf rfl rfl rfl rfl) rfl rfl ?_)
                          clear hf; intro a hf
                          refine step_l (st_skip hf (Wn.some hf rfl rfl rfl rfl) rfl rfl ?_)
                          clear hf; intro a hf
                          refine step_l (st_rd hf (Wn.none rfl) (rd_pick_f hf rfl rfl rfl) hS rfl rfl ?_)
                          clear hf; intro a hf
                          refine done_l ?_
                          refine t_normal ?_
                          refine c_false hf rfl ?_
                          refine c_skip ?_
                          refine t_normal ?_
                          refine c_seq ?_
                          refine c_region ?_
                          refine step_l (st_rd hf (Wn.none rfl) (rd_move hf rfl rfl) hS rfl rfl ?_)
                          clear hf; intro a hf
                          refine step_l (st_rd hf (Wn.none rfl) (rd_move hf rfl rfl) hS rfl rfl ?_)
                          clear hf; intro a hf
                          refine step_l (st_rd hf (Wn.none rfl) (rd_len hf rfl rfl Try.underlying36) hS rfl rfl ?_)
                          clear hf; intro a hf
                          refine step_l (st_rdB hf (Wn.none rfl) (rd_lss hf rfl rfl rfl) hS rfl rfl ?_ ?_)
                          · clear hf; intro hc19 a hf
                            obtain ⟨pk, hgp⟩ := get_of_lt (l := ps) (k := rd) (by omega) rfl; obtain ⟨adp, rfl⟩ := (hvps _ (hS.sub (by repeat (first | exact Sub.refl | exact Sub.none | exact Sub.behind | (apply Sub.cons; (focus ((repeat (first | exact Sel.head | apply Sel.tail)); done))) | apply Sub.skip)))).some (by omega)
                            first
                            | (first | exact Bool.noConfusion hc19 | exact absurd rfl hc19; done)
                            | (
                              refine done_l ?_
                              refine t_normal ?_
                              refine c_true hf rfl ?_
                              refine c_region ?_
                              refine step_l (st_rd hf (Wn.none rfl) (rd_move hf rfl rfl) hS rfl rfl ?_)
                              clear hf; intro a hf
                              refine step_l (st_rd hf (Wn.none rfl) (rd_move hf rfl rfl) hS rfl rfl ?_)
                              clear hf; intro a hf
                              refine step_l (st_rd hf (Wn.none rfl) (rd_move hf rfl rfl) hS rfl rfl ?_)
                              clear hf; intro a hf
                              refine step_l (st_rd hf (Wn.none rfl) ((by first | exact rd_indexAddrN1 hf rfl rfl rfl Try.underlying36 sz3 (by omega) | exact rd_indexAddr hf rfl rfl rfl Try.underlying36 sz3 (by first | decide | omega) (by omega))) hS rfl rfl ?_)
                              clear hf; intro a hf
                              refine step_l (st_rd hf (Wn.none rfl) (rd_load1 hf rfl rfl ag3 (by intro _ h; exact (hvps _ (h.sub (by repeat (first | exact Sub.refl | exact Sub.none | exact Sub.behind | (apply Sub.cons; (focus ((repeat (first | exact Sel.head | apply Sel.tail)); done))) | apply Sub.skip)))).get (i64s_get hgp))) hS rfl rfl ?_)
                              clear hf; intro a hf
                              refine step_l (st_call hf (Wn.none rfl) rfl rfl rfl fn19 (DCrash_c _ _ ((frs ((byts M).take at_)) ++ TL) _ _ (hS.sel (by repeat (first | exact Sel.head | apply Sel.tail))) (by rw [List.length_append]; omega)) rfl rfl ?_)
                              clear hf hS; rintro v a w ⟨rfl, hS⟩ hf; obtain ⟨hc1, hc2, hc3⟩ := crash_take (F := (frs ((byts M).take at_))) (t := TL) (s := (frs ((byts M).take at_)).length) pk (Nat.le_refl _) (by rw [List.length_append]; omega)
                              refine done_l ?_
                              refine b_normal ?_
                              refine t_normal ?_
                              refine c_region ?_
                              refine step_l (st_rd hf (Wn.none rfl) (rd_move hf rfl rfl) hS rfl rfl ?_)
                              clear hf; intro a hf
                              refine step_l (st_rd hf (Wn.none rfl) (rd_add hf rfl rfl rfl (by first | exact Go.IntWalk.i64_in _ (by omega) | exact rfl)) hS rfl rfl ?_)
                              clear hf; intro a hf
                              refine step_l (st_rd hf (Wn.none rfl) (rd_assign hf rfl rfl) hS rfl rfl ?_)
                              clear hf; intro a hf
                              refine done_l ?_
                              refine t_normal ⟨(rd + 1, at_, q, cap, (TL).take (dCraN ((frs ((byts M).take at_)) ++ TL) (frs ((byts M).take at_)).length pk - (frs ((byts M).take at_)).length), dCraN ((frs ((byts M).take at_)) ++ TL) (frs ((byts M).take at_)).length pk), ((((hf.back (by repeat (first | exact Behind.refl | refine Behind.skip rfl ?_)) hk0).kb hf 11 rfl (by first | rfl | exact int_eq (by omega))).kb hf 10 rfl (by first | rfl | exact int_eq (by omega))).kb hf 9 rfl (by first | rfl | exact int_eq (by omega))), ⟨(by rw [← hc1]; exact hS.sub (by repeat (first | exact Sub.refl | exact Sub.none | exact Sub.behind | (apply Sub.cons; (focus ((repeat (first | exact Sel.head | apply Sel.tail)); done))) | apply Sub.skip))), ⟨by omega, hat, hT.take _, hc2, Nat.le_of_eq hc3⟩⟩, by first | omega | (simp only []; omega)⟩
                              )
                          · clear hf; intro hc19 a hf
                            first
                            | (first | exact Bool.noConfusion hc19 | exact absurd rfl hc19; done)
                            | (
                              refine done_l ?_
                              refine t_normal ?_
                              refine c_false hf rfl ?_
                              refine c_skip ?_
                              refine b_normal ?_
                              refine t_normal ?_
                              refine c_region ?_
                              refine step_l (st_rd hf (Wn.none rfl) (rd_move hf rfl rfl) hS rfl rfl ?_)
                              clear hf; intro a hf
                              refine step_l (st_rd hf (Wn.none rfl) (rd_add hf rfl rfl rfl (by first | exact Go.IntWalk.i64_in _ (by omega) | exact rfl)) hS rfl rfl ?_)
                              clear hf; intro a hf
                              refine step_l (st_rd hf (Wn.none rfl) (rd_assign hf rfl rfl) hS rfl rfl ?_)
                              clear hf; intro a hf
                              refine done_l ?_
                              refine t_normal ⟨(rd + 1, at_, q, cap, TL, (frs ((byts M).take at_)).length), ((((hf.back (by repeat (first | exact Behind.refl | refine Behind.skip rfl ?_)) hk0).kb hf 11 rfl (by first | rfl | exact int_eq (by omega))).kb hf 10 rfl (by first | rfl | exact int_eq (by omega))).kb hf 9 rfl (by first | rfl | exact int_eq (by omega))), ⟨hS.sub (by repeat (first | exact Sub.refl | exact Sub.none | exact Sub.behind | (apply Sub.cons; (focus ((repeat (first | exact Sel.head | apply Sel.tail)); done))) | apply Sub.skip)), ⟨by omega, hat, hT, Nat.le_refl _, by rw [List.length_append]; omega⟩⟩, by first | omega | (simp only []; omega)⟩
                              )
                          )
                      )
                  )
              · clear hf; intro hc4 hf
                first
                | (first | exact Bool.noConfusion hc4 | exact absurd rfl hc4; done)
                | (
                  refine step_l (st_rd hf (Wn.some hf rfl rfl rfl rfl) (rd_not hf rfl rfl) hS rfl rfl ?_)
                  clear hf; intro a hf
                  refine step_l (st_rd hf (Wn.none rfl) (rd_pick_f hf rfl rfl rfl) hS rfl rfl ?_)
                  clear hf; intro a hf
                  refine done_l ?_
                  refine t_normal ?_
                  refine c_true hf rfl ?_
                  refine c_seq ?_
                  refine c_region ?_
                  refine step_l (st_rd hf (Wn.none rfl) (rd_assign hf rfl rfl) hS rfl rfl ?_)
                  clear hf; intro a hf
                  refine done_l ?_
                  refine t_normal ?_
                  refine c_ret ?_
                  refine t_ret ?_
                  refine b_ret ?_
                  refine t_ret ?_
                  refine t_ret ?_
                  refine b_ret ?_
                  refine t_ret ?_
                  refine e_res1 hf.defers rfl (res_tmp hf rfl .nil) ?_
                  exact ⟨rfl, hS.sub (by repeat (first | exact Sub.refl | exact Sub.none | exact Sub.behind | (apply Sub.cons; (focus ((repeat (first | exact Sel.head | apply Sel.tail)); done))) | apply Sub.skip))⟩
                  )
              )
          )
      )
  · clear hf; intro hc1 a hf
    first
    | (first | exact Bool.noConfusion hc1 | exact absurd rfl hc1; done)
    | (
      refine done_l ?_
      refine t_normal ?_
      refine c_false hf rfl ?_
      refine c_exit ?_
      refine t_exit ?_
      refine t_exit ?_
      refine b_exit ?_
      refine t_normal ?_
      refine c_seq ?_
      obtain ⟨w1, w2⟩ := w_frs hbig htn.e; have hbl : ((frs ((byts M).take at_)) ++ t).length ≤ 100000000 := by obtain ⟨y, k, hy, hk, rfl⟩ := htn; rw [List.length_append, List.length_take]; omega
      refine c_region ?_
      refine step_l (st_rd hf (Wn.none rfl) (rd_move hf rfl rfl) hS rfl rfl ?_)
      clear hf; intro a hf
      refine step_l (st_call hf (Wn.none rfl) rfl rfl rfl fn11 (OpenOk_c _ _ ((frs ((byts M).take at_)) ++ t) _ (hS.sel (by repeat (first | exact Sel.head | apply Sel.tail))) (by omega) (by rw [w1])) rfl rfl ?_)
      clear hf hS; rintro v a w ⟨g2, q2, cap2, L2, h2, rfl, hS⟩ hf; rw [w1] at h2; rw [w2, wS_torn hbig htn.e hs1 hs2] at hS; have hl2 : L2.length = at_ := (byts_len_eq h2).trans (by rw [List.length_take, byts_len]; omega); rw [hl2] at hf hS
      refine step_l (st_rd hf (Wn.none rfl) (rd_move hf rfl rfl) hS rfl rfl ?_)
      clear hf; intro a hf
      refine step_l (st_rd hf (Wn.none rfl) (rd_extract hf rfl rfl rfl) hS rfl rfl ?_)
      clear hf; intro a hf
      refine step_l (st_rd hf (Wn.none rfl) (rd_extract hf rfl rfl rfl) hS rfl rfl ?_)
      clear hf; intro a hf
      refine step_l (st_rd hf (Wn.none rfl) (rd_extract hf rfl rfl rfl) hS rfl rfl ?_)
      clear hf; intro a hf
      refine step_l (st_rd hf (Wn.none rfl) (rd_assign hf rfl rfl) hS rfl rfl ?_)
      clear hf; intro a hf
      refine step_l (st_rd hf (Wn.none rfl) (rd_assign hf rfl rfl) hS rfl rfl ?_)
      clear hf; intro a hf
      refine step_l (st_rd hf (Wn.none rfl) (rd_assign hf rfl rfl) hS rfl rfl ?_)
      clear hf; intro a hf
      refine done_l ?_
      refine t_normal ?_
      refine c_seq ?_
      refine c_region ?_
      refine step_l (st_rd hf (Wn.none rfl) (rd_move hf rfl rfl) hS rfl rfl ?_)
      clear hf; intro a hf
      refine step_l (st_rdB hf (Wn.none rfl) (rd_eql hf rfl rfl rfl) hS rfl rfl ?_ ?_)
      · clear hf; intro hc20 a hf
        first
        | (first | exact Bool.noConfusion hc20 | exact absurd rfl hc20; done)
        | (
          refine step_l (st_rd hf (Wn.none rfl) (rd_move hf rfl rfl) hS rfl rfl ?_)
          clear hf; intro a hf
          refine step_l (st_rd hf (Wn.some hf rfl rfl rfl rfl) (rd_move hf rfl rfl) hS rfl rfl ?_)
          clear hf; intro a hf
          refine step_l (st_rd hf (Wn.some hf rfl rfl rfl rfl) (rd_move hf rfl rfl) hS rfl rfl ?_)
          clear hf; intro a hf
          refine step_l (st_call hf (Wn.some hf rfl rfl rfl rfl) rfl rfl rfl fn17 (SameBytes_c L2 _ _ _ (M.take at_) _ _ _ hS hl2.symm (by rw [List.length_take]; omega) (by omega) (fun _ h => BB.mk (by rw [hl2]; exact h.slOfRw (xs := L2.map sval) (by repeat (first | exact Sel.head | apply Sel.tail))) (h.rws (L := L2) (by repeat (first | exact Sel.head | apply Sel.tail)))) (fun _ h => (by have hm := h.slOfRw (xs := (M.take at_).map sval) (by repeat (first | exact Sel.head | apply Sel.tail)); exact BB.sub (hv _ (h.sub (by repeat (first | exact Sub.refl | exact Sub.none | exact Sub.behind | (apply Sub.cons; (focus ((repeat (first | exact Sel.head | apply Sel.tail)); done))) | apply Sub.skip)))) (by rw [List.length_take, Nat.min_eq_left hat]; exact hm) (fun z hz => hkM.sub z (List.mem_of_mem_take hz))))) rfl rfl ?_)
          clear hf hS; rintro v a w ⟨rfl, hS⟩ hf; rw [decide_eq_true (h2.trans (byts_takeM M at_).symm)] at hf
          first | refine split_dec (d := 118) hf rfl ?_ ?_ | refine split_bool (d := 118) hf rfl ?_ ?_
          · clear hf; intro hc21 hf
            first
            | (first | exact Bool.noConfusion hc21 | exact absurd rfl hc21; done)
            | (
              refine step_l (st_rd hf (Wn.none rfl) (rd_pick_t hf rfl rfl rfl) hS rfl rfl ?_)
              clear hf; intro a hf
              refine step_l (st_rd hf (Wn.none rfl) (rd_move hf rfl rfl) hS rfl rfl ?_)
              clear hf; intro a hf
              refine step_l (st_call hf (Wn.some hf rfl rfl rfl rfl) rfl rfl rfl fn12 (awake_c hS) rfl rfl ?_)
              clear hf hS; rintro v a w ⟨rfl, hS⟩ hf
              refine step_l (st_rd hf (Wn.none rfl) (rd_pick_t hf rfl rfl rfl) hS rfl rfl ?_)
              clear hf; intro a hf
              refine step_l (st_rd hf (Wn.none rfl) (rd_assign hf rfl rfl) hS rfl rfl ?_)
              clear hf; intro a hf
              refine done_l ?_
              refine t_normal ?_
              refine c_ret ?_
              refine e_res1 hf.defers rfl (res_tmp hf rfl .nil) ?_
              exact ⟨rfl, hS.sub (by repeat (first | exact Sub.refl | exact Sub.none | exact Sub.behind | (apply Sub.cons; (focus ((repeat (first | exact Sel.head | apply Sel.tail)); done))) | apply Sub.skip))⟩
              )
          · clear hf; intro hc21 hf
            first
            | (first | exact Bool.noConfusion hc21 | exact absurd rfl hc21; done)
            | (
              refine step_l (st_rd hf (Wn.none rfl) (rd_pick_t hf rfl rfl rfl) hS rfl rfl ?_)
              clear hf; intro a hf
              refine step_l (st_rd hf (Wn.none rfl) (rd_move hf rfl rfl) hS rfl rfl ?_)
              clear hf; intro a hf
              refine step_l (st_skip hf (Wn.some hf rfl rfl rfl rfl) rfl rfl ?_)
              clear hf; intro a hf
              refine step_l (st_rd hf (Wn.none rfl) (rd_pick_f hf rfl rfl rfl) hS rfl rfl ?_)
              clear hf; intro a hf
              refine step_l (st_rd hf (Wn.none rfl) (rd_assign hf rfl rfl) hS rfl rfl ?_)
              clear hf; intro a hf
              refine done_l ?_
              refine t_normal ?_
              refine c_ret ?_
              refine e_res1 hf.defers rfl (res_tmp hf rfl .nil) ?_
              exact ⟨rfl, hS.sub (by repeat (first | exact Sub.refl | exact Sub.none | exact Sub.behind | (apply Sub.cons; (focus ((repeat (first | exact Sel.head | apply Sel.tail)); done))) | apply Sub.skip))⟩
              )
          )
      · clear hf; intro hc20 a hf
        exact absurd rfl hc20
      )

end Go.Proofs.Ytiibgekphgmjcaa
