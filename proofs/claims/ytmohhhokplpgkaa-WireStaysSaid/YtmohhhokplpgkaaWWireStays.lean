/-
  The statement WireStays, walked.
  Conditions: none.
-/
import Derived.Test.YtmohhhokplpgkaaWire2
namespace Go.Proofs.Ytmohhhokplpgkaa
open Go Go.Sl
set_option linter.unusedVariables false
set_option linter.unusedSimpArgs false
theorem ag43 : aggO Try.prog 43 = some true := by kernel_rfl
theorem fb43_5 : fieldB Try.prog 43 5 5 = true := by kernel_rfl
theorem fn17 : fnB Try.prog 17 = true := by kernel_rfl
theorem fn20 : fnB Try.prog 20 = true := by kernel_rfl
theorem fn22 : fnB Try.prog 22 = true := by kernel_rfl
theorem fn23 : fnB Try.prog 23 = true := by kernel_rfl
theorem fn24 : fnB Try.prog 24 = true := by kernel_rfl
theorem fn25 : fnB Try.prog 25 = true := by kernel_rfl
theorem fn28 : fnB Try.prog 28 = true := by kernel_rfl
theorem sz43 : (Try.prog.info? 43).map (·.size) = some 6 := by kernel_rfl
theorem zr43 : (Try.prog.info? 43).bind (·.zero) = some (.agg #[.int .i64 0, .int .u64 0, .int .i64 0, .bool false, .slice none 0 0, .int .i64 0]) := by kernel_rfl
abbrev CallT := Int × Nat × Int × Bool × Sli UInt8 × Int × Unit
def callC (x : CallT) : List Value := [.int .i64 x.1, .int .u64 (x.2.1 : Nat), .int .i64 x.2.2.1, .bool x.2.2.2.1, .slice x.2.2.2.2.1.1 x.2.2.2.2.1.2.2.length x.2.2.2.2.1.2.1, .int .i64 x.2.2.2.2.2.1]
theorem callC_len (x : CallT) : (callC x).length = 6 := rfl
structure CallOk (W : World) (R : List HP) (x : CallT) : Prop where
  num : x.2.1 < 18446744073709551616
  int : -9223372036854775808 ≤ x.2.2.1 ∧ x.2.2.1 ≤ 9223372036854775807
  len : x.2.2.2.2.1.2.2.length ≤ 140737488351232
  most : -9223372036854775808 ≤ x.2.2.2.2.2.1 ∧ x.2.2.2.2.2.1 ≤ 9223372036854775807
  view : ∀ w, Sat W R w → SlAt w x.2.2.2.2.1.1 x.2.2.2.2.1.2.2.length 1 (bvs x.2.2.2.2.1.2.2)
theorem CallOk.of {W : World} {P : Program} {e : TypeId} {x : CallT} (h : (-9223372036854775808 ≤ x.1 ∧ x.1 ≤ 9223372036854775807) ∧ x.2.1 < 18446744073709551616 ∧ (-9223372036854775808 ≤ x.2.2.1 ∧ x.2.2.1 ≤ 9223372036854775807) ∧ True ∧
    Sli.ok P W e 1 1 (fun c : UInt8 => [bv c]) (fun _ => True) x.2.2.2.2.1 ∧ (-9223372036854775808 ≤ x.2.2.2.2.2.1 ∧ x.2.2.2.2.2.1 ≤ 9223372036854775807) ∧ True) : CallOk W [Old W] x := by
  obtain ⟨_, h2, h3, _, ⟨s1, s2, s3, s4, s5, s6⟩, h6, _⟩ := h
  exact ⟨h2, h3, by omega, h6, fun w h => h.slOfOld .head (by rw [flat_bv] at s1; exact s1)⟩

set_option maxHeartbeats 4000000 in
theorem WireStays_c (bs : List UInt8) (q : Option Addr) (cap : Nat) (l : List CallT) (ql : Option Addr) (capl : Nat) {W : World} {R : List HP} {w : World} (hS : Sat W (R) w) (hb : bs.length ≤ 140737488351232) (hv : ∀ w, Sat W R w → SlAt w q bs.length 1 (bvs bs)) (hl : ∀ x ∈ l, CallOk W R x) (hvl : ∀ w, Sat W R w → SlAt w ql l.length 6 (l.flatMap callC)) : Calls Try.prog 8 [.slice q bs.length cap, .slice ql l.length capl].toArray w (Ret fun v w' => v = .bool true ∧ Sat W R w') := by
  refine fn_start 88 Try.func8 rfl rfl rfl ?_
  intro a hf
  refine c_seq ?_
  refine c_region ?_
  refine step_l (st_rd hf (Wn.none rfl) (rd_assign hf rfl rfl) hS rfl rfl ?_)
  clear hf; intro a hf
  refine done_l ?_
  refine t_normal ?_
  refine c_seq ?_
  refine c_region ?_
  refine step_l (st_rd hf (Wn.none rfl) (rd_move hf rfl rfl) hS rfl rfl ?_)
  clear hf; intro a hf
  refine step_l (st_call hf (Wn.none rfl) rfl rfl rfl fn20 (NewReader_c bs _ _ _ hS rfl (by omega) (fun _ h => hv _ h)) rfl rfl ?_)
  clear hf hS; rintro v a w ⟨pr, rfl, hS⟩ hf
  refine step_l (st_rd hf (Wn.none rfl) (rd_assign hf rfl rfl) hS rfl rfl ?_)
  clear hf; intro a hf
  refine done_l ?_
  refine t_normal ?_
  refine c_seq ?_
  refine c_seq ?_
  refine c_region ?_
  refine step_l (st_rd hf (Wn.none rfl) (rd_assign hf rfl rfl) hS rfl rfl ?_)
  clear hf; intro a hf
  refine done_l ?_
  refine t_normal ?_
  refine c_block ?_
  refine c_loop (α := Nat × RS) (fun ⟨i, s⟩ a w => Fits 88 a [(0, .slice q bs.length cap), (1, .slice ql l.length capl), (5, .pointer (some ⟨pr, 0, none⟩)), (6, .int .i64 (i : Nat))] ∧ Sat W (RdP 71 pr s :: R) w ∧ i ≤ 40 ∧ (s.2 = 0 → s.1.length + i ≤ bs.length) ∧ (¬ s.2 = 0 → s.1.length = 0)) (fun ⟨i, s⟩ => 40 - i) (0, (bs, 0)) ?_ ?_
  · exact ⟨((((hf.k0.kb hf 6 rfl (by rfl)).kb hf 5 rfl (by rfl)).kb hf 1 rfl (by rfl)).kb hf 0 rfl (by rfl)), hS.sub (by repeat (first | exact Sub.refl | exact Sub.none | (apply Sub.cons; (focus ((repeat (first | exact Sel.head | apply Sel.tail)); done))) | apply Sub.skip)), ⟨by omega, fun _ => by simp only []; omega, fun h => absurd rfl h⟩⟩
  · clear hf hS; rintro ⟨i, s⟩ a w ⟨hf, hS, ⟨hi, hs1, hs2⟩⟩
    refine c_seq ?_
    refine c_seq ?_
    refine c_region ?_
    refine step_l (st_rd hf (Wn.none rfl) (rd_move hf rfl rfl) hS rfl rfl ?_)
    clear hf; intro a hf
    refine step_l (st_rdB hf (Wn.none rfl) (rd_lss hf rfl rfl rfl) hS rfl rfl ?_ ?_)
    · clear hf; intro hc1 a hf
      first
      | (first | exact absurd rfl hc1 | exact Bool.noConfusion hc1 | exact absurd hc1 (by omega) | exact absurd hc1 (by decide) | exact absurd (by omega) hc1; done)
      | (
        refine done_l ?_
        refine t_normal ?_
        refine c_true hf rfl ?_
        refine c_skip ?_
        refine t_normal ?_
        refine c_seq ?_
        refine c_block ?_
        refine c_seq ?_
        refine c_region ?_
        refine step_l (st_rd hf (Wn.none rfl) (rd_move hf rfl rfl) hS rfl rfl ?_)
        clear hf; intro a hf
        refine step_l (st_call hf (Wn.none rfl) rfl rfl rfl fn21 (RWNum_c _ _ (hS.sel (by repeat (first | exact Sel.head | apply Sel.tail)))) rfl rfl ?_)
        clear hf hS; rintro v a w ⟨rfl, hS⟩ hf; obtain ⟨ht1, ht2⟩ := rNum_adv s hs2; generalize (rNum s).2 = t at hS ht1 ht2
        refine done_l ?_
        refine t_normal ?_
        refine c_seq ?_
        refine c_region ?_
        refine step_l (st_rd hf (Wn.none rfl) (rd_move hf rfl rfl) hS rfl rfl ?_)
        clear hf; intro a hf
        refine step_l (st_call hf (Wn.none rfl) rfl rfl rfl fn25 (RWEnd_c _ _ (hS.sel (by repeat (first | exact Sel.head | apply Sel.tail)))) rfl rfl ?_)
        clear hf hS; rintro v a w ⟨rfl, hS⟩ hf
        refine step_l (st_rdB hf (Wn.none rfl) (rd_neq hf rfl rfl rfl) hS rfl rfl ?_ ?_)
        · clear hf; intro hc2 a hf
          first
          | (first | exact absurd rfl hc2 | exact Bool.noConfusion hc2 | exact absurd hc2 (by omega) | exact absurd hc2 (by decide) | exact absurd (by omega) hc2; done)
          | (
            refine step_l (st_rd hf (Wn.none rfl) (rd_move hf rfl rfl) hS rfl rfl ?_)
            clear hf; intro a hf
            refine step_l (st_rd hf (Wn.some hf rfl rfl rfl rfl) (rd_move hf rfl rfl) hS rfl rfl ?_)
            clear hf; intro a hf
            refine step_l (st_call hf (Wn.some hf rfl rfl rfl rfl) rfl rfl rfl fn23 (RWLeft_c _ _ (hS.sel (by repeat (first | exact Sel.head | apply Sel.tail)))) rfl rfl ?_)
            clear hf hS; rintro v a w ⟨rfl, hS⟩ hf
            refine step_l (st_rdB hf (Wn.some hf rfl rfl rfl rfl) (rd_eql hf rfl rfl rfl) hS rfl rfl ?_ ?_)
            · clear hf; intro hc3 a hf
              first
              | (first | exact absurd rfl hc3 | exact Bool.noConfusion hc3 | exact absurd hc3 (by omega) | exact absurd hc3 (by decide) | exact absurd (by omega) hc3; done)
              | (
                refine step_l (st_rd hf (Wn.none rfl) (rd_pick_t hf rfl rfl rfl) hS rfl rfl ?_)
                clear hf; intro a hf
                refine done_l ?_
                refine t_normal ?_
                refine c_true hf rfl ?_
                refine c_exit ?_
                refine b_exit' (by decide) ?_
                refine t_exit ?_
                refine t_exit ?_
                refine b_exit ?_
                refine t_normal ?_
                refine c_seq ?_
                refine c_seq ?_
                refine c_region ?_
                refine step_l (st_rd hf (Wn.none rfl) (rd_move hf rfl rfl) hS rfl rfl ?_)
                clear hf; intro a hf
                refine step_l (st_call hf (Wn.none rfl) rfl rfl rfl fn23 (RWLeft_c _ _ (hS.sel (by repeat (first | exact Sel.head | apply Sel.tail)))) rfl rfl ?_)
                clear hf hS; rintro v a w ⟨rfl, hS⟩ hf
                refine step_l (st_rdB hf (Wn.none rfl) (rd_gtr hf rfl rfl rfl) hS rfl rfl ?_ ?_)
                · clear hf; intro hc4 a hf
                  first
                  | (first | exact absurd rfl hc4 | exact Bool.noConfusion hc4 | exact absurd hc4 (by omega) | exact absurd hc4 (by decide) | exact absurd (by omega) hc4; done)
                  | (
                    refine done_l ?_
                    refine t_normal ?_
                    refine c_true hf rfl ?_
                    refine c_seq ?_
                    refine c_region ?_
                    refine step_l (st_rd hf (Wn.none rfl) (rd_move hf rfl rfl) hS rfl rfl ?_)
                    clear hf; intro a hf
                    refine step_l (st_rd hf (Wn.none rfl) (rd_len hf rfl rfl Try.underlying29) hS rfl rfl ?_)
                    clear hf; intro a hf
                    refine step_l (st_rdB hf (Wn.none rfl) (rd_gtr hf rfl rfl rfl) hS rfl rfl ?_ ?_)
                    · clear hf; intro hc5 a hf
                      first
                      | (first | exact absurd rfl hc5 | exact Bool.noConfusion hc5 | exact absurd hc5 (by omega) | exact absurd hc5 (by decide) | exact absurd (by omega) hc5; done)
                      | (
                        refine step_l (st_rd hf (Wn.none rfl) (rd_move hf rfl rfl) hS rfl rfl ?_)
                        clear hf; intro a hf
                        refine step_l (st_call hf (Wn.some hf rfl rfl rfl rfl) rfl rfl rfl fn17 (awake_c hS) rfl rfl ?_)
                        clear hf hS; rintro v a w ⟨rfl, hS⟩ hf
                        refine step_l (st_rd hf (Wn.none rfl) (rd_pick_t hf rfl rfl rfl) hS rfl rfl ?_)
                        clear hf; intro a hf
                        refine step_l (st_rd hf (Wn.none rfl) (rd_assign hf rfl rfl) hS rfl rfl ?_)
                        clear hf; intro a hf
                        refine done_l ?_
                        refine t_normal ?_
                        refine c_ret ?_
                        refine t_ret ?_
                        refine e_res1 hf.defers rfl (res_tmp hf rfl .nil) ?_
                        exact ⟨rfl, hS.sub (by repeat (first | exact Sub.refl | exact Sub.none | (apply Sub.cons; (focus ((repeat (first | exact Sel.head | apply Sel.tail)); done))) | apply Sub.skip))⟩
                        )
                    · clear hf; intro hc5 a hf
                      first
                      | (first | exact absurd rfl hc5 | exact Bool.noConfusion hc5 | exact absurd hc5 (by omega) | exact absurd hc5 (by decide) | exact absurd (by omega) hc5; done)
                      | (
                        refine step_l (st_rd hf (Wn.none rfl) (rd_move hf rfl rfl) hS rfl rfl ?_)
                        clear hf; intro a hf
                        refine step_l (st_skip hf (Wn.some hf rfl rfl rfl rfl) rfl rfl ?_)
                        clear hf; intro a hf
                        refine step_l (st_rd hf (Wn.none rfl) (rd_pick_f hf rfl rfl rfl) hS rfl rfl ?_)
                        clear hf; intro a hf
                        refine step_l (st_rd hf (Wn.none rfl) (rd_assign hf rfl rfl) hS rfl rfl ?_)
                        clear hf; intro a hf
                        refine done_l ?_
                        refine t_normal ?_
                        refine c_ret ?_
                        refine t_ret ?_
                        refine e_res1 hf.defers rfl (res_tmp hf rfl .nil) ?_
                        exact ⟨rfl, hS.sub (by repeat (first | exact Sub.refl | exact Sub.none | (apply Sub.cons; (focus ((repeat (first | exact Sel.head | apply Sel.tail)); done))) | apply Sub.skip))⟩
                        )
                    )
                · clear hf; intro hc4 a hf
                  first
                  | (first | exact absurd rfl hc4 | exact Bool.noConfusion hc4 | exact absurd hc4 (by omega) | exact absurd hc4 (by decide) | exact absurd (by omega) hc4; done)
                  | (
                    refine done_l ?_
                    refine t_normal ?_
                    refine c_false hf rfl ?_
                    refine c_skip ?_
                    refine t_normal ?_
                    refine c_seq ?_
                    refine c_region ?_
                    refine step_l (st_rd hf (Wn.none rfl) (rd_move hf rfl rfl) hS rfl rfl ?_)
                    clear hf; intro a hf
                    refine step_l (st_call hf (Wn.none rfl) rfl rfl rfl fn25 (RWEnd_c _ _ (hS.sel (by repeat (first | exact Sel.head | apply Sel.tail)))) rfl rfl ?_)
                    clear hf hS; rintro v a w ⟨rfl, hS⟩ hf
                    refine step_l (st_rd hf (Wn.none rfl) (rd_assign hf rfl rfl) hS rfl rfl ?_)
                    clear hf; intro a hf
                    refine done_l ?_
                    refine t_normal ?_
                    refine c_seq ?_
                    refine c_seq ?_
                    refine c_region ?_
                    refine step_l (st_rd hf (Wn.none rfl) (rd_move hf rfl rfl) hS rfl rfl ?_)
                    clear hf; intro a hf
                    refine step_l (st_rdB hf (Wn.none rfl) (rd_eql hf rfl rfl rfl) hS rfl rfl ?_ ?_)
                    · clear hf; intro hc6 a hf
                      first
                      | (first | exact absurd rfl hc6 | exact Bool.noConfusion hc6 | exact absurd hc6 (by omega) | exact absurd hc6 (by decide) | exact absurd (by omega) hc6; done)
                      | (
                        refine done_l ?_
                        refine t_normal ?_
                        refine c_true hf rfl ?_
                        refine c_seq ?_
                        refine c_region ?_
                        refine step_l (st_call hf (Wn.none rfl) rfl rfl rfl fn17 (awake_c hS) rfl rfl ?_)
                        clear hf hS; rintro v a w ⟨rfl, hS⟩ hf
                        refine step_l (st_rd hf (Wn.none rfl) (rd_assign hf rfl rfl) hS rfl rfl ?_)
                        clear hf; intro a hf
                        refine done_l ?_
                        refine t_normal ?_
                        refine c_ret ?_
                        refine t_ret ?_
                        refine e_res1 hf.defers rfl (res_tmp hf rfl .nil) ?_
                        exact ⟨rfl, hS.sub (by repeat (first | exact Sub.refl | exact Sub.none | (apply Sub.cons; (focus ((repeat (first | exact Sel.head | apply Sel.tail)); done))) | apply Sub.skip))⟩
                        )
                    · clear hf; intro hc6 a hf
                      first | (have he : ¬ t.2 = 0 := by intro h0; apply hc6; unfold rEnd; omega) | (have he : ¬ s.2 = 0 := by intro h0; apply hc6; unfold rEnd; omega)
                      first
                      | (first | exact absurd rfl hc6 | exact Bool.noConfusion hc6 | exact absurd hc6 (by omega) | exact absurd hc6 (by decide) | exact absurd (by omega) hc6; done)
                      | (
                        refine done_l ?_
                        refine t_normal ?_
                        refine c_false hf rfl ?_
                        refine c_skip ?_
                        refine t_normal ?_
                        refine c_seq ?_
                        refine c_seq ?_
                        refine c_region ?_
                        refine step_l (st_rd hf (Wn.none rfl) (rd_assign hf rfl rfl) hS rfl rfl ?_)
                        clear hf; intro a hf
                        refine done_l ?_
                        refine t_normal ?_
                        refine c_block ?_
                        refine c_loop (α := Nat) (fun i a w => Fits 88 a [(1, .slice ql l.length capl), (5, .pointer (some ⟨pr, 0, none⟩)), (7, .int .i64 (rEnd t)), (8, .int .i64 (i : Nat))] ∧ Sat W (RdP 71 pr t :: R) w ∧ i ≤ 20) (fun i => 20 - i) 0 ?_ ?_
                        · exact ⟨((((hf.k0.kb hf 8 rfl (by rfl)).kb hf 7 rfl (by rfl)).kb hf 5 rfl (by rfl)).kb hf 1 rfl (by rfl)), hS.sub (by repeat (first | exact Sub.refl | exact Sub.none | (apply Sub.cons; (focus ((repeat (first | exact Sel.head | apply Sel.tail)); done))) | apply Sub.skip)), by omega⟩
                        · clear hf hS; rintro i a w ⟨hf, hS, hi20⟩
                          refine c_seq ?_
                          refine c_seq ?_
                          refine c_region ?_
                          refine step_l (st_rd hf (Wn.none rfl) (rd_move hf rfl rfl) hS rfl rfl ?_)
                          clear hf; intro a hf
                          refine step_l (st_rd hf (Wn.none rfl) (rd_move hf rfl rfl) hS rfl rfl ?_)
                          clear hf; intro a hf
                          refine step_l (st_rd hf (Wn.none rfl) (rd_len hf rfl rfl Try.underlying37) hS rfl rfl ?_)
                          clear hf; intro a hf
                          refine step_l (st_rdB hf (Wn.none rfl) (rd_lss hf rfl rfl rfl) hS rfl rfl ?_ ?_)
                          · clear hf; intro hc7 a hf
                            first
                            | (first | exact absurd rfl hc7 | exact Bool.noConfusion hc7 | exact absurd hc7 (by omega) | exact absurd hc7 (by decide) | exact absurd (by omega) hc7; done)
                            | (
                              refine step_l (st_rd hf (Wn.none rfl) (rd_move hf rfl rfl) hS rfl rfl ?_)
                              clear hf; intro a hf
                              refine step_l (st_rd hf (Wn.some hf rfl rfl rfl rfl) (rd_move hf rfl rfl) hS rfl rfl ?_)
                              clear hf; intro a hf
                              refine step_l (st_rdB hf (Wn.some hf rfl rfl rfl rfl) (rd_lss hf rfl rfl rfl) hS rfl rfl ?_ ?_)
                              · clear hf; intro hc8 a hf
                                obtain ⟨x, hget⟩ := get_of_lt (l := l) (k := i) (by omega) rfl; have hx := hl x (List.mem_of_getElem? hget); obtain ⟨hx1, hx2, hx3, hx4, hx5⟩ := hx; obtain ⟨adl, rfl⟩ := (hvl _ (hS.sub (by repeat (first | exact Sub.refl | exact Sub.none | (apply Sub.cons; (focus ((repeat (first | exact Sel.head | apply Sel.tail)); done))) | apply Sub.skip)))).some (by omega)
                                first
                                | (first | exact absurd rfl hc8 | exact Bool.noConfusion hc8 | exact absurd hc8 (by omega) | exact absurd hc8 (by decide) | exact absurd (by omega) hc8; done)
                                | (
                                  refine step_l (st_rd hf (Wn.none rfl) (rd_pick_t hf rfl rfl rfl) hS rfl rfl ?_)
                                  clear hf; intro a hf
                                  refine done_l ?_
                                  refine t_normal ?_
                                  refine c_true hf rfl ?_
                                  refine c_skip ?_
                                  refine t_normal ?_
                                  refine c_seq ?_
                                  refine c_block ?_
                                  refine c_seq ?_
                                  refine c_region ?_
                                  refine step_l (st_rd hf (Wn.none rfl) (rd_move hf rfl rfl) hS rfl rfl ?_)
                                  clear hf; intro a hf
                                  refine step_l (st_rd hf (Wn.none rfl) (rd_move hf rfl rfl) hS rfl rfl ?_)
                                  clear hf; intro a hf
                                  refine step_l (st_rd hf (Wn.none rfl) ((by first | exact rd_indexAddrN hf rfl rfl rfl Try.underlying37 sz43 (by omega) | exact rd_indexAddr hf rfl rfl rfl Try.underlying37 sz43 (by first | decide | omega) (by omega))) hS rfl rfl ?_)
                                  clear hf; intro a hf
                                  refine step_l (st_rd hf (Wn.none rfl) (rd_loadN hf rfl rfl ag43 sz43 (by intro _ h; exact (hvl _ (h.sub (by repeat (first | exact Sub.refl | exact Sub.none | (apply Sub.cons; (focus ((repeat (first | exact Sel.head | apply Sel.tail)); done))) | apply Sub.skip)))).elem callC_len hget)) hS rfl rfl ?_)
                                  clear hf; intro a hf
                                  refine step_l (st_alloc hf (Wn.none rfl) hS rfl zr43 (by rfl) rfl rfl ?_)
                                  clear hf hS; intro b_9 a w hf hS
                                  refine step_l (st_store hf (Wn.none rfl) hS rfl rfl rfl (by rfl) sz43 (by rfl) (by rfl) (by repeat (first | exact Sel.head | apply Sel.tail)) (by repeat (first | exact Put.nil | apply Put.cons | apply Put.succ)) rfl ?_)
                                  clear hf hS; intro a w hf hS
                                  refine done_l ?_
                                  refine t_normal ?_
                                  refine c_seq ?_
                                  refine c_region ?_
                                  refine step_l (st_rd hf (Wn.none rfl) (rd_move hf rfl rfl) hS rfl rfl ?_)
                                  clear hf; intro a hf
                                  refine step_l (st_call hf (Wn.none rfl) rfl rfl rfl fn21 (RWNum_c _ _ (hS.sel (by repeat (first | exact Sel.head | apply Sel.tail)))) rfl rfl ?_)
                                  clear hf hS; rintro v a w ⟨hvr, hS⟩ hf; rw [rNum_stay he] at hvr hS; (try dsimp only at hvr hS); subst hvr
                                  refine step_l (st_rdB hf (Wn.none rfl) (rd_neq hf rfl rfl rfl) hS rfl rfl ?_ ?_)
                                  · clear hf; intro hc10 a hf
                                    first
                                    | (first | exact absurd rfl hc10 | exact Bool.noConfusion hc10 | exact absurd hc10 (by omega) | exact absurd hc10 (by decide) | exact absurd (by omega) hc10; done)
                                    | (
                                      refine step_l (st_rd hf (Wn.none rfl) (rd_move hf rfl rfl) hS rfl rfl ?_)
                                      clear hf; intro a hf
                                      refine step_l (st_skip hf (Wn.some hf rfl rfl rfl rfl) rfl rfl ?_)
                                      clear hf; intro a hf
                                      refine step_l (st_skip hf (Wn.some hf rfl rfl rfl rfl) rfl rfl ?_)
                                      clear hf; intro a hf
                                      refine step_l (st_skip hf (Wn.some hf rfl rfl rfl rfl) rfl rfl ?_)
                                      clear hf; intro a hf
                                      refine step_l (st_rd hf (Wn.none rfl) (rd_pick_t hf rfl rfl rfl) hS rfl rfl ?_)
                                      clear hf; intro a hf
                                      refine step_l (st_rd hf (Wn.none rfl) (rd_move hf rfl rfl) hS rfl rfl ?_)
                                      clear hf; intro a hf
                                      refine step_l (st_skip hf (Wn.some hf rfl rfl rfl rfl) rfl rfl ?_)
                                      clear hf; intro a hf
                                      refine step_l (st_skip hf (Wn.some hf rfl rfl rfl rfl) rfl rfl ?_)
                                      clear hf; intro a hf
                                      refine step_l (st_rd hf (Wn.none rfl) (rd_pick_t hf rfl rfl rfl) hS rfl rfl ?_)
                                      clear hf; intro a hf
                                      refine step_l (st_rd hf (Wn.none rfl) (rd_move hf rfl rfl) hS rfl rfl ?_)
                                      clear hf; intro a hf
                                      refine step_l (st_skip hf (Wn.some hf rfl rfl rfl rfl) rfl rfl ?_)
                                      clear hf; intro a hf
                                      refine step_l (st_skip hf (Wn.some hf rfl rfl rfl rfl) rfl rfl ?_)
                                      clear hf; intro a hf
                                      refine step_l (st_skip hf (Wn.some hf rfl rfl rfl rfl) rfl rfl ?_)
                                      clear hf; intro a hf
                                      refine step_l (st_skip hf (Wn.some hf rfl rfl rfl rfl) rfl rfl ?_)
                                      clear hf; intro a hf
                                      refine step_l (st_skip hf (Wn.some hf rfl rfl rfl rfl) rfl rfl ?_)
                                      clear hf; intro a hf
                                      refine step_l (st_skip hf (Wn.some hf rfl rfl rfl rfl) rfl rfl ?_)
                                      clear hf; intro a hf
                                      refine step_l (st_rd hf (Wn.none rfl) (rd_pick_t hf rfl rfl rfl) hS rfl rfl ?_)
                                      clear hf; intro a hf
                                      refine step_l (st_rd hf (Wn.none rfl) (rd_move hf rfl rfl) hS rfl rfl ?_)
                                      clear hf; intro a hf
                                      refine step_l (st_skip hf (Wn.some hf rfl rfl rfl rfl) rfl rfl ?_)
                                      clear hf; intro a hf
                                      refine step_l (st_skip hf (Wn.some hf rfl rfl rfl rfl) rfl rfl ?_)
                                      clear hf; intro a hf
                                      refine step_l (st_skip hf (Wn.some hf rfl rfl rfl rfl) rfl rfl ?_)
                                      clear hf; intro a hf
                                      refine step_l (st_skip hf (Wn.some hf rfl rfl rfl rfl) rfl rfl ?_)
                                      clear hf; intro a hf
                                      refine step_l (st_skip hf (Wn.some hf rfl rfl rfl rfl) rfl rfl ?_)
                                      clear hf; intro a hf
                                      refine step_l (st_rd hf (Wn.none rfl) (rd_pick_t hf rfl rfl rfl) hS rfl rfl ?_)
                                      clear hf; intro a hf
                                      refine step_l (st_rd hf (Wn.none rfl) (rd_move hf rfl rfl) hS rfl rfl ?_)
                                      clear hf; intro a hf
                                      refine step_l (st_skip hf (Wn.some hf rfl rfl rfl rfl) rfl rfl ?_)
                                      clear hf; intro a hf
                                      refine step_l (st_skip hf (Wn.some hf rfl rfl rfl rfl) rfl rfl ?_)
                                      clear hf; intro a hf
                                      refine step_l (st_skip hf (Wn.some hf rfl rfl rfl rfl) rfl rfl ?_)
                                      clear hf; intro a hf
                                      refine step_l (st_skip hf (Wn.some hf rfl rfl rfl rfl) rfl rfl ?_)
                                      clear hf; intro a hf
                                      refine step_l (st_rd hf (Wn.none rfl) (rd_pick_t hf rfl rfl rfl) hS rfl rfl ?_)
                                      clear hf; intro a hf
                                      refine done_l ?_
                                      refine t_normal ?_
                                      refine c_true hf rfl ?_
                                      refine c_seq ?_
                                      refine c_region ?_
                                      refine step_l (st_rd hf (Wn.none rfl) (rd_assign hf rfl rfl) hS rfl rfl ?_)
                                      clear hf; intro a hf
                                      refine done_l ?_
                                      refine t_normal ?_
                                      refine c_ret ?_
                                      refine b_ret ?_
                                      refine t_ret ?_
                                      refine t_ret ?_
                                      refine b_ret ?_
                                      refine t_ret ?_
                                      refine e_res1 hf.defers rfl (res_tmp hf rfl .nil) ?_
                                      exact ⟨rfl, hS.sub (by repeat (first | exact Sub.refl | exact Sub.none | (apply Sub.cons; (focus ((repeat (first | exact Sel.head | apply Sel.tail)); done))) | apply Sub.skip))⟩
                                      )
                                  · clear hf; intro hc10 a hf
                                    first
                                    | (first | exact absurd rfl hc10 | exact Bool.noConfusion hc10 | exact absurd hc10 (by omega) | exact absurd hc10 (by decide) | exact absurd (by omega) hc10; done)
                                    | (
                                      refine step_l (st_rd hf (Wn.none rfl) (rd_move hf rfl rfl) hS rfl rfl ?_)
                                      clear hf; intro a hf
                                      refine step_l (st_rd hf (Wn.some hf rfl rfl rfl rfl) (rd_move hf rfl rfl) hS rfl rfl ?_)
                                      clear hf; intro a hf
                                      refine step_l (st_call hf (Wn.some hf rfl rfl rfl rfl) rfl rfl rfl fn24 (RWInt_c _ _ (hS.sel (by repeat (first | exact Sel.head | apply Sel.tail)))) rfl rfl ?_)
                                      clear hf hS; rintro v a w ⟨hvr, hS⟩ hf; rw [rInt_stay he] at hvr hS; (try dsimp only at hvr hS); subst hvr
                                      refine step_l (st_rdB hf (Wn.some hf rfl rfl rfl rfl) (rd_neq hf rfl rfl rfl) hS rfl rfl ?_ ?_)
                                      · clear hf; intro hc11 a hf
                                        first
                                        | (first | exact absurd rfl hc11 | exact Bool.noConfusion hc11 | exact absurd hc11 (by omega) | exact absurd hc11 (by decide) | exact absurd (by omega) hc11; done)
                                        | (
                                          refine step_l (st_rd hf (Wn.none rfl) (rd_pick_f hf rfl rfl rfl) hS rfl rfl ?_)
                                          clear hf; intro a hf
                                          refine step_l (st_rd hf (Wn.none rfl) (rd_move hf rfl rfl) hS rfl rfl ?_)
                                          clear hf; intro a hf
                                          refine step_l (st_skip hf (Wn.some hf rfl rfl rfl rfl) rfl rfl ?_)
                                          clear hf; intro a hf
                                          refine step_l (st_skip hf (Wn.some hf rfl rfl rfl rfl) rfl rfl ?_)
                                          clear hf; intro a hf
                                          refine step_l (st_rd hf (Wn.none rfl) (rd_pick_t hf rfl rfl rfl) hS rfl rfl ?_)
                                          clear hf; intro a hf
                                          refine step_l (st_rd hf (Wn.none rfl) (rd_move hf rfl rfl) hS rfl rfl ?_)
                                          clear hf; intro a hf
                                          refine step_l (st_skip hf (Wn.some hf rfl rfl rfl rfl) rfl rfl ?_)
                                          clear hf; intro a hf
                                          refine step_l (st_skip hf (Wn.some hf rfl rfl rfl rfl) rfl rfl ?_)
                                          clear hf; intro a hf
                                          refine step_l (st_skip hf (Wn.some hf rfl rfl rfl rfl) rfl rfl ?_)
                                          clear hf; intro a hf
                                          refine step_l (st_skip hf (Wn.some hf rfl rfl rfl rfl) rfl rfl ?_)
                                          clear hf; intro a hf
                                          refine step_l (st_skip hf (Wn.some hf rfl rfl rfl rfl) rfl rfl ?_)
                                          clear hf; intro a hf
                                          refine step_l (st_skip hf (Wn.some hf rfl rfl rfl rfl) rfl rfl ?_)
                                          clear hf; intro a hf
                                          refine step_l (st_rd hf (Wn.none rfl) (rd_pick_t hf rfl rfl rfl) hS rfl rfl ?_)
                                          clear hf; intro a hf
                                          refine step_l (st_rd hf (Wn.none rfl) (rd_move hf rfl rfl) hS rfl rfl ?_)
                                          clear hf; intro a hf
                                          refine step_l (st_skip hf (Wn.some hf rfl rfl rfl rfl) rfl rfl ?_)
                                          clear hf; intro a hf
                                          refine step_l (st_skip hf (Wn.some hf rfl rfl rfl rfl) rfl rfl ?_)
                                          clear hf; intro a hf
                                          refine step_l (st_skip hf (Wn.some hf rfl rfl rfl rfl) rfl rfl ?_)
                                          clear hf; intro a hf
                                          refine step_l (st_skip hf (Wn.some hf rfl rfl rfl rfl) rfl rfl ?_)
                                          clear hf; intro a hf
                                          refine step_l (st_skip hf (Wn.some hf rfl rfl rfl rfl) rfl rfl ?_)
                                          clear hf; intro a hf
                                          refine step_l (st_rd hf (Wn.none rfl) (rd_pick_t hf rfl rfl rfl) hS rfl rfl ?_)
                                          clear hf; intro a hf
                                          refine step_l (st_rd hf (Wn.none rfl) (rd_move hf rfl rfl) hS rfl rfl ?_)
                                          clear hf; intro a hf
                                          refine step_l (st_skip hf (Wn.some hf rfl rfl rfl rfl) rfl rfl ?_)
                                          clear hf; intro a hf
                                          refine step_l (st_skip hf (Wn.some hf rfl rfl rfl rfl) rfl rfl ?_)
                                          clear hf; intro a hf
                                          refine step_l (st_skip hf (Wn.some hf rfl rfl rfl rfl) rfl rfl ?_)
                                          clear hf; intro a hf
                                          refine step_l (st_skip hf (Wn.some hf rfl rfl rfl rfl) rfl rfl ?_)
                                          clear hf; intro a hf
                                          refine step_l (st_rd hf (Wn.none rfl) (rd_pick_t hf rfl rfl rfl) hS rfl rfl ?_)
                                          clear hf; intro a hf
                                          refine done_l ?_
                                          refine t_normal ?_
                                          refine c_true hf rfl ?_
                                          refine c_seq ?_
                                          refine c_region ?_
                                          refine step_l (st_rd hf (Wn.none rfl) (rd_assign hf rfl rfl) hS rfl rfl ?_)
                                          clear hf; intro a hf
                                          refine done_l ?_
                                          refine t_normal ?_
                                          refine c_ret ?_
                                          refine b_ret ?_
                                          refine t_ret ?_
                                          refine t_ret ?_
                                          refine b_ret ?_
                                          refine t_ret ?_
                                          refine e_res1 hf.defers rfl (res_tmp hf rfl .nil) ?_
                                          exact ⟨rfl, hS.sub (by repeat (first | exact Sub.refl | exact Sub.none | (apply Sub.cons; (focus ((repeat (first | exact Sel.head | apply Sel.tail)); done))) | apply Sub.skip))⟩
                                          )
                                      · clear hf; intro hc11 a hf
                                        first
                                        | (first | exact absurd rfl hc11 | exact Bool.noConfusion hc11 | exact absurd hc11 (by omega) | exact absurd hc11 (by decide) | exact absurd (by omega) hc11; done)
                                        | (
                                          refine step_l (st_rd hf (Wn.none rfl) (rd_pick_f hf rfl rfl rfl) hS rfl rfl ?_)
                                          clear hf; intro a hf
                                          refine step_l (st_rd hf (Wn.none rfl) (rd_move hf rfl rfl) hS rfl rfl ?_)
                                          clear hf; intro a hf
                                          refine step_l (st_rd hf (Wn.some hf rfl rfl rfl rfl) (rd_move hf rfl rfl) hS rfl rfl ?_)
                                          clear hf; intro a hf
                                          refine step_l (st_call hf (Wn.some hf rfl rfl rfl rfl) rfl rfl rfl fn28 (RWFlag_c _ _ (hS.sel (by repeat (first | exact Sel.head | apply Sel.tail)))) rfl rfl ?_)
                                          clear hf hS; rintro v a w ⟨hvr, hS⟩ hf; rw [rFlag_stay he] at hvr hS; (try dsimp only at hvr hS); subst hvr
                                          first | refine split_dec (d := 64) hf rfl ?_ ?_ | refine split_bool (d := 64) hf rfl ?_ ?_
                                          · clear hf; intro hc12 hf
                                            first
                                            | (first | exact absurd rfl hc12 | exact Bool.noConfusion hc12 | exact absurd hc12 (by omega) | exact absurd hc12 (by decide) | exact absurd (by omega) hc12; done)
                                            | (
                                              refine step_l (st_rd hf (Wn.none rfl) (rd_pick_f hf rfl rfl rfl) hS rfl rfl ?_)
                                              clear hf; intro a hf
                                              refine step_l (st_rd hf (Wn.none rfl) (rd_move hf rfl rfl) hS rfl rfl ?_)
                                              clear hf; intro a hf
                                              refine step_l (st_skip hf (Wn.some hf rfl rfl rfl rfl) rfl rfl ?_)
                                              clear hf; intro a hf
                                              refine step_l (st_skip hf (Wn.some hf rfl rfl rfl rfl) rfl rfl ?_)
                                              clear hf; intro a hf
                                              refine step_l (st_skip hf (Wn.some hf rfl rfl rfl rfl) rfl rfl ?_)
                                              clear hf; intro a hf
                                              refine step_l (st_skip hf (Wn.some hf rfl rfl rfl rfl) rfl rfl ?_)
                                              clear hf; intro a hf
                                              refine step_l (st_skip hf (Wn.some hf rfl rfl rfl rfl) rfl rfl ?_)
                                              clear hf; intro a hf
                                              refine step_l (st_skip hf (Wn.some hf rfl rfl rfl rfl) rfl rfl ?_)
                                              clear hf; intro a hf
                                              refine step_l (st_rd hf (Wn.none rfl) (rd_pick_t hf rfl rfl rfl) hS rfl rfl ?_)
                                              clear hf; intro a hf
                                              refine step_l (st_rd hf (Wn.none rfl) (rd_move hf rfl rfl) hS rfl rfl ?_)
                                              clear hf; intro a hf
                                              refine step_l (st_skip hf (Wn.some hf rfl rfl rfl rfl) rfl rfl ?_)
                                              clear hf; intro a hf
                                              refine step_l (st_skip hf (Wn.some hf rfl rfl rfl rfl) rfl rfl ?_)
                                              clear hf; intro a hf
                                              refine step_l (st_skip hf (Wn.some hf rfl rfl rfl rfl) rfl rfl ?_)
                                              clear hf; intro a hf
                                              refine step_l (st_skip hf (Wn.some hf rfl rfl rfl rfl) rfl rfl ?_)
                                              clear hf; intro a hf
                                              refine step_l (st_skip hf (Wn.some hf rfl rfl rfl rfl) rfl rfl ?_)
                                              clear hf; intro a hf
                                              refine step_l (st_rd hf (Wn.none rfl) (rd_pick_t hf rfl rfl rfl) hS rfl rfl ?_)
                                              clear hf; intro a hf
                                              refine step_l (st_rd hf (Wn.none rfl) (rd_move hf rfl rfl) hS rfl rfl ?_)
                                              clear hf; intro a hf
                                              refine step_l (st_skip hf (Wn.some hf rfl rfl rfl rfl) rfl rfl ?_)
                                              clear hf; intro a hf
                                              refine step_l (st_skip hf (Wn.some hf rfl rfl rfl rfl) rfl rfl ?_)
                                              clear hf; intro a hf
                                              refine step_l (st_skip hf (Wn.some hf rfl rfl rfl rfl) rfl rfl ?_)
                                              clear hf; intro a hf
                                              refine step_l (st_skip hf (Wn.some hf rfl rfl rfl rfl) rfl rfl ?_)
                                              clear hf; intro a hf
                                              refine step_l (st_rd hf (Wn.none rfl) (rd_pick_t hf rfl rfl rfl) hS rfl rfl ?_)
                                              clear hf; intro a hf
                                              refine done_l ?_
                                              refine t_normal ?_
                                              refine c_true hf rfl ?_
                                              refine c_seq ?_
                                              refine c_region ?_
                                              refine step_l (st_rd hf (Wn.none rfl) (rd_assign hf rfl rfl) hS rfl rfl ?_)
                                              clear hf; intro a hf
                                              refine done_l ?_
                                              refine t_normal ?_
                                              refine c_ret ?_
                                              refine b_ret ?_
                                              refine t_ret ?_
                                              refine t_ret ?_
                                              refine b_ret ?_
                                              refine t_ret ?_
                                              refine e_res1 hf.defers rfl (res_tmp hf rfl .nil) ?_
                                              exact ⟨rfl, hS.sub (by repeat (first | exact Sub.refl | exact Sub.none | (apply Sub.cons; (focus ((repeat (first | exact Sel.head | apply Sel.tail)); done))) | apply Sub.skip))⟩
                                              )
                                          · clear hf; intro hc12 hf
                                            first
                                            | (first | exact absurd rfl hc12 | exact Bool.noConfusion hc12 | exact absurd hc12 (by omega) | exact absurd hc12 (by decide) | exact absurd (by omega) hc12; done)
                                            | (
                                              refine step_l (st_rd hf (Wn.none rfl) (rd_pick_f hf rfl rfl rfl) hS rfl rfl ?_)
                                              clear hf; intro a hf
                                              refine step_l (st_rd hf (Wn.none rfl) (rd_move hf rfl rfl) hS rfl rfl ?_)
                                              clear hf; intro a hf
                                              refine step_l (st_rd hf (Wn.some hf rfl rfl rfl rfl) (rd_move hf rfl rfl) hS rfl rfl ?_)
                                              clear hf; intro a hf
                                              refine step_l (st_rd hf (Wn.some hf rfl rfl rfl rfl) (rd_fieldAddrB hf rfl rfl fb43_5 rfl) hS rfl rfl ?_)
                                              clear hf; intro a hf
                                              refine step_l (st_rd hf (Wn.some hf rfl rfl rfl rfl) (rd_load1 hf rfl rfl ag3 (by intro _ h; first | exact h.cell (by repeat (first | exact Sel.head | apply Sel.tail)) (by rfl))) hS rfl rfl ?_)
                                              clear hf; intro a hf
                                              refine step_l (st_call hf (Wn.some hf rfl rfl rfl rfl) rfl rfl rfl fn22 (RWText_c _ _ _ (hS.sel (by repeat (first | exact Sel.head | apply Sel.tail))) (by assumption) (by omega)) rfl rfl ?_)
                                              clear hf hS; rintro v a w ⟨qt_13, capt_13, hvr, hS⟩ hf; rw [rText_stay he] at hvr hS; (try dsimp only at hvr hS); subst hvr
                                              refine step_l (st_rd hf (Wn.some hf rfl rfl rfl rfl) (rd_len hf rfl rfl Try.underlying29) hS rfl rfl ?_)
                                              clear hf; intro a hf
                                              refine step_l (st_rdB hf (Wn.some hf rfl rfl rfl rfl) (rd_gtr hf rfl rfl rfl) hS rfl rfl ?_ ?_)
                                              · clear hf; intro hc14 a hf
                                                first
                                                | (first | exact absurd rfl hc14 | exact Bool.noConfusion hc14 | exact absurd hc14 (by omega) | exact absurd hc14 (by decide) | exact absurd (by omega) hc14; done)
                                                | (
                                                  refine step_l (st_rd hf (Wn.none rfl) (rd_pick_f hf rfl rfl rfl) hS rfl rfl ?_)
                                                  clear hf; intro a hf
                                                  refine step_l (st_rd hf (Wn.none rfl) (rd_move hf rfl rfl) hS rfl rfl ?_)
                                                  clear hf; intro a hf
                                                  refine step_l (st_skip hf (Wn.some hf rfl rfl rfl rfl) rfl rfl ?_)
                                                  clear hf; intro a hf
                                                  refine step_l (st_skip hf (Wn.some hf rfl rfl rfl rfl) rfl rfl ?_)
                                                  clear hf; intro a hf
                                                  refine step_l (st_skip hf (Wn.some hf rfl rfl rfl rfl) rfl rfl ?_)
                                                  clear hf; intro a hf
                                                  refine step_l (st_skip hf (Wn.some hf rfl rfl rfl rfl) rfl rfl ?_)
                                                  clear hf; intro a hf
                                                  refine step_l (st_skip hf (Wn.some hf rfl rfl rfl rfl) rfl rfl ?_)
                                                  clear hf; intro a hf
                                                  refine step_l (st_rd hf (Wn.none rfl) (rd_pick_t hf rfl rfl rfl) hS rfl rfl ?_)
                                                  clear hf; intro a hf
                                                  refine step_l (st_rd hf (Wn.none rfl) (rd_move hf rfl rfl) hS rfl rfl ?_)
                                                  clear hf; intro a hf
                                                  refine step_l (st_skip hf (Wn.some hf rfl rfl rfl rfl) rfl rfl ?_)
                                                  clear hf; intro a hf
                                                  refine step_l (st_skip hf (Wn.some hf rfl rfl rfl rfl) rfl rfl ?_)
                                                  clear hf; intro a hf
                                                  refine step_l (st_skip hf (Wn.some hf rfl rfl rfl rfl) rfl rfl ?_)
                                                  clear hf; intro a hf
                                                  refine step_l (st_skip hf (Wn.some hf rfl rfl rfl rfl) rfl rfl ?_)
                                                  clear hf; intro a hf
                                                  refine step_l (st_rd hf (Wn.none rfl) (rd_pick_t hf rfl rfl rfl) hS rfl rfl ?_)
                                                  clear hf; intro a hf
                                                  refine done_l ?_
                                                  refine t_normal ?_
                                                  refine c_true hf rfl ?_
                                                  refine c_seq ?_
                                                  refine c_region ?_
                                                  refine step_l (st_rd hf (Wn.none rfl) (rd_assign hf rfl rfl) hS rfl rfl ?_)
                                                  clear hf; intro a hf
                                                  refine done_l ?_
                                                  refine t_normal ?_
                                                  refine c_ret ?_
                                                  refine b_ret ?_
                                                  refine t_ret ?_
                                                  refine t_ret ?_
                                                  refine b_ret ?_
                                                  refine t_ret ?_
                                                  refine e_res1 hf.defers rfl (res_tmp hf rfl .nil) ?_
                                                  exact ⟨rfl, hS.sub (by repeat (first | exact Sub.refl | exact Sub.none | (apply Sub.cons; (focus ((repeat (first | exact Sel.head | apply Sel.tail)); done))) | apply Sub.skip))⟩
                                                  )
                                              · clear hf; intro hc14 a hf
                                                first
                                                | (first | exact absurd rfl hc14 | exact Bool.noConfusion hc14 | exact absurd hc14 (by omega) | exact absurd hc14 (by decide) | exact absurd (by omega) hc14; done)
                                                | (
                                                  refine step_l (st_rd hf (Wn.none rfl) (rd_pick_f hf rfl rfl rfl) hS rfl rfl ?_)
                                                  clear hf; intro a hf
                                                  refine step_l (st_rd hf (Wn.none rfl) (rd_move hf rfl rfl) hS rfl rfl ?_)
                                                  clear hf; intro a hf
                                                  refine step_l (st_rd hf (Wn.some hf rfl rfl rfl rfl) (rd_move hf rfl rfl) hS rfl rfl ?_)
                                                  clear hf; intro a hf
                                                  refine step_l (st_rd hf (Wn.some hf rfl rfl rfl rfl) (rd_fieldAddrB hf rfl rfl fb43_5 rfl) hS rfl rfl ?_)
                                                  clear hf; intro a hf
                                                  refine step_l (st_rd hf (Wn.some hf rfl rfl rfl rfl) (rd_load1 hf rfl rfl ag3 (by intro _ h; first | exact h.cell (by repeat (first | exact Sel.head | apply Sel.tail)) (by rfl))) hS rfl rfl ?_)
                                                  clear hf; intro a hf
                                                  refine step_l (st_call hf (Wn.some hf rfl rfl rfl rfl) rfl rfl rfl fn31 (RWCount_c _ _ _ (hS.sel (by repeat (first | exact Sel.head | apply Sel.tail))) (by first | assumption | exact ⟨by omega, by omega⟩)) rfl rfl ?_)
                                                  clear hf hS; rintro v a w ⟨hvr, hS⟩ hf; rw [rCount_stay he] at hvr hS; (try dsimp only at hvr hS); subst hvr
                                                  refine step_l (st_rdB hf (Wn.some hf rfl rfl rfl rfl) (rd_neq hf rfl rfl rfl) hS rfl rfl ?_ ?_)
                                                  · clear hf; intro hc15 a hf
                                                    first
                                                    | (first | exact absurd rfl hc15 | exact Bool.noConfusion hc15 | exact absurd hc15 (by omega) | exact absurd hc15 (by decide) | exact absurd (by omega) hc15; done)
                                                    | (
                                                      refine step_l (st_rd hf (Wn.none rfl) (rd_pick_f hf rfl rfl rfl) hS rfl rfl ?_)
                                                      clear hf; intro a hf
                                                      refine step_l (st_rd hf (Wn.none rfl) (rd_move hf rfl rfl) hS rfl rfl ?_)
                                                      clear hf; intro a hf
                                                      refine step_l (st_skip hf (Wn.some hf rfl rfl rfl rfl) rfl rfl ?_)
                                                      clear hf; intro a hf
                                                      refine step_l (st_skip hf (Wn.some hf rfl rfl rfl rfl) rfl rfl ?_)
                                                      clear hf; intro a hf
                                                      refine step_l (st_skip hf (Wn.some hf rfl rfl rfl rfl) rfl rfl ?_)
                                                      clear hf; intro a hf
                                                      refine step_l (st_skip hf (Wn.some hf rfl rfl rfl rfl) rfl rfl ?_)
                                                      clear hf; intro a hf
                                                      refine step_l (st_rd hf (Wn.none rfl) (rd_pick_t hf rfl rfl rfl) hS rfl rfl ?_)
                                                      clear hf; intro a hf
                                                      refine done_l ?_
                                                      refine t_normal ?_
                                                      refine c_true hf rfl ?_
                                                      refine c_seq ?_
                                                      refine c_region ?_
                                                      refine step_l (st_rd hf (Wn.none rfl) (rd_assign hf rfl rfl) hS rfl rfl ?_)
                                                      clear hf; intro a hf
                                                      refine done_l ?_
                                                      refine t_normal ?_
                                                      refine c_ret ?_
                                                      refine b_ret ?_
                                                      refine t_ret ?_
                                                      refine t_ret ?_
                                                      refine b_ret ?_
                                                      refine t_ret ?_
                                                      refine e_res1 hf.defers rfl (res_tmp hf rfl .nil) ?_
                                                      exact ⟨rfl, hS.sub (by repeat (first | exact Sub.refl | exact Sub.none | (apply Sub.cons; (focus ((repeat (first | exact Sel.head | apply Sel.tail)); done))) | apply Sub.skip))⟩
                                                      )
                                                  · clear hf; intro hc15 a hf
                                                    first
                                                    | (first | exact absurd rfl hc15 | exact Bool.noConfusion hc15 | exact absurd hc15 (by omega) | exact absurd hc15 (by decide) | exact absurd (by omega) hc15; done)
                                                    | (
                                                      refine step_l (st_rd hf (Wn.none rfl) (rd_pick_f hf rfl rfl rfl) hS rfl rfl ?_)
                                                      clear hf; intro a hf
                                                      refine step_l (st_rd hf (Wn.none rfl) (rd_move hf rfl rfl) hS rfl rfl ?_)
                                                      clear hf; intro a hf
                                                      refine step_l (st_rd hf (Wn.some hf rfl rfl rfl rfl) (rd_move hf rfl rfl) hS rfl rfl ?_)
                                                      clear hf; intro a hf
                                                      refine step_l (st_call hf (Wn.some hf rfl rfl rfl rfl) rfl rfl rfl fn25 (RWEnd_c _ _ (hS.sel (by repeat (first | exact Sel.head | apply Sel.tail)))) rfl rfl ?_)
                                                      clear hf hS; rintro v a w ⟨rfl, hS⟩ hf
                                                      refine step_l (st_rd hf (Wn.some hf rfl rfl rfl rfl) (rd_move hf rfl rfl) hS rfl rfl ?_)
                                                      clear hf; intro a hf
                                                      refine step_l (st_rdB hf (Wn.some hf rfl rfl rfl rfl) (rd_neq hf rfl rfl rfl) hS rfl rfl ?_ ?_)
                                                      · clear hf; intro hc16 a hf
                                                        first
                                                        | (first | exact absurd rfl hc16 | exact Bool.noConfusion hc16 | exact absurd hc16 (by omega) | exact absurd hc16 (by decide) | exact absurd (by omega) hc16; done)
                                                        | (
                                                          refine step_l (st_rd hf (Wn.none rfl) (rd_pick_f hf rfl rfl rfl) hS rfl rfl ?_)
                                                          clear hf; intro a hf
                                                          refine done_l ?_
                                                          refine t_normal ?_
                                                          refine c_true hf rfl ?_
                                                          refine c_seq ?_
                                                          refine c_region ?_
                                                          refine step_l (st_rd hf (Wn.none rfl) (rd_assign hf rfl rfl) hS rfl rfl ?_)
                                                          clear hf; intro a hf
                                                          refine done_l ?_
                                                          refine t_normal ?_
                                                          refine c_ret ?_
                                                          refine b_ret ?_
                                                          refine t_ret ?_
                                                          refine t_ret ?_
                                                          refine b_ret ?_
                                                          refine t_ret ?_
                                                          refine e_res1 hf.defers rfl (res_tmp hf rfl .nil) ?_
                                                          exact ⟨rfl, hS.sub (by repeat (first | exact Sub.refl | exact Sub.none | (apply Sub.cons; (focus ((repeat (first | exact Sel.head | apply Sel.tail)); done))) | apply Sub.skip))⟩
                                                          )
                                                      · clear hf; intro hc16 a hf
                                                        first
                                                        | (first | exact absurd rfl hc16 | exact Bool.noConfusion hc16 | exact absurd hc16 (by omega) | exact absurd hc16 (by decide) | exact absurd (by omega) hc16; done)
                                                        | (
                                                          refine step_l (st_rd hf (Wn.none rfl) (rd_pick_f hf rfl rfl rfl) hS rfl rfl ?_)
                                                          clear hf; intro a hf
                                                          refine done_l ?_
                                                          refine t_normal ?_
                                                          refine c_false hf rfl ?_
                                                          refine c_skip ?_
                                                          refine b_normal ?_
                                                          refine t_normal ?_
                                                          refine c_region ?_
                                                          refine step_l (st_rd hf (Wn.none rfl) (rd_move hf rfl rfl) hS rfl rfl ?_)
                                                          clear hf; intro a hf
                                                          refine step_l (st_rd hf (Wn.none rfl) (rd_add hf rfl rfl rfl (by first | exact Go.IntWalk.i64_in _ (by omega) | exact rfl)) hS rfl rfl ?_)
                                                          clear hf; intro a hf
                                                          refine step_l (st_rd hf (Wn.none rfl) (rd_assign hf rfl rfl) hS rfl rfl ?_)
                                                          clear hf; intro a hf
                                                          refine done_l ?_
                                                          refine t_normal ⟨i + 1, ⟨((((hf.k0.kb hf 8 rfl (by first | rfl | exact int_eq (by omega))).kb hf 7 rfl (by rfl)).kb hf 5 rfl (by rfl)).kb hf 1 rfl (by rfl)), hS.sub (by repeat (first | exact Sub.refl | exact Sub.none | (apply Sub.cons; (focus ((repeat (first | exact Sel.head | apply Sel.tail)); done))) | apply Sub.skip)), by omega⟩, by first | omega | (simp only []; omega)⟩
                                                          )
                                                      )
                                                  )
                                              )
                                          )
                                      )
                                  )
                              · clear hf; intro hc8 a hf
                                first
                                | (first | exact absurd rfl hc8 | exact Bool.noConfusion hc8 | exact absurd hc8 (by omega) | exact absurd hc8 (by decide) | exact absurd (by omega) hc8; done)
                                | (
                                  refine step_l (st_rd hf (Wn.none rfl) (rd_pick_t hf rfl rfl rfl) hS rfl rfl ?_)
                                  clear hf; intro a hf
                                  refine done_l ?_
                                  refine t_normal ?_
                                  refine c_false hf rfl ?_
                                  refine c_exit ?_
                                  refine t_exit ?_
                                  refine t_exit ?_
                                  refine b_exit ?_
                                  refine t_normal ?_
                                  refine c_seq ?_
                                  refine c_region ?_
                                  refine step_l (st_call hf (Wn.none rfl) rfl rfl rfl fn17 (awake_c hS) rfl rfl ?_)
                                  clear hf hS; rintro v a w ⟨rfl, hS⟩ hf
                                  refine step_l (st_rd hf (Wn.none rfl) (rd_assign hf rfl rfl) hS rfl rfl ?_)
                                  clear hf; intro a hf
                                  refine done_l ?_
                                  refine t_normal ?_
                                  refine c_ret ?_
                                  refine e_res1 hf.defers rfl (res_tmp hf rfl .nil) ?_
                                  exact ⟨rfl, hS.sub (by repeat (first | exact Sub.refl | exact Sub.none | (apply Sub.cons; (focus ((repeat (first | exact Sel.head | apply Sel.tail)); done))) | apply Sub.skip))⟩
                                  )
                              )
                          · clear hf; intro hc7 a hf
                            first
                            | (first | exact absurd rfl hc7 | exact Bool.noConfusion hc7 | exact absurd hc7 (by omega) | exact absurd hc7 (by decide) | exact absurd (by omega) hc7; done)
                            | (
                              refine step_l (st_rd hf (Wn.none rfl) (rd_move hf rfl rfl) hS rfl rfl ?_)
                              clear hf; intro a hf
                              refine step_l (st_skip hf (Wn.some hf rfl rfl rfl rfl) rfl rfl ?_)
                              clear hf; intro a hf
                              refine step_l (st_skip hf (Wn.some hf rfl rfl rfl rfl) rfl rfl ?_)
                              clear hf; intro a hf
                              refine step_l (st_rd hf (Wn.none rfl) (rd_pick_f hf rfl rfl rfl) hS rfl rfl ?_)
                              clear hf; intro a hf
                              refine done_l ?_
                              refine t_normal ?_
                              refine c_false hf rfl ?_
                              refine c_exit ?_
                              refine t_exit ?_
                              refine t_exit ?_
                              refine b_exit ?_
                              refine t_normal ?_
                              refine c_seq ?_
                              refine c_region ?_
                              refine step_l (st_call hf (Wn.none rfl) rfl rfl rfl fn17 (awake_c hS) rfl rfl ?_)
                              clear hf hS; rintro v a w ⟨rfl, hS⟩ hf
                              refine step_l (st_rd hf (Wn.none rfl) (rd_assign hf rfl rfl) hS rfl rfl ?_)
                              clear hf; intro a hf
                              refine done_l ?_
                              refine t_normal ?_
                              refine c_ret ?_
                              refine e_res1 hf.defers rfl (res_tmp hf rfl .nil) ?_
                              exact ⟨rfl, hS.sub (by repeat (first | exact Sub.refl | exact Sub.none | (apply Sub.cons; (focus ((repeat (first | exact Sel.head | apply Sel.tail)); done))) | apply Sub.skip))⟩
                              )
                        )
                    )
                )
            · clear hf; intro hc3 a hf
              first
              | (first | exact absurd rfl hc3 | exact Bool.noConfusion hc3 | exact absurd hc3 (by omega) | exact absurd hc3 (by decide) | exact absurd (by omega) hc3; done)
              | (
                refine step_l (st_rd hf (Wn.none rfl) (rd_pick_t hf rfl rfl rfl) hS rfl rfl ?_)
                clear hf; intro a hf
                refine done_l ?_
                refine t_normal ?_
                refine c_false hf rfl ?_
                refine c_skip ?_
                refine b_normal ?_
                refine t_normal ?_
                refine c_region ?_
                refine step_l (st_rd hf (Wn.none rfl) (rd_move hf rfl rfl) hS rfl rfl ?_)
                clear hf; intro a hf
                refine step_l (st_rd hf (Wn.none rfl) (rd_add hf rfl rfl rfl (by first | exact Go.IntWalk.i64_in _ (by omega) | exact rfl)) hS rfl rfl ?_)
                clear hf; intro a hf
                refine step_l (st_rd hf (Wn.none rfl) (rd_assign hf rfl rfl) hS rfl rfl ?_)
                clear hf; intro a hf
                refine done_l ?_
                refine t_normal ⟨(i + 1, t), ⟨((((hf.k0.kb hf 6 rfl (by first | rfl | exact int_eq (by omega))).kb hf 5 rfl (by rfl)).kb hf 1 rfl (by rfl)).kb hf 0 rfl (by rfl)), hS.sub (by repeat (first | exact Sub.refl | exact Sub.none | (apply Sub.cons; (focus ((repeat (first | exact Sel.head | apply Sel.tail)); done))) | apply Sub.skip)), ⟨by omega, fun h => by have := ht1 h; have := hs1 this.1; omega, ht2⟩⟩, by first | omega | (simp only []; omega)⟩
                )
            )
        · clear hf; intro hc2 a hf
          first
          | (first | exact absurd rfl hc2 | exact Bool.noConfusion hc2 | exact absurd hc2 (by omega) | exact absurd hc2 (by decide) | exact absurd (by omega) hc2; done)
          | (
            refine step_l (st_rd hf (Wn.none rfl) (rd_move hf rfl rfl) hS rfl rfl ?_)
            clear hf; intro a hf
            refine step_l (st_skip hf (Wn.some hf rfl rfl rfl rfl) rfl rfl ?_)
            clear hf; intro a hf
            refine step_l (st_skip hf (Wn.some hf rfl rfl rfl rfl) rfl rfl ?_)
            clear hf; intro a hf
            refine step_l (st_skip hf (Wn.some hf rfl rfl rfl rfl) rfl rfl ?_)
            clear hf; intro a hf
            refine step_l (st_rd hf (Wn.none rfl) (rd_pick_f hf rfl rfl rfl) hS rfl rfl ?_)
            clear hf; intro a hf
            refine done_l ?_
            refine t_normal ?_
            refine c_false hf rfl ?_
            refine c_skip ?_
            refine b_normal ?_
            refine t_normal ?_
            refine c_region ?_
            refine step_l (st_rd hf (Wn.none rfl) (rd_move hf rfl rfl) hS rfl rfl ?_)
            clear hf; intro a hf
            refine step_l (st_rd hf (Wn.none rfl) (rd_add hf rfl rfl rfl (by first | exact Go.IntWalk.i64_in _ (by omega) | exact rfl)) hS rfl rfl ?_)
            clear hf; intro a hf
            refine step_l (st_rd hf (Wn.none rfl) (rd_assign hf rfl rfl) hS rfl rfl ?_)
            clear hf; intro a hf
            refine done_l ?_
            refine t_normal ⟨(i + 1, t), ⟨((((hf.k0.kb hf 6 rfl (by first | rfl | exact int_eq (by omega))).kb hf 5 rfl (by rfl)).kb hf 1 rfl (by rfl)).kb hf 0 rfl (by rfl)), hS.sub (by repeat (first | exact Sub.refl | exact Sub.none | (apply Sub.cons; (focus ((repeat (first | exact Sel.head | apply Sel.tail)); done))) | apply Sub.skip)), ⟨by omega, fun h => by have := ht1 h; have := hs1 this.1; omega, ht2⟩⟩, by first | omega | (simp only []; omega)⟩
            )
        )
    · clear hf; intro hc1 a hf
      first
      | (first | exact absurd rfl hc1 | exact Bool.noConfusion hc1 | exact absurd hc1 (by omega) | exact absurd hc1 (by decide) | exact absurd (by omega) hc1; done)
      | (
        refine done_l ?_
        refine t_normal ?_
        refine c_false hf rfl ?_
        refine c_exit ?_
        refine t_exit ?_
        refine t_exit ?_
        refine b_exit ?_
        refine t_normal ?_
        refine c_seq ?_
        refine c_seq ?_
        refine c_region ?_
        refine step_l (st_rd hf (Wn.none rfl) (rd_move hf rfl rfl) hS rfl rfl ?_)
        clear hf; intro a hf
        refine step_l (st_call hf (Wn.none rfl) rfl rfl rfl fn23 (RWLeft_c _ _ (hS.sel (by repeat (first | exact Sel.head | apply Sel.tail)))) rfl rfl ?_)
        clear hf hS; rintro v a w ⟨rfl, hS⟩ hf
        refine step_l (st_rdB hf (Wn.none rfl) (rd_gtr hf rfl rfl rfl) hS rfl rfl ?_ ?_)
        · clear hf; intro hc17 a hf
          first
          | (first | exact absurd rfl hc17 | exact Bool.noConfusion hc17 | exact absurd hc17 (by omega) | exact absurd hc17 (by decide) | exact absurd (by omega) hc17; done)
          | (
            refine done_l ?_
            refine t_normal ?_
            refine c_true hf rfl ?_
            refine c_seq ?_
            refine c_region ?_
            refine step_l (st_rd hf (Wn.none rfl) (rd_move hf rfl rfl) hS rfl rfl ?_)
            clear hf; intro a hf
            refine step_l (st_rd hf (Wn.none rfl) (rd_len hf rfl rfl Try.underlying29) hS rfl rfl ?_)
            clear hf; intro a hf
            refine step_l (st_rdB hf (Wn.none rfl) (rd_gtr hf rfl rfl rfl) hS rfl rfl ?_ ?_)
            · clear hf; intro hc18 a hf
              first
              | (first | exact absurd rfl hc18 | exact Bool.noConfusion hc18 | exact absurd hc18 (by omega) | exact absurd hc18 (by decide) | exact absurd (by omega) hc18; done)
              | (
                refine step_l (st_rd hf (Wn.none rfl) (rd_move hf rfl rfl) hS rfl rfl ?_)
                clear hf; intro a hf
                refine step_l (st_call hf (Wn.some hf rfl rfl rfl rfl) rfl rfl rfl fn17 (awake_c hS) rfl rfl ?_)
                clear hf hS; rintro v a w ⟨rfl, hS⟩ hf
                refine step_l (st_rd hf (Wn.none rfl) (rd_pick_t hf rfl rfl rfl) hS rfl rfl ?_)
                clear hf; intro a hf
                refine step_l (st_rd hf (Wn.none rfl) (rd_assign hf rfl rfl) hS rfl rfl ?_)
                clear hf; intro a hf
                refine done_l ?_
                refine t_normal ?_
                refine c_ret ?_
                refine t_ret ?_
                refine e_res1 hf.defers rfl (res_tmp hf rfl .nil) ?_
                exact ⟨rfl, hS.sub (by repeat (first | exact Sub.refl | exact Sub.none | (apply Sub.cons; (focus ((repeat (first | exact Sel.head | apply Sel.tail)); done))) | apply Sub.skip))⟩
                )
            · clear hf; intro hc18 a hf
              first
              | (first | exact absurd rfl hc18 | exact Bool.noConfusion hc18 | exact absurd hc18 (by omega) | exact absurd hc18 (by decide) | exact absurd (by omega) hc18; done)
              | (
                refine step_l (st_rd hf (Wn.none rfl) (rd_move hf rfl rfl) hS rfl rfl ?_)
                clear hf; intro a hf
                refine step_l (st_skip hf (Wn.some hf rfl rfl rfl rfl) rfl rfl ?_)
                clear hf; intro a hf
                refine step_l (st_rd hf (Wn.none rfl) (rd_pick_f hf rfl rfl rfl) hS rfl rfl ?_)
                clear hf; intro a hf
                refine step_l (st_rd hf (Wn.none rfl) (rd_assign hf rfl rfl) hS rfl rfl ?_)
                clear hf; intro a hf
                refine done_l ?_
                refine t_normal ?_
                refine c_ret ?_
                refine t_ret ?_
                refine e_res1 hf.defers rfl (res_tmp hf rfl .nil) ?_
                exact ⟨rfl, hS.sub (by repeat (first | exact Sub.refl | exact Sub.none | (apply Sub.cons; (focus ((repeat (first | exact Sel.head | apply Sel.tail)); done))) | apply Sub.skip))⟩
                )
            )
        · clear hf; intro hc17 a hf
          first
          | (first | exact absurd rfl hc17 | exact Bool.noConfusion hc17 | exact absurd hc17 (by omega) | exact absurd hc17 (by decide) | exact absurd (by omega) hc17; done)
          | (
            refine done_l ?_
            refine t_normal ?_
            refine c_false hf rfl ?_
            refine c_skip ?_
            refine t_normal ?_
            refine c_seq ?_
            refine c_region ?_
            refine step_l (st_rd hf (Wn.none rfl) (rd_move hf rfl rfl) hS rfl rfl ?_)
            clear hf; intro a hf
            refine step_l (st_call hf (Wn.none rfl) rfl rfl rfl fn25 (RWEnd_c _ _ (hS.sel (by repeat (first | exact Sel.head | apply Sel.tail)))) rfl rfl ?_)
            clear hf hS; rintro v a w ⟨rfl, hS⟩ hf
            refine step_l (st_rd hf (Wn.none rfl) (rd_assign hf rfl rfl) hS rfl rfl ?_)
            clear hf; intro a hf
            refine done_l ?_
            refine t_normal ?_
            refine c_seq ?_
            refine c_seq ?_
            refine c_region ?_
            refine step_l (st_rd hf (Wn.none rfl) (rd_move hf rfl rfl) hS rfl rfl ?_)
            clear hf; intro a hf
            refine step_l (st_rdB hf (Wn.none rfl) (rd_eql hf rfl rfl rfl) hS rfl rfl ?_ ?_)
            · clear hf; intro hc19 a hf
              first
              | (first | exact absurd rfl hc19 | exact Bool.noConfusion hc19 | exact absurd hc19 (by omega) | exact absurd hc19 (by decide) | exact absurd (by omega) hc19; done)
              | (
                refine done_l ?_
                refine t_normal ?_
                refine c_true hf rfl ?_
                refine c_seq ?_
                refine c_region ?_
                refine step_l (st_call hf (Wn.none rfl) rfl rfl rfl fn17 (awake_c hS) rfl rfl ?_)
                clear hf hS; rintro v a w ⟨rfl, hS⟩ hf
                refine step_l (st_rd hf (Wn.none rfl) (rd_assign hf rfl rfl) hS rfl rfl ?_)
                clear hf; intro a hf
                refine done_l ?_
                refine t_normal ?_
                refine c_ret ?_
                refine t_ret ?_
                refine e_res1 hf.defers rfl (res_tmp hf rfl .nil) ?_
                exact ⟨rfl, hS.sub (by repeat (first | exact Sub.refl | exact Sub.none | (apply Sub.cons; (focus ((repeat (first | exact Sel.head | apply Sel.tail)); done))) | apply Sub.skip))⟩
                )
            · clear hf; intro hc19 a hf
              first | (have he : ¬ t.2 = 0 := by intro h0; apply hc19; unfold rEnd; omega) | (have he : ¬ s.2 = 0 := by intro h0; apply hc19; unfold rEnd; omega)
              first
              | (first | exact absurd rfl hc19 | exact Bool.noConfusion hc19 | exact absurd hc19 (by omega) | exact absurd hc19 (by decide) | exact absurd (by omega) hc19; done)
              | (
                refine done_l ?_
                refine t_normal ?_
                refine c_false hf rfl ?_
                refine c_skip ?_
                refine t_normal ?_
                refine c_seq ?_
                refine c_seq ?_
                refine c_region ?_
                refine step_l (st_rd hf (Wn.none rfl) (rd_assign hf rfl rfl) hS rfl rfl ?_)
                clear hf; intro a hf
                refine done_l ?_
                refine t_normal ?_
                refine c_block ?_
                refine c_loop (α := Nat) (fun i a w => Fits 88 a [(1, .slice ql l.length capl), (5, .pointer (some ⟨pr, 0, none⟩)), (7, .int .i64 (rEnd s)), (8, .int .i64 (i : Nat))] ∧ Sat W (RdP 71 pr s :: R) w ∧ i ≤ 20) (fun i => 20 - i) 0 ?_ ?_
                · exact ⟨((((hf.k0.kb hf 8 rfl (by rfl)).kb hf 7 rfl (by rfl)).kb hf 5 rfl (by rfl)).kb hf 1 rfl (by rfl)), hS.sub (by repeat (first | exact Sub.refl | exact Sub.none | (apply Sub.cons; (focus ((repeat (first | exact Sel.head | apply Sel.tail)); done))) | apply Sub.skip)), by omega⟩
                · clear hf hS; rintro i a w ⟨hf, hS, hi20⟩
                  refine c_seq ?_
                  refine c_seq ?_
                  refine c_region ?_
                  refine step_l (st_rd hf (Wn.none rfl) (rd_move hf rfl rfl) hS rfl rfl ?_)
                  clear hf; intro a hf
                  refine step_l (st_rd hf (Wn.none rfl) (rd_move hf rfl rfl) hS rfl rfl ?_)
                  clear hf; intro a hf
                  refine step_l (st_rd hf (Wn.none rfl) (rd_len hf rfl rfl Try.underlying37) hS rfl rfl ?_)
                  clear hf; intro a hf
                  refine step_l (st_rdB hf (Wn.none rfl) (rd_lss hf rfl rfl rfl) hS rfl rfl ?_ ?_)
                  · clear hf; intro hc20 a hf
                    first
                    | (first | exact absurd rfl hc20 | exact Bool.noConfusion hc20 | exact absurd hc20 (by omega) | exact absurd hc20 (by decide) | exact absurd (by omega) hc20; done)
                    | (
                      refine step_l (st_rd hf (Wn.none rfl) (rd_move hf rfl rfl) hS rfl rfl ?_)
                      clear hf; intro a hf
                      refine step_l (st_rd hf (Wn.some hf rfl rfl rfl rfl) (rd_move hf rfl rfl) hS rfl rfl ?_)
                      clear hf; intro a hf
                      refine step_l (st_rdB hf (Wn.some hf rfl rfl rfl rfl) (rd_lss hf rfl rfl rfl) hS rfl rfl ?_ ?_)
                      · clear hf; intro hc21 a hf
                        obtain ⟨x, hget⟩ := get_of_lt (l := l) (k := i) (by omega) rfl; have hx := hl x (List.mem_of_getElem? hget); obtain ⟨hx1, hx2, hx3, hx4, hx5⟩ := hx; obtain ⟨adl, rfl⟩ := (hvl _ (hS.sub (by repeat (first | exact Sub.refl | exact Sub.none | (apply Sub.cons; (focus ((repeat (first | exact Sel.head | apply Sel.tail)); done))) | apply Sub.skip)))).some (by omega)
                        first
                        | (first | exact absurd rfl hc21 | exact Bool.noConfusion hc21 | exact absurd hc21 (by omega) | exact absurd hc21 (by decide) | exact absurd (by omega) hc21; done)
                        | (
                          refine step_l (st_rd hf (Wn.none rfl) (rd_pick_t hf rfl rfl rfl) hS rfl rfl ?_)
                          clear hf; intro a hf
                          refine done_l ?_
                          refine t_normal ?_
                          refine c_true hf rfl ?_
                          refine c_skip ?_
                          refine t_normal ?_
                          refine c_seq ?_
                          refine c_block ?_
                          refine c_seq ?_
                          refine c_region ?_
                          refine step_l (st_rd hf (Wn.none rfl) (rd_move hf rfl rfl) hS rfl rfl ?_)
                          clear hf; intro a hf
                          refine step_l (st_rd hf (Wn.none rfl) (rd_move hf rfl rfl) hS rfl rfl ?_)
                          clear hf; intro a hf
                          refine step_l (st_rd hf (Wn.none rfl) ((by first | exact rd_indexAddrN hf rfl rfl rfl Try.underlying37 sz43 (by omega) | exact rd_indexAddr hf rfl rfl rfl Try.underlying37 sz43 (by first | decide | omega) (by omega))) hS rfl rfl ?_)
                          clear hf; intro a hf
                          refine step_l (st_rd hf (Wn.none rfl) (rd_loadN hf rfl rfl ag43 sz43 (by intro _ h; exact (hvl _ (h.sub (by repeat (first | exact Sub.refl | exact Sub.none | (apply Sub.cons; (focus ((repeat (first | exact Sel.head | apply Sel.tail)); done))) | apply Sub.skip)))).elem callC_len hget)) hS rfl rfl ?_)
                          clear hf; intro a hf
                          refine step_l (st_alloc hf (Wn.none rfl) hS rfl zr43 (by rfl) rfl rfl ?_)
                          clear hf hS; intro b_22 a w hf hS
                          refine step_l (st_store hf (Wn.none rfl) hS rfl rfl rfl (by rfl) sz43 (by rfl) (by rfl) (by repeat (first | exact Sel.head | apply Sel.tail)) (by repeat (first | exact Put.nil | apply Put.cons | apply Put.succ)) rfl ?_)
                          clear hf hS; intro a w hf hS
                          refine done_l ?_
                          refine t_normal ?_
                          refine c_seq ?_
                          refine c_region ?_
                          refine step_l (st_rd hf (Wn.none rfl) (rd_move hf rfl rfl) hS rfl rfl ?_)
                          clear hf; intro a hf
                          refine step_l (st_call hf (Wn.none rfl) rfl rfl rfl fn21 (RWNum_c _ _ (hS.sel (by repeat (first | exact Sel.head | apply Sel.tail)))) rfl rfl ?_)
                          clear hf hS; rintro v a w ⟨hvr, hS⟩ hf; rw [rNum_stay he] at hvr hS; (try dsimp only at hvr hS); subst hvr
                          refine step_l (st_rdB hf (Wn.none rfl) (rd_neq hf rfl rfl rfl) hS rfl rfl ?_ ?_)
                          · clear hf; intro hc23 a hf
                            first
                            | (first | exact absurd rfl hc23 | exact Bool.noConfusion hc23 | exact absurd hc23 (by omega) | exact absurd hc23 (by decide) | exact absurd (by omega) hc23; done)
                            | (
                              refine step_l (st_rd hf (Wn.none rfl) (rd_move hf rfl rfl) hS rfl rfl ?_)
                              clear hf; intro a hf
                              refine step_l (st_skip hf (Wn.some hf rfl rfl rfl rfl) rfl rfl ?_)
                              clear hf; intro a hf
                              refine step_l (st_skip hf (Wn.some hf rfl rfl rfl rfl) rfl rfl ?_)
                              clear hf; intro a hf
                              refine step_l (st_skip hf (Wn.some hf rfl rfl rfl rfl) rfl rfl ?_)
                              clear hf; intro a hf
                              refine step_l (st_rd hf (Wn.none rfl) (rd_pick_t hf rfl rfl rfl) hS rfl rfl ?_)
                              clear hf; intro a hf
                              refine step_l (st_rd hf (Wn.none rfl) (rd_move hf rfl rfl) hS rfl rfl ?_)
                              clear hf; intro a hf
                              refine step_l (st_skip hf (Wn.some hf rfl rfl rfl rfl) rfl rfl ?_)
                              clear hf; intro a hf
                              refine step_l (st_skip hf (Wn.some hf rfl rfl rfl rfl) rfl rfl ?_)
                              clear hf; intro a hf
                              refine step_l (st_rd hf (Wn.none rfl) (rd_pick_t hf rfl rfl rfl) hS rfl rfl ?_)
                              clear hf; intro a hf
                              refine step_l (st_rd hf (Wn.none rfl) (rd_move hf rfl rfl) hS rfl rfl ?_)
                              clear hf; intro a hf
                              refine step_l (st_skip hf (Wn.some hf rfl rfl rfl rfl) rfl rfl ?_)
                              clear hf; intro a hf
                              refine step_l (st_skip hf (Wn.some hf rfl rfl rfl rfl) rfl rfl ?_)
                              clear hf; intro a hf
                              refine step_l (st_skip hf (Wn.some hf rfl rfl rfl rfl) rfl rfl ?_)
                              clear hf; intro a hf
                              refine step_l (st_skip hf (Wn.some hf rfl rfl rfl rfl) rfl rfl ?_)
                              clear hf; intro a hf
                              refine step_l (st_skip hf (Wn.some hf rfl rfl rfl rfl) rfl rfl ?_)
                              clear hf; intro a hf
                              refine step_l (st_skip hf (Wn.some hf rfl rfl rfl rfl) rfl rfl ?_)
                              clear hf; intro a hf
                              refine step_l (st_rd hf (Wn.none rfl) (rd_pick_t hf rfl rfl rfl) hS rfl rfl ?_)
                              clear hf; intro a hf
                              refine step_l (st_rd hf (Wn.none rfl) (rd_move hf rfl rfl) hS rfl rfl ?_)
                              clear hf; intro a hf
                              refine step_l (st_skip hf (Wn.some hf rfl rfl rfl rfl) rfl rfl ?_)
                              clear hf; intro a hf
                              refine step_l (st_skip hf (Wn.some hf rfl rfl rfl rfl) rfl rfl ?_)
                              clear hf; intro a hf
                              refine step_l (st_skip hf (Wn.some hf rfl rfl rfl rfl) rfl rfl ?_)
                              clear hf; intro a hf
                              refine step_l (st_skip hf (Wn.some hf rfl rfl rfl rfl) rfl rfl ?_)
                              clear hf; intro a hf
                              refine step_l (st_skip hf (Wn.some hf rfl rfl rfl rfl) rfl rfl ?_)
                              clear hf; intro a hf
                              refine step_l (st_rd hf (Wn.none rfl) (rd_pick_t hf rfl rfl rfl) hS rfl rfl ?_)
                              clear hf; intro a hf
                              refine step_l (st_rd hf (Wn.none rfl) (rd_move hf rfl rfl) hS rfl rfl ?_)
                              clear hf; intro a hf
                              refine step_l (st_skip hf (Wn.some hf rfl rfl rfl rfl) rfl rfl ?_)
                              clear hf; intro a hf
                              refine step_l (st_skip hf (Wn.some hf rfl rfl rfl rfl) rfl rfl ?_)
                              clear hf; intro a hf
                              refine step_l (st_skip hf (Wn.some hf rfl rfl rfl rfl) rfl rfl ?_)
                              clear hf; intro a hf
                              refine step_l (st_skip hf (Wn.some hf rfl rfl rfl rfl) rfl rfl ?_)
                              clear hf; intro a hf
                              refine step_l (st_rd hf (Wn.none rfl) (rd_pick_t hf rfl rfl rfl) hS rfl rfl ?_)
                              clear hf; intro a hf
                              refine done_l ?_
                              refine t_normal ?_
                              refine c_true hf rfl ?_
                              refine c_seq ?_
                              refine c_region ?_
                              refine step_l (st_rd hf (Wn.none rfl) (rd_assign hf rfl rfl) hS rfl rfl ?_)
                              clear hf; intro a hf
                              refine done_l ?_
                              refine t_normal ?_
                              refine c_ret ?_
                              refine b_ret ?_
                              refine t_ret ?_
                              refine t_ret ?_
                              refine b_ret ?_
                              refine t_ret ?_
                              refine e_res1 hf.defers rfl (res_tmp hf rfl .nil) ?_
                              exact ⟨rfl, hS.sub (by repeat (first | exact Sub.refl | exact Sub.none | (apply Sub.cons; (focus ((repeat (first | exact Sel.head | apply Sel.tail)); done))) | apply Sub.skip))⟩
                              )
                          · clear hf; intro hc23 a hf
                            first
                            | (first | exact absurd rfl hc23 | exact Bool.noConfusion hc23 | exact absurd hc23 (by omega) | exact absurd hc23 (by decide) | exact absurd (by omega) hc23; done)
                            | (
                              refine step_l (st_rd hf (Wn.none rfl) (rd_move hf rfl rfl) hS rfl rfl ?_)
                              clear hf; intro a hf
                              refine step_l (st_rd hf (Wn.some hf rfl rfl rfl rfl) (rd_move hf rfl rfl) hS rfl rfl ?_)
                              clear hf; intro a hf
                              refine step_l (st_call hf (Wn.some hf rfl rfl rfl rfl) rfl rfl rfl fn24 (RWInt_c _ _ (hS.sel (by repeat (first | exact Sel.head | apply Sel.tail)))) rfl rfl ?_)
                              clear hf hS; rintro v a w ⟨hvr, hS⟩ hf; rw [rInt_stay he] at hvr hS; (try dsimp only at hvr hS); subst hvr
                              refine step_l (st_rdB hf (Wn.some hf rfl rfl rfl rfl) (rd_neq hf rfl rfl rfl) hS rfl rfl ?_ ?_)
                              · clear hf; intro hc24 a hf
                                first
                                | (first | exact absurd rfl hc24 | exact Bool.noConfusion hc24 | exact absurd hc24 (by omega) | exact absurd hc24 (by decide) | exact absurd (by omega) hc24; done)
                                | (
                                  refine step_l (st_rd hf (Wn.none rfl) (rd_pick_f hf rfl rfl rfl) hS rfl rfl ?_)
                                  clear hf; intro a hf
                                  refine step_l (st_rd hf (Wn.none rfl) (rd_move hf rfl rfl) hS rfl rfl ?_)
                                  clear hf; intro a hf
                                  refine step_l (st_skip hf (Wn.some hf rfl rfl rfl rfl) rfl rfl ?_)
                                  clear hf; intro a hf
                                  refine step_l (st_skip hf (Wn.some hf rfl rfl rfl rfl) rfl rfl ?_)
                                  clear hf; intro a hf
                                  refine step_l (st_rd hf (Wn.none rfl) (rd_pick_t hf rfl rfl rfl) hS rfl rfl ?_)
                                  clear hf; intro a hf
                                  refine step_l (st_rd hf (Wn.none rfl) (rd_move hf rfl rfl) hS rfl rfl ?_)
                                  clear hf; intro a hf
                                  refine step_l (st_skip hf (Wn.some hf rfl rfl rfl rfl) rfl rfl ?_)
                                  clear hf; intro a hf
                                  refine step_l (st_skip hf (Wn.some hf rfl rfl rfl rfl) rfl rfl ?_)
                                  clear hf; intro a hf
                                  refine step_l (st_skip hf (Wn.some hf rfl rfl rfl rfl) rfl rfl ?_)
                                  clear hf; intro a hf
                                  refine step_l (st_skip hf (Wn.some hf rfl rfl rfl rfl) rfl rfl ?_)
                                  clear hf; intro a hf
                                  refine step_l (st_skip hf (Wn.some hf rfl rfl rfl rfl) rfl rfl ?_)
                                  clear hf; intro a hf
                                  refine step_l (st_skip hf (Wn.some hf rfl rfl rfl rfl) rfl rfl ?_)
                                  clear hf; intro a hf
                                  refine step_l (st_rd hf (Wn.none rfl) (rd_pick_t hf rfl rfl rfl) hS rfl rfl ?_)
                                  clear hf; intro a hf
                                  refine step_l (st_rd hf (Wn.none rfl) (rd_move hf rfl rfl) hS rfl rfl ?_)
                                  clear hf; intro a hf
                                  refine step_l (st_skip hf (Wn.some hf rfl rfl rfl rfl) rfl rfl ?_)
                                  clear hf; intro a hf
                                  refine step_l (st_skip hf (Wn.some hf rfl rfl rfl rfl) rfl rfl ?_)
                                  clear hf; intro a hf
                                  refine step_l (st_skip hf (Wn.some hf rfl rfl rfl rfl) rfl rfl ?_)
                                  clear hf; intro a hf
                                  refine step_l (st_skip hf (Wn.some hf rfl rfl rfl rfl) rfl rfl ?_)
                                  clear hf; intro a hf
                                  refine step_l (st_skip hf (Wn.some hf rfl rfl rfl rfl) rfl rfl ?_)
                                  clear hf; intro a hf
                                  refine step_l (st_rd hf (Wn.none rfl) (rd_pick_t hf rfl rfl rfl) hS rfl rfl ?_)
                                  clear hf; intro a hf
                                  refine step_l (st_rd hf (Wn.none rfl) (rd_move hf rfl rfl) hS rfl rfl ?_)
                                  clear hf; intro a hf
                                  refine step_l (st_skip hf (Wn.some hf rfl rfl rfl rfl) rfl rfl ?_)
                                  clear hf; intro a hf
                                  refine step_l (st_skip hf (Wn.some hf rfl rfl rfl rfl) rfl rfl ?_)
                                  clear hf; intro a hf
                                  refine step_l (st_skip hf (Wn.some hf rfl rfl rfl rfl) rfl rfl ?_)
                                  clear hf; intro a hf
                                  refine step_l (st_skip hf (Wn.some hf rfl rfl rfl rfl) rfl rfl ?_)
                                  clear hf; intro a hf
                                  refine step_l (st_rd hf (Wn.none rfl) (rd_pick_t hf rfl rfl rfl) hS rfl rfl ?_)
                                  clear hf; intro a hf
                                  refine done_l ?_
                                  refine t_normal ?_
                                  refine c_true hf rfl ?_
                                  refine c_seq ?_
                                  refine c_region ?_
                                  refine step_l (st_rd hf (Wn.none rfl) (rd_assign hf rfl rfl) hS rfl rfl ?_)
                                  clear hf; intro a hf
                                  refine done_l ?_
                                  refine t_normal ?_
                                  refine c_ret ?_
                                  refine b_ret ?_
                                  refine t_ret ?_
                                  refine t_ret ?_
                                  refine b_ret ?_
                                  refine t_ret ?_
                                  refine e_res1 hf.defers rfl (res_tmp hf rfl .nil) ?_
                                  exact ⟨rfl, hS.sub (by repeat (first | exact Sub.refl | exact Sub.none | (apply Sub.cons; (focus ((repeat (first | exact Sel.head | apply Sel.tail)); done))) | apply Sub.skip))⟩
                                  )
                              · clear hf; intro hc24 a hf
                                first
                                | (first | exact absurd rfl hc24 | exact Bool.noConfusion hc24 | exact absurd hc24 (by omega) | exact absurd hc24 (by decide) | exact absurd (by omega) hc24; done)
                                | (
                                  refine step_l (st_rd hf (Wn.none rfl) (rd_pick_f hf rfl rfl rfl) hS rfl rfl ?_)
                                  clear hf; intro a hf
                                  refine step_l (st_rd hf (Wn.none rfl) (rd_move hf rfl rfl) hS rfl rfl ?_)
                                  clear hf; intro a hf
                                  refine step_l (st_rd hf (Wn.some hf rfl rfl rfl rfl) (rd_move hf rfl rfl) hS rfl rfl ?_)
                                  clear hf; intro a hf
                                  refine step_l (st_call hf (Wn.some hf rfl rfl rfl rfl) rfl rfl rfl fn28 (RWFlag_c _ _ (hS.sel (by repeat (first | exact Sel.head | apply Sel.tail)))) rfl rfl ?_)
                                  clear hf hS; rintro v a w ⟨hvr, hS⟩ hf; rw [rFlag_stay he] at hvr hS; (try dsimp only at hvr hS); subst hvr
                                  first | refine split_dec (d := 64) hf rfl ?_ ?_ | refine split_bool (d := 64) hf rfl ?_ ?_
                                  · clear hf; intro hc25 hf
                                    first
                                    | (first | exact absurd rfl hc25 | exact Bool.noConfusion hc25 | exact absurd hc25 (by omega) | exact absurd hc25 (by decide) | exact absurd (by omega) hc25; done)
                                    | (
                                      refine step_l (st_rd hf (Wn.none rfl) (rd_pick_f hf rfl rfl rfl) hS rfl rfl ?_)
                                      clear hf; intro a hf
                                      refine step_l (st_rd hf (Wn.none rfl) (rd_move hf rfl rfl) hS rfl rfl ?_)
                                      clear hf; intro a hf
                                      refine step_l (st_skip hf (Wn.some hf rfl rfl rfl rfl) rfl rfl ?_)
                                      clear hf; intro a hf
                                      refine step_l (st_skip hf (Wn.some hf rfl rfl rfl rfl) rfl rfl ?_)
                                      clear hf; intro a hf
                                      refine step_l (st_skip hf (Wn.some hf rfl rfl rfl rfl) rfl rfl ?_)
                                      clear hf; intro a hf
                                      refine step_l (st_skip hf (Wn.some hf rfl rfl rfl rfl) rfl rfl ?_)
                                      clear hf; intro a hf
                                      refine step_l (st_skip hf (Wn.some hf rfl rfl rfl rfl) rfl rfl ?_)
                                      clear hf; intro a hf
                                      refine step_l (st_skip hf (Wn.some hf rfl rfl rfl rfl) rfl rfl ?_)
                                      clear hf; intro a hf
                                      refine step_l (st_rd hf (Wn.none rfl) (rd_pick_t hf rfl rfl rfl) hS rfl rfl ?_)
                                      clear hf; intro a hf
                                      refine step_l (st_rd hf (Wn.none rfl) (rd_move hf rfl rfl) hS rfl rfl ?_)
                                      clear hf; intro a hf
                                      refine step_l (st_skip hf (Wn.some hf rfl rfl rfl rfl) rfl rfl ?_)
                                      clear hf; intro a hf
                                      refine step_l (st_skip hf (Wn.some hf rfl rfl rfl rfl) rfl rfl ?_)
                                      clear hf; intro a hf
                                      refine step_l (st_skip hf (Wn.some hf rfl rfl rfl rfl) rfl rfl ?_)
                                      clear hf; intro a hf
                                      refine step_l (st_skip hf (Wn.some hf rfl rfl rfl rfl) rfl rfl ?_)
                                      clear hf; intro a hf
                                      refine step_l (st_skip hf (Wn.some hf rfl rfl rfl rfl) rfl rfl ?_)
                                      clear hf; intro a hf
                                      refine step_l (st_rd hf (Wn.none rfl) (rd_pick_t hf rfl rfl rfl) hS rfl rfl ?_)
                                      clear hf; intro a hf
                                      refine step_l (st_rd hf (Wn.none rfl) (rd_move hf rfl rfl) hS rfl rfl ?_)
                                      clear hf; intro a hf
                                      refine step_l (st_skip hf (Wn.some hf rfl rfl rfl rfl) rfl rfl ?_)
                                      clear hf; intro a hf
                                      refine step_l (st_skip hf (Wn.some hf rfl rfl rfl rfl) rfl rfl ?_)
                                      clear hf; intro a hf
                                      refine step_l (st_skip hf (Wn.some hf rfl rfl rfl rfl) rfl rfl ?_)
                                      clear hf; intro a hf
                                      refine step_l (st_skip hf (Wn.some hf rfl rfl rfl rfl) rfl rfl ?_)
                                      clear hf; intro a hf
                                      refine step_l (st_rd hf (Wn.none rfl) (rd_pick_t hf rfl rfl rfl) hS rfl rfl ?_)
                                      clear hf; intro a hf
                                      refine done_l ?_
                                      refine t_normal ?_
                                      refine c_true hf rfl ?_
                                      refine c_seq ?_
                                      refine c_region ?_
                                      refine step_l (st_rd hf (Wn.none rfl) (rd_assign hf rfl rfl) hS rfl rfl ?_)
                                      clear hf; intro a hf
                                      refine done_l ?_
                                      refine t_normal ?_
                                      refine c_ret ?_
                                      refine b_ret ?_
                                      refine t_ret ?_
                                      refine t_ret ?_
                                      refine b_ret ?_
                                      refine t_ret ?_
                                      refine e_res1 hf.defers rfl (res_tmp hf rfl .nil) ?_
                                      exact ⟨rfl, hS.sub (by repeat (first | exact Sub.refl | exact Sub.none | (apply Sub.cons; (focus ((repeat (first | exact Sel.head | apply Sel.tail)); done))) | apply Sub.skip))⟩
                                      )
                                  · clear hf; intro hc25 hf
                                    first
                                    | (first | exact absurd rfl hc25 | exact Bool.noConfusion hc25 | exact absurd hc25 (by omega) | exact absurd hc25 (by decide) | exact absurd (by omega) hc25; done)
                                    | (
                                      refine step_l (st_rd hf (Wn.none rfl) (rd_pick_f hf rfl rfl rfl) hS rfl rfl ?_)
                                      clear hf; intro a hf
                                      refine step_l (st_rd hf (Wn.none rfl) (rd_move hf rfl rfl) hS rfl rfl ?_)
                                      clear hf; intro a hf
                                      refine step_l (st_rd hf (Wn.some hf rfl rfl rfl rfl) (rd_move hf rfl rfl) hS rfl rfl ?_)
                                      clear hf; intro a hf
                                      refine step_l (st_rd hf (Wn.some hf rfl rfl rfl rfl) (rd_fieldAddrB hf rfl rfl fb43_5 rfl) hS rfl rfl ?_)
                                      clear hf; intro a hf
                                      refine step_l (st_rd hf (Wn.some hf rfl rfl rfl rfl) (rd_load1 hf rfl rfl ag3 (by intro _ h; first | exact h.cell (by repeat (first | exact Sel.head | apply Sel.tail)) (by rfl))) hS rfl rfl ?_)
                                      clear hf; intro a hf
                                      refine step_l (st_call hf (Wn.some hf rfl rfl rfl rfl) rfl rfl rfl fn22 (RWText_c _ _ _ (hS.sel (by repeat (first | exact Sel.head | apply Sel.tail))) (by assumption) (by omega)) rfl rfl ?_)
                                      clear hf hS; rintro v a w ⟨qt_26, capt_26, hvr, hS⟩ hf; rw [rText_stay he] at hvr hS; (try dsimp only at hvr hS); subst hvr
                                      refine step_l (st_rd hf (Wn.some hf rfl rfl rfl rfl) (rd_len hf rfl rfl Try.underlying29) hS rfl rfl ?_)
                                      clear hf; intro a hf
                                      refine step_l (st_rdB hf (Wn.some hf rfl rfl rfl rfl) (rd_gtr hf rfl rfl rfl) hS rfl rfl ?_ ?_)
                                      · clear hf; intro hc27 a hf
                                        first
                                        | (first | exact absurd rfl hc27 | exact Bool.noConfusion hc27 | exact absurd hc27 (by omega) | exact absurd hc27 (by decide) | exact absurd (by omega) hc27; done)
                                        | (
                                          refine step_l (st_rd hf (Wn.none rfl) (rd_pick_f hf rfl rfl rfl) hS rfl rfl ?_)
                                          clear hf; intro a hf
                                          refine step_l (st_rd hf (Wn.none rfl) (rd_move hf rfl rfl) hS rfl rfl ?_)
                                          clear hf; intro a hf
                                          refine step_l (st_skip hf (Wn.some hf rfl rfl rfl rfl) rfl rfl ?_)
                                          clear hf; intro a hf
                                          refine step_l (st_skip hf (Wn.some hf rfl rfl rfl rfl) rfl rfl ?_)
                                          clear hf; intro a hf
                                          refine step_l (st_skip hf (Wn.some hf rfl rfl rfl rfl) rfl rfl ?_)
                                          clear hf; intro a hf
                                          refine step_l (st_skip hf (Wn.some hf rfl rfl rfl rfl) rfl rfl ?_)
                                          clear hf; intro a hf
                                          refine step_l (st_skip hf (Wn.some hf rfl rfl rfl rfl) rfl rfl ?_)
                                          clear hf; intro a hf
                                          refine step_l (st_rd hf (Wn.none rfl) (rd_pick_t hf rfl rfl rfl) hS rfl rfl ?_)
                                          clear hf; intro a hf
                                          refine step_l (st_rd hf (Wn.none rfl) (rd_move hf rfl rfl) hS rfl rfl ?_)
                                          clear hf; intro a hf
                                          refine step_l (st_skip hf (Wn.some hf rfl rfl rfl rfl) rfl rfl ?_)
                                          clear hf; intro a hf
                                          refine step_l (st_skip hf (Wn.some hf rfl rfl rfl rfl) rfl rfl ?_)
                                          clear hf; intro a hf
                                          refine step_l (st_skip hf (Wn.some hf rfl rfl rfl rfl) rfl rfl ?_)
                                          clear hf; intro a hf
                                          refine step_l (st_skip hf (Wn.some hf rfl rfl rfl rfl) rfl rfl ?_)
                                          clear hf; intro a hf
                                          refine step_l (st_rd hf (Wn.none rfl) (rd_pick_t hf rfl rfl rfl) hS rfl rfl ?_)
                                          clear hf; intro a hf
                                          refine done_l ?_
                                          refine t_normal ?_
                                          refine c_true hf rfl ?_
                                          refine c_seq ?_
                                          refine c_region ?_
                                          refine step_l (st_rd hf (Wn.none rfl) (rd_assign hf rfl rfl) hS rfl rfl ?_)
                                          clear hf; intro a hf
                                          refine done_l ?_
                                          refine t_normal ?_
                                          refine c_ret ?_
                                          refine b_ret ?_
                                          refine t_ret ?_
                                          refine t_ret ?_
                                          refine b_ret ?_
                                          refine t_ret ?_
                                          refine e_res1 hf.defers rfl (res_tmp hf rfl .nil) ?_
                                          exact ⟨rfl, hS.sub (by repeat (first | exact Sub.refl | exact Sub.none | (apply Sub.cons; (focus ((repeat (first | exact Sel.head | apply Sel.tail)); done))) | apply Sub.skip))⟩
                                          )
                                      · clear hf; intro hc27 a hf
                                        first
                                        | (first | exact absurd rfl hc27 | exact Bool.noConfusion hc27 | exact absurd hc27 (by omega) | exact absurd hc27 (by decide) | exact absurd (by omega) hc27; done)
                                        | (
                                          refine step_l (st_rd hf (Wn.none rfl) (rd_pick_f hf rfl rfl rfl) hS rfl rfl ?_)
                                          clear hf; intro a hf
                                          refine step_l (st_rd hf (Wn.none rfl) (rd_move hf rfl rfl) hS rfl rfl ?_)
                                          clear hf; intro a hf
                                          refine step_l (st_rd hf (Wn.some hf rfl rfl rfl rfl) (rd_move hf rfl rfl) hS rfl rfl ?_)
                                          clear hf; intro a hf
                                          refine step_l (st_rd hf (Wn.some hf rfl rfl rfl rfl) (rd_fieldAddrB hf rfl rfl fb43_5 rfl) hS rfl rfl ?_)
                                          clear hf; intro a hf
                                          refine step_l (st_rd hf (Wn.some hf rfl rfl rfl rfl) (rd_load1 hf rfl rfl ag3 (by intro _ h; first | exact h.cell (by repeat (first | exact Sel.head | apply Sel.tail)) (by rfl))) hS rfl rfl ?_)
                                          clear hf; intro a hf
                                          refine step_l (st_call hf (Wn.some hf rfl rfl rfl rfl) rfl rfl rfl fn31 (RWCount_c _ _ _ (hS.sel (by repeat (first | exact Sel.head | apply Sel.tail))) (by first | assumption | exact ⟨by omega, by omega⟩)) rfl rfl ?_)
                                          clear hf hS; rintro v a w ⟨hvr, hS⟩ hf; rw [rCount_stay he] at hvr hS; (try dsimp only at hvr hS); subst hvr
                                          refine step_l (st_rdB hf (Wn.some hf rfl rfl rfl rfl) (rd_neq hf rfl rfl rfl) hS rfl rfl ?_ ?_)
                                          · clear hf; intro hc28 a hf
                                            first
                                            | (first | exact absurd rfl hc28 | exact Bool.noConfusion hc28 | exact absurd hc28 (by omega) | exact absurd hc28 (by decide) | exact absurd (by omega) hc28; done)
                                            | (
                                              refine step_l (st_rd hf (Wn.none rfl) (rd_pick_f hf rfl rfl rfl) hS rfl rfl ?_)
                                              clear hf; intro a hf
                                              refine step_l (st_rd hf (Wn.none rfl) (rd_move hf rfl rfl) hS rfl rfl ?_)
                                              clear hf; intro a hf
                                              refine step_l (st_skip hf (Wn.some hf rfl rfl rfl rfl) rfl rfl ?_)
                                              clear hf; intro a hf
                                              refine step_l (st_skip hf (Wn.some hf rfl rfl rfl rfl) rfl rfl ?_)
                                              clear hf; intro a hf
                                              refine step_l (st_skip hf (Wn.some hf rfl rfl rfl rfl) rfl rfl ?_)
                                              clear hf; intro a hf
                                              refine step_l (st_skip hf (Wn.some hf rfl rfl rfl rfl) rfl rfl ?_)
                                              clear hf; intro a hf
                                              refine step_l (st_rd hf (Wn.none rfl) (rd_pick_t hf rfl rfl rfl) hS rfl rfl ?_)
                                              clear hf; intro a hf
                                              refine done_l ?_
                                              refine t_normal ?_
                                              refine c_true hf rfl ?_
                                              refine c_seq ?_
                                              refine c_region ?_
                                              refine step_l (st_rd hf (Wn.none rfl) (rd_assign hf rfl rfl) hS rfl rfl ?_)
                                              clear hf; intro a hf
                                              refine done_l ?_
                                              refine t_normal ?_
                                              refine c_ret ?_
                                              refine b_ret ?_
                                              refine t_ret ?_
                                              refine t_ret ?_
                                              refine b_ret ?_
                                              refine t_ret ?_
                                              refine e_res1 hf.defers rfl (res_tmp hf rfl .nil) ?_
                                              exact ⟨rfl, hS.sub (by repeat (first | exact Sub.refl | exact Sub.none | (apply Sub.cons; (focus ((repeat (first | exact Sel.head | apply Sel.tail)); done))) | apply Sub.skip))⟩
                                              )
                                          · clear hf; intro hc28 a hf
                                            first
                                            | (first | exact absurd rfl hc28 | exact Bool.noConfusion hc28 | exact absurd hc28 (by omega) | exact absurd hc28 (by decide) | exact absurd (by omega) hc28; done)
                                            | (
                                              refine step_l (st_rd hf (Wn.none rfl) (rd_pick_f hf rfl rfl rfl) hS rfl rfl ?_)
                                              clear hf; intro a hf
                                              refine step_l (st_rd hf (Wn.none rfl) (rd_move hf rfl rfl) hS rfl rfl ?_)
                                              clear hf; intro a hf
                                              refine step_l (st_rd hf (Wn.some hf rfl rfl rfl rfl) (rd_move hf rfl rfl) hS rfl rfl ?_)
                                              clear hf; intro a hf
                                              refine step_l (st_call hf (Wn.some hf rfl rfl rfl rfl) rfl rfl rfl fn25 (RWEnd_c _ _ (hS.sel (by repeat (first | exact Sel.head | apply Sel.tail)))) rfl rfl ?_)
                                              clear hf hS; rintro v a w ⟨rfl, hS⟩ hf
                                              refine step_l (st_rd hf (Wn.some hf rfl rfl rfl rfl) (rd_move hf rfl rfl) hS rfl rfl ?_)
                                              clear hf; intro a hf
                                              refine step_l (st_rdB hf (Wn.some hf rfl rfl rfl rfl) (rd_neq hf rfl rfl rfl) hS rfl rfl ?_ ?_)
                                              · clear hf; intro hc29 a hf
                                                first
                                                | (first | exact absurd rfl hc29 | exact Bool.noConfusion hc29 | exact absurd hc29 (by omega) | exact absurd hc29 (by decide) | exact absurd (by omega) hc29; done)
                                                | (
                                                  refine step_l (st_rd hf (Wn.none rfl) (rd_pick_f hf rfl rfl rfl) hS rfl rfl ?_)
                                                  clear hf; intro a hf
                                                  refine done_l ?_
                                                  refine t_normal ?_
                                                  refine c_true hf rfl ?_
                                                  refine c_seq ?_
                                                  refine c_region ?_
                                                  refine step_l (st_rd hf (Wn.none rfl) (rd_assign hf rfl rfl) hS rfl rfl ?_)
                                                  clear hf; intro a hf
                                                  refine done_l ?_
                                                  refine t_normal ?_
                                                  refine c_ret ?_
                                                  refine b_ret ?_
                                                  refine t_ret ?_
                                                  refine t_ret ?_
                                                  refine b_ret ?_
                                                  refine t_ret ?_
                                                  refine e_res1 hf.defers rfl (res_tmp hf rfl .nil) ?_
                                                  exact ⟨rfl, hS.sub (by repeat (first | exact Sub.refl | exact Sub.none | (apply Sub.cons; (focus ((repeat (first | exact Sel.head | apply Sel.tail)); done))) | apply Sub.skip))⟩
                                                  )
                                              · clear hf; intro hc29 a hf
                                                first
                                                | (first | exact absurd rfl hc29 | exact Bool.noConfusion hc29 | exact absurd hc29 (by omega) | exact absurd hc29 (by decide) | exact absurd (by omega) hc29; done)
                                                | (
                                                  refine step_l (st_rd hf (Wn.none rfl) (rd_pick_f hf rfl rfl rfl) hS rfl rfl ?_)
                                                  clear hf; intro a hf
                                                  refine done_l ?_
                                                  refine t_normal ?_
                                                  refine c_false hf rfl ?_
                                                  refine c_skip ?_
                                                  refine b_normal ?_
                                                  refine t_normal ?_
                                                  refine c_region ?_
                                                  refine step_l (st_rd hf (Wn.none rfl) (rd_move hf rfl rfl) hS rfl rfl ?_)
                                                  clear hf; intro a hf
                                                  refine step_l (st_rd hf (Wn.none rfl) (rd_add hf rfl rfl rfl (by first | exact Go.IntWalk.i64_in _ (by omega) | exact rfl)) hS rfl rfl ?_)
                                                  clear hf; intro a hf
                                                  refine step_l (st_rd hf (Wn.none rfl) (rd_assign hf rfl rfl) hS rfl rfl ?_)
                                                  clear hf; intro a hf
                                                  refine done_l ?_
                                                  refine t_normal ⟨i + 1, ⟨((((hf.k0.kb hf 8 rfl (by first | rfl | exact int_eq (by omega))).kb hf 7 rfl (by rfl)).kb hf 5 rfl (by rfl)).kb hf 1 rfl (by rfl)), hS.sub (by repeat (first | exact Sub.refl | exact Sub.none | (apply Sub.cons; (focus ((repeat (first | exact Sel.head | apply Sel.tail)); done))) | apply Sub.skip)), by omega⟩, by first | omega | (simp only []; omega)⟩
                                                  )
                                              )
                                          )
                                      )
                                  )
                              )
                          )
                      · clear hf; intro hc21 a hf
                        first
                        | (first | exact absurd rfl hc21 | exact Bool.noConfusion hc21 | exact absurd hc21 (by omega) | exact absurd hc21 (by decide) | exact absurd (by omega) hc21; done)
                        | (
                          refine step_l (st_rd hf (Wn.none rfl) (rd_pick_t hf rfl rfl rfl) hS rfl rfl ?_)
                          clear hf; intro a hf
                          refine done_l ?_
                          refine t_normal ?_
                          refine c_false hf rfl ?_
                          refine c_exit ?_
                          refine t_exit ?_
                          refine t_exit ?_
                          refine b_exit ?_
                          refine t_normal ?_
                          refine c_seq ?_
                          refine c_region ?_
                          refine step_l (st_call hf (Wn.none rfl) rfl rfl rfl fn17 (awake_c hS) rfl rfl ?_)
                          clear hf hS; rintro v a w ⟨rfl, hS⟩ hf
                          refine step_l (st_rd hf (Wn.none rfl) (rd_assign hf rfl rfl) hS rfl rfl ?_)
                          clear hf; intro a hf
                          refine done_l ?_
                          refine t_normal ?_
                          refine c_ret ?_
                          refine e_res1 hf.defers rfl (res_tmp hf rfl .nil) ?_
                          exact ⟨rfl, hS.sub (by repeat (first | exact Sub.refl | exact Sub.none | (apply Sub.cons; (focus ((repeat (first | exact Sel.head | apply Sel.tail)); done))) | apply Sub.skip))⟩
                          )
                      )
                  · clear hf; intro hc20 a hf
                    first
                    | (first | exact absurd rfl hc20 | exact Bool.noConfusion hc20 | exact absurd hc20 (by omega) | exact absurd hc20 (by decide) | exact absurd (by omega) hc20; done)
                    | (
                      refine step_l (st_rd hf (Wn.none rfl) (rd_move hf rfl rfl) hS rfl rfl ?_)
                      clear hf; intro a hf
                      refine step_l (st_skip hf (Wn.some hf rfl rfl rfl rfl) rfl rfl ?_)
                      clear hf; intro a hf
                      refine step_l (st_skip hf (Wn.some hf rfl rfl rfl rfl) rfl rfl ?_)
                      clear hf; intro a hf
                      refine step_l (st_rd hf (Wn.none rfl) (rd_pick_f hf rfl rfl rfl) hS rfl rfl ?_)
                      clear hf; intro a hf
                      refine done_l ?_
                      refine t_normal ?_
                      refine c_false hf rfl ?_
                      refine c_exit ?_
                      refine t_exit ?_
                      refine t_exit ?_
                      refine b_exit ?_
                      refine t_normal ?_
                      refine c_seq ?_
                      refine c_region ?_
                      refine step_l (st_call hf (Wn.none rfl) rfl rfl rfl fn17 (awake_c hS) rfl rfl ?_)
                      clear hf hS; rintro v a w ⟨rfl, hS⟩ hf
                      refine step_l (st_rd hf (Wn.none rfl) (rd_assign hf rfl rfl) hS rfl rfl ?_)
                      clear hf; intro a hf
                      refine done_l ?_
                      refine t_normal ?_
                      refine c_ret ?_
                      refine e_res1 hf.defers rfl (res_tmp hf rfl .nil) ?_
                      exact ⟨rfl, hS.sub (by repeat (first | exact Sub.refl | exact Sub.none | (apply Sub.cons; (focus ((repeat (first | exact Sel.head | apply Sel.tail)); done))) | apply Sub.skip))⟩
                      )
                )
            )
        )

end Go.Proofs.Ytmohhhokplpgkaa
