/-
  The statement KeysOnce, walked.
  Conditions: none.
-/
import Derived.Test.YtgmbhbnhfmfidaaKeys
namespace Go.Proofs.Ytgmbhbnhfmfidaa
open Go Go.Sl
set_option linter.unusedVariables false
set_option linter.unusedSimpArgs false
theorem fn19 : fnB Try.prog 19 = true := by kernel_rfl
theorem fn25 : fnB Try.prog 25 = true := by kernel_rfl
theorem fn26 : fnB Try.prog 26 = true := by kernel_rfl
theorem fn27 : fnB Try.prog 27 = true := by kernel_rfl
theorem fn29 : fnB Try.prog 29 = true := by kernel_rfl
theorem fn30 : fnB Try.prog 30 = true := by kernel_rfl
theorem fn31 : fnB Try.prog 31 = true := by kernel_rfl
theorem fn32 : fnB Try.prog 32 = true := by kernel_rfl
theorem not_t {b : Bool} (h : (!b) = true) : b = false := by simpa using h
theorem not_f {b : Bool} (h : (!b) = false) : b = true := by simpa using h
theorem once_chars {s k : List UInt8} {i : Nat} {c : UInt8} (h : textF k = s) (hg : s[i]? = some c) : (97 ≤ c.toNat ∧ c.toNat ≤ 122) ∨ (48 ≤ c.toNat ∧ c.toNat ≤ 57) ∨ c.toNat = 37 := by
  have := text_chars k c (by rw [h]; exact List.mem_of_getElem? hg)
  unfold plainP at this
  omega
theorem KeysOnce_c (s : List UInt8) (hs : s.length ≤ 140737488351232) {W : World} {R : List HP} {w : World} (hS : Sat W R w) : Calls Try.prog 12 [.string (str s)].toArray w (Ret fun v w' => v = .bool true ∧ Sat W R w') := by
  refine fn_start 64 Try.func12 rfl rfl rfl ?_
  intro a hf
  obtain ⟨k, ok, hres, hok1, hok2⟩ := resP_cases (parseF s)
  have hge := textF_ge k
  refine c_seq ?_
  refine c_region ?_
  refine step_l (st_rd hf (Wn.none rfl) (rd_assign hf rfl rfl) hS rfl rfl ?_)
  clear hf; intro a hf
  refine done_l ?_
  refine t_normal ?_
  refine c_seq ?_
  refine c_region ?_
  refine step_l (st_rd hf (Wn.none rfl) (rd_move hf rfl rfl) hS rfl rfl ?_)
  clear hf; intro a hf
  refine step_l (st_call hf (Wn.none rfl) rfl rfl rfl fn31 (Parse_c s (by omega) hS) rfl rfl ?_)
  clear hf hS; rintro v a w ⟨hv, hS⟩ hf; rw [hres] at hv; subst hv
  refine step_l (st_rd hf (Wn.none rfl) (rd_move hf rfl rfl) hS rfl rfl ?_)
  clear hf; intro a hf
  refine step_l (st_rd hf (Wn.none rfl) (rd_extract hf rfl rfl rfl) hS rfl rfl ?_)
  clear hf; intro a hf
  refine step_l (st_rdb hf (Wn.none rfl) (rd_extract hf rfl rfl rfl) hS rfl rfl ?_ ?_)
  · clear hf; intro hc1 a hf
    have htx := parse_inv (hok1 hc1); rw [htx] at hge
    first
    | (first | exact Bool.noConfusion hc1 | exact absurd rfl hc1 | exact absurd htx hc1 | exact absurd (hok2 (by assumption)).2 hc1 | exact absurd hc1 (by omega); done)
    | (
      refine step_l (st_rd hf (Wn.none rfl) (rd_assign hf rfl rfl) hS rfl rfl ?_)
      clear hf; intro a hf
      refine step_l (st_rd hf (Wn.none rfl) (rd_assign hf rfl rfl) hS rfl rfl ?_)
      clear hf; intro a hf
      refine done_l ?_
      refine t_normal ?_
      refine c_seq ?_
      refine c_seq ?_
      refine c_region ?_
      refine step_l (st_rd hf (Wn.none rfl) (rd_move hf rfl rfl) hS rfl rfl ?_)
      clear hf; intro a hf
      refine step_l (st_rd hf (Wn.none rfl) (rd_not hf rfl rfl) hS rfl rfl ?_)
      clear hf; intro a hf
      refine done_l ?_
      refine t_normal ?_
      refine c_false hf rfl ?_
      refine c_skip ?_
      refine t_normal ?_
      refine c_seq ?_
      refine c_seq ?_
      refine c_region ?_
      refine step_l (st_rd hf (Wn.none rfl) (rd_move hf rfl rfl) hS rfl rfl ?_)
      clear hf; intro a hf
      refine step_l (st_rd hf (Wn.none rfl) (rd_lenS hf rfl rfl Try.underlying9) hS rfl rfl ?_)
      clear hf; intro a hf
      refine step_l (st_rdB hf (Wn.none rfl) (rd_gtr hf rfl rfl rfl) hS rfl rfl ?_ ?_)
      · clear hf; intro hc2 a hf
        first
        | (first | exact Bool.noConfusion hc2 | exact absurd rfl hc2 | exact absurd htx hc2 | exact absurd (hok2 (by assumption)).2 hc2 | exact absurd hc2 (by omega); done)
        | (
          refine done_l ?_
          refine t_normal ?_
          refine c_true hf rfl ?_
          refine c_seq ?_
          refine c_region ?_
          refine step_l (st_call hf (Wn.none rfl) rfl rfl rfl fn19 (awake9_c  hS) rfl rfl ?_)
          clear hf hS; rintro v a w ⟨rfl, hS⟩ hf
          refine step_l (st_rd hf (Wn.none rfl) (rd_assign hf rfl rfl) hS rfl rfl ?_)
          clear hf; intro a hf
          refine done_l ?_
          refine t_normal ?_
          refine c_ret ?_
          refine t_ret ?_
          refine e_res1 hf.defers rfl (res_tmp hf rfl .nil) ?_
          refine ⟨?_, hS.sub (by repeat (first | exact Sub.refl | exact Sub.none | (apply Sub.cons; (focus ((repeat (first | exact Sel.head | apply Sel.tail)); done))) | apply Sub.skip))⟩
          clear hf hS
          rfl
          )
      · clear hf; intro hc2 a hf
        first
        | (first | exact Bool.noConfusion hc2 | exact absurd rfl hc2 | exact absurd htx hc2 | exact absurd (hok2 (by assumption)).2 hc2 | exact absurd hc2 (by omega); done)
        | (
          refine done_l ?_
          refine t_normal ?_
          refine c_false hf rfl ?_
          refine c_skip ?_
          refine t_normal ?_
          refine c_seq ?_
          refine c_seq ?_
          refine c_region ?_
          refine step_l (st_rd hf (Wn.none rfl) (rd_move hf rfl rfl) hS rfl rfl ?_)
          clear hf; intro a hf
          refine step_l (st_rd hf (Wn.none rfl) (rd_lenS hf rfl rfl Try.underlying9) hS rfl rfl ?_)
          clear hf; intro a hf
          refine step_l (st_rd hf (Wn.none rfl) (rd_move hf rfl rfl) hS rfl rfl ?_)
          clear hf; intro a hf
          refine done_l ?_
          refine t_normal ?_
          refine c_block ?_
          refine c_loop (α := Nat) (fun i a w => Fits 64 a [(0, .string (str s)), (3, .string (str k)), (24, .int .i64 (s.length : Nat)), (25, .int .i64 (i : Nat))] ∧ Sat W (R) w ∧ i ≤ s.length) (fun i => s.length - i) 0 ?_ ?_
          · exact ⟨((((hf.k0.kb hf 25 rfl (by rfl)).kb hf 24 rfl (by first | rfl | exact int_eq (by omega))).kb hf 3 rfl (by first | rfl | exact int_eq (by omega))).kb hf 0 rfl (by first | rfl | exact int_eq (by omega))), hS.sub (by repeat (first | exact Sub.refl | exact Sub.none | (apply Sub.cons; (focus ((repeat (first | exact Sel.head | apply Sel.tail)); done))) | apply Sub.skip)), Nat.zero_le _⟩
          · clear hf hS; rintro i a w ⟨hf, hS, hi⟩
            refine c_seq ?_
            refine c_region ?_
            refine step_l (st_rdB hf (Wn.none rfl) (rd_lss hf rfl rfl rfl) hS rfl rfl ?_ ?_)
            · clear hf; intro hc3 a hf
              obtain ⟨c, hget⟩ := get_of_lt (l := s) (k := i) (by omega) rfl; have hch := once_chars htx hget
              first
              | (first | exact Bool.noConfusion hc3 | exact absurd rfl hc3 | exact absurd htx hc3 | exact absurd (hok2 (by assumption)).2 hc3 | exact absurd hc3 (by omega); done)
              | (
                refine done_l ?_
                refine t_normal ?_
                refine c_seq ?_
                refine c_true hf rfl ?_
                refine c_skip ?_
                refine t_normal ?_
                refine c_seq ?_
                refine c_block ?_
                refine c_seq ?_
                refine c_region ?_
                refine step_l (st_rd hf (Wn.none rfl) (rd_move hf rfl rfl) hS rfl rfl ?_)
                clear hf; intro a hf
                refine step_l (st_rd hf (Wn.none rfl) (rd_assign hf rfl rfl) hS rfl rfl ?_)
                clear hf; intro a hf
                refine done_l ?_
                refine t_normal ?_
                refine c_seq ?_
                refine c_region ?_
                refine step_l (st_rd hf (Wn.none rfl) (rd_move hf rfl rfl) hS rfl rfl ?_)
                clear hf; intro a hf
                refine step_l (st_rd hf (Wn.none rfl) (rd_move hf rfl rfl) hS rfl rfl ?_)
                clear hf; intro a hf
                refine step_l (st_rd hf (Wn.none rfl) (rd_indexS hf rfl rfl rfl Try.underlying9 (by omega) (by exact hget)) hS rfl rfl ?_)
                clear hf; intro a hf
                refine step_l (st_rd hf (Wn.none rfl) (rd_assign hf rfl rfl) hS rfl rfl ?_)
                clear hf; intro a hf
                refine done_l ?_
                refine t_normal ?_
                refine c_seq ?_
                refine c_region ?_
                refine step_l (st_rd hf (Wn.none rfl) (rd_move hf rfl rfl) hS rfl rfl ?_)
                clear hf; intro a hf
                refine step_l (st_rdB hf (Wn.none rfl) (rd_lss hf rfl rfl rfl) hS rfl rfl ?_ ?_)
                · clear hf; intro hc4 a hf
                  first
                  | (first | exact Bool.noConfusion hc4 | exact absurd rfl hc4 | exact absurd htx hc4 | exact absurd (hok2 (by assumption)).2 hc4 | exact absurd hc4 (by omega); done)
                  | (
                    refine step_l (st_rd hf (Wn.none rfl) (rd_move hf rfl rfl) hS rfl rfl ?_)
                    clear hf; intro a hf
                    refine step_l (st_skip hf (Wn.some hf rfl rfl rfl rfl) rfl rfl ?_)
                    clear hf; intro a hf
                    refine step_l (st_skip hf (Wn.some hf rfl rfl rfl rfl) rfl rfl ?_)
                    clear hf; intro a hf
                    refine step_l (st_rd hf (Wn.none rfl) (rd_pick_t hf rfl rfl rfl) hS rfl rfl ?_)
                    clear hf; intro a hf
                    refine step_l (st_rd hf (Wn.none rfl) (rd_move hf rfl rfl) hS rfl rfl ?_)
                    clear hf; intro a hf
                    refine step_l (st_rd hf (Wn.some hf rfl rfl rfl rfl) (rd_move hf rfl rfl) hS rfl rfl ?_)
                    clear hf; intro a hf
                    refine step_l (st_rdB hf (Wn.some hf rfl rfl rfl rfl) (rd_lss hf rfl rfl rfl) hS rfl rfl ?_ ?_)
                    · clear hf; intro hc5 a hf
                      first
                      | (first | exact Bool.noConfusion hc5 | exact absurd rfl hc5 | exact absurd htx hc5 | exact absurd (hok2 (by assumption)).2 hc5 | exact absurd hc5 (by omega); done)
                      | (
                        refine step_l (st_rd hf (Wn.some hf rfl rfl rfl rfl) (rd_move hf rfl rfl) hS rfl rfl ?_)
                        clear hf; intro a hf
                        refine step_l (st_skip hf (Wn.some hf rfl rfl rfl rfl) rfl rfl ?_)
                        clear hf; intro a hf
                        refine step_l (st_skip hf (Wn.some hf rfl rfl rfl rfl) rfl rfl ?_)
                        clear hf; intro a hf
                        refine step_l (st_rd hf (Wn.some hf rfl rfl rfl rfl) (rd_pick_t hf rfl rfl rfl) hS rfl rfl ?_)
                        clear hf; intro a hf
                        refine step_l (st_rd hf (Wn.none rfl) (rd_pick_t hf rfl rfl rfl) hS rfl rfl ?_)
                        clear hf; intro a hf
                        refine step_l (st_rd hf (Wn.none rfl) (rd_move hf rfl rfl) hS rfl rfl ?_)
                        clear hf; intro a hf
                        refine step_l (st_rd hf (Wn.some hf rfl rfl rfl rfl) (rd_move hf rfl rfl) hS rfl rfl ?_)
                        clear hf; intro a hf
                        refine step_l (st_rdB hf (Wn.some hf rfl rfl rfl rfl) (rd_neq hf rfl rfl rfl) hS rfl rfl ?_ ?_)
                        · clear hf; intro hc6 a hf
                          first
                          | (first | exact Bool.noConfusion hc6 | exact absurd rfl hc6 | exact absurd htx hc6 | exact absurd (hok2 (by assumption)).2 hc6 | exact absurd hc6 (by omega); done)
                          | (
                            refine step_l (st_rd hf (Wn.none rfl) (rd_pick_t hf rfl rfl rfl) hS rfl rfl ?_)
                            clear hf; intro a hf
                            refine done_l ?_
                            refine t_normal ?_
                            refine c_true hf rfl ?_
                            refine c_seq ?_
                            refine c_region ?_
                            refine step_l (st_rd hf (Wn.none rfl) (rd_assign hf rfl rfl) hS rfl rfl ?_)
                            clear hf; intro a hf
                            refine done_l ?_
                            refine t_normal ?_
                            refine c_ret ?_
                            refine b_ret ?_
                            refine t_ret ?_
                            refine t_ret ?_
                            refine b_ret ?_
                            refine t_ret ?_
                            refine e_res1 hf.defers rfl (res_tmp hf rfl .nil) ?_
                            refine ⟨?_, hS.sub (by repeat (first | exact Sub.refl | exact Sub.none | (apply Sub.cons; (focus ((repeat (first | exact Sel.head | apply Sel.tail)); done))) | apply Sub.skip))⟩
                            clear hf hS
                            rfl
                            )
                        · clear hf; intro hc6 a hf
                          first
                          | (first | exact Bool.noConfusion hc6 | exact absurd rfl hc6 | exact absurd htx hc6 | exact absurd (hok2 (by assumption)).2 hc6 | exact absurd hc6 (by omega); done)
                          | (
                            refine step_l (st_rd hf (Wn.none rfl) (rd_pick_t hf rfl rfl rfl) hS rfl rfl ?_)
                            clear hf; intro a hf
                            refine done_l ?_
                            refine t_normal ?_
                            refine c_false hf rfl ?_
                            refine c_skip ?_
                            refine b_normal ?_
                            refine t_normal ?_
                            refine c_region ?_
                            refine step_l (st_rd hf (Wn.none rfl) (rd_add hf rfl rfl rfl (by first | exact Go.IntWalk.i64_in _ (by omega) | exact rfl)) hS rfl rfl ?_)
                            clear hf; intro a hf
                            refine step_l (st_rd hf (Wn.none rfl) (rd_move hf rfl rfl) hS rfl rfl ?_)
                            clear hf; intro a hf
                            refine done_l ?_
                            refine t_normal ⟨i + 1, ⟨((((hf.k0.kb hf 25 rfl (by first | rfl | exact int_eq (by omega))).kb hf 24 rfl (by first | rfl | exact int_eq (by omega))).kb hf 3 rfl (by first | rfl | exact int_eq (by omega))).kb hf 0 rfl (by first | rfl | exact int_eq (by omega))), hS.sub (by repeat (first | exact Sub.refl | exact Sub.none | (apply Sub.cons; (focus ((repeat (first | exact Sel.head | apply Sel.tail)); done))) | apply Sub.skip)), by omega⟩, by first | omega | (simp only []; omega)⟩
                            )
                        )
                    · clear hf; intro hc5 a hf
                      first
                      | (first | exact Bool.noConfusion hc5 | exact absurd rfl hc5 | exact absurd htx hc5 | exact absurd (hok2 (by assumption)).2 hc5 | exact absurd hc5 (by omega); done)
                      | (
                        refine step_l (st_rd hf (Wn.some hf rfl rfl rfl rfl) (rd_move hf rfl rfl) hS rfl rfl ?_)
                        clear hf; intro a hf
                        refine step_l (st_rd hf (Wn.some hf rfl rfl rfl rfl) (rd_move hf rfl rfl) hS rfl rfl ?_)
                        clear hf; intro a hf
                        refine step_l (st_rdB hf (Wn.some hf rfl rfl rfl rfl) (rd_gtr hf rfl rfl rfl) hS rfl rfl ?_ ?_)
                        · clear hf; intro hc7 a hf
                          first
                          | (first | exact Bool.noConfusion hc7 | exact absurd rfl hc7 | exact absurd htx hc7 | exact absurd (hok2 (by assumption)).2 hc7 | exact absurd hc7 (by omega); done)
                          | (
                            refine step_l (st_rd hf (Wn.some hf rfl rfl rfl rfl) (rd_pick_f hf rfl rfl rfl) hS rfl rfl ?_)
                            clear hf; intro a hf
                            refine step_l (st_rd hf (Wn.none rfl) (rd_pick_t hf rfl rfl rfl) hS rfl rfl ?_)
                            clear hf; intro a hf
                            refine step_l (st_rd hf (Wn.none rfl) (rd_move hf rfl rfl) hS rfl rfl ?_)
                            clear hf; intro a hf
                            refine step_l (st_rd hf (Wn.some hf rfl rfl rfl rfl) (rd_move hf rfl rfl) hS rfl rfl ?_)
                            clear hf; intro a hf
                            refine step_l (st_rdB hf (Wn.some hf rfl rfl rfl rfl) (rd_neq hf rfl rfl rfl) hS rfl rfl ?_ ?_)
                            · clear hf; intro hc8 a hf
                              first
                              | (first | exact Bool.noConfusion hc8 | exact absurd rfl hc8 | exact absurd htx hc8 | exact absurd (hok2 (by assumption)).2 hc8 | exact absurd hc8 (by omega); done)
                              | (
                                refine step_l (st_rd hf (Wn.none rfl) (rd_pick_t hf rfl rfl rfl) hS rfl rfl ?_)
                                clear hf; intro a hf
                                refine done_l ?_
                                refine t_normal ?_
                                refine c_true hf rfl ?_
                                refine c_seq ?_
                                refine c_region ?_
                                refine step_l (st_rd hf (Wn.none rfl) (rd_assign hf rfl rfl) hS rfl rfl ?_)
                                clear hf; intro a hf
                                refine done_l ?_
                                refine t_normal ?_
                                refine c_ret ?_
                                refine b_ret ?_
                                refine t_ret ?_
                                refine t_ret ?_
                                refine b_ret ?_
                                refine t_ret ?_
                                refine e_res1 hf.defers rfl (res_tmp hf rfl .nil) ?_
                                refine ⟨?_, hS.sub (by repeat (first | exact Sub.refl | exact Sub.none | (apply Sub.cons; (focus ((repeat (first | exact Sel.head | apply Sel.tail)); done))) | apply Sub.skip))⟩
                                clear hf hS
                                rfl
                                )
                            · clear hf; intro hc8 a hf
                              first
                              | (first | exact Bool.noConfusion hc8 | exact absurd rfl hc8 | exact absurd htx hc8 | exact absurd (hok2 (by assumption)).2 hc8 | exact absurd hc8 (by omega); done)
                              | (
                                refine step_l (st_rd hf (Wn.none rfl) (rd_pick_t hf rfl rfl rfl) hS rfl rfl ?_)
                                clear hf; intro a hf
                                refine done_l ?_
                                refine t_normal ?_
                                refine c_false hf rfl ?_
                                refine c_skip ?_
                                refine b_normal ?_
                                refine t_normal ?_
                                refine c_region ?_
                                refine step_l (st_rd hf (Wn.none rfl) (rd_add hf rfl rfl rfl (by first | exact Go.IntWalk.i64_in _ (by omega) | exact rfl)) hS rfl rfl ?_)
                                clear hf; intro a hf
                                refine step_l (st_rd hf (Wn.none rfl) (rd_move hf rfl rfl) hS rfl rfl ?_)
                                clear hf; intro a hf
                                refine done_l ?_
                                refine t_normal ⟨i + 1, ⟨((((hf.k0.kb hf 25 rfl (by first | rfl | exact int_eq (by omega))).kb hf 24 rfl (by first | rfl | exact int_eq (by omega))).kb hf 3 rfl (by first | rfl | exact int_eq (by omega))).kb hf 0 rfl (by first | rfl | exact int_eq (by omega))), hS.sub (by repeat (first | exact Sub.refl | exact Sub.none | (apply Sub.cons; (focus ((repeat (first | exact Sel.head | apply Sel.tail)); done))) | apply Sub.skip)), by omega⟩, by first | omega | (simp only []; omega)⟩
                                )
                            )
                        · clear hf; intro hc7 a hf
                          first
                          | (first | exact Bool.noConfusion hc7 | exact absurd rfl hc7 | exact absurd htx hc7 | exact absurd (hok2 (by assumption)).2 hc7 | exact absurd hc7 (by omega); done)
                          | (
                            refine step_l (st_rd hf (Wn.some hf rfl rfl rfl rfl) (rd_pick_f hf rfl rfl rfl) hS rfl rfl ?_)
                            clear hf; intro a hf
                            refine step_l (st_rd hf (Wn.none rfl) (rd_pick_t hf rfl rfl rfl) hS rfl rfl ?_)
                            clear hf; intro a hf
                            refine step_l (st_rd hf (Wn.none rfl) (rd_move hf rfl rfl) hS rfl rfl ?_)
                            clear hf; intro a hf
                            refine step_l (st_skip hf (Wn.some hf rfl rfl rfl rfl) rfl rfl ?_)
                            clear hf; intro a hf
                            refine step_l (st_skip hf (Wn.some hf rfl rfl rfl rfl) rfl rfl ?_)
                            clear hf; intro a hf
                            refine step_l (st_rd hf (Wn.none rfl) (rd_pick_f hf rfl rfl rfl) hS rfl rfl ?_)
                            clear hf; intro a hf
                            refine done_l ?_
                            refine t_normal ?_
                            refine c_false hf rfl ?_
                            refine c_skip ?_
                            refine b_normal ?_
                            refine t_normal ?_
                            refine c_region ?_
                            refine step_l (st_rd hf (Wn.none rfl) (rd_add hf rfl rfl rfl (by first | exact Go.IntWalk.i64_in _ (by omega) | exact rfl)) hS rfl rfl ?_)
                            clear hf; intro a hf
                            refine step_l (st_rd hf (Wn.none rfl) (rd_move hf rfl rfl) hS rfl rfl ?_)
                            clear hf; intro a hf
                            refine done_l ?_
                            refine t_normal ⟨i + 1, ⟨((((hf.k0.kb hf 25 rfl (by first | rfl | exact int_eq (by omega))).kb hf 24 rfl (by first | rfl | exact int_eq (by omega))).kb hf 3 rfl (by first | rfl | exact int_eq (by omega))).kb hf 0 rfl (by first | rfl | exact int_eq (by omega))), hS.sub (by repeat (first | exact Sub.refl | exact Sub.none | (apply Sub.cons; (focus ((repeat (first | exact Sel.head | apply Sel.tail)); done))) | apply Sub.skip)), by omega⟩, by first | omega | (simp only []; omega)⟩
                            )
                        )
                    )
                · clear hf; intro hc4 a hf
                  first
                  | (first | exact Bool.noConfusion hc4 | exact absurd rfl hc4 | exact absurd htx hc4 | exact absurd (hok2 (by assumption)).2 hc4 | exact absurd hc4 (by omega); done)
                  | (
                    refine step_l (st_rd hf (Wn.none rfl) (rd_move hf rfl rfl) hS rfl rfl ?_)
                    clear hf; intro a hf
                    refine step_l (st_rd hf (Wn.some hf rfl rfl rfl rfl) (rd_move hf rfl rfl) hS rfl rfl ?_)
                    clear hf; intro a hf
                    refine step_l (st_rdB hf (Wn.some hf rfl rfl rfl rfl) (rd_gtr hf rfl rfl rfl) hS rfl rfl ?_ ?_)
                    · clear hf; intro hc9 a hf
                      first
                      | (first | exact Bool.noConfusion hc9 | exact absurd rfl hc9 | exact absurd htx hc9 | exact absurd (hok2 (by assumption)).2 hc9 | exact absurd hc9 (by omega); done)
                      | (
                        refine step_l (st_rd hf (Wn.none rfl) (rd_pick_f hf rfl rfl rfl) hS rfl rfl ?_)
                        clear hf; intro a hf
                        refine step_l (st_rd hf (Wn.none rfl) (rd_move hf rfl rfl) hS rfl rfl ?_)
                        clear hf; intro a hf
                        refine step_l (st_rd hf (Wn.some hf rfl rfl rfl rfl) (rd_move hf rfl rfl) hS rfl rfl ?_)
                        clear hf; intro a hf
                        refine step_l (st_rdB hf (Wn.some hf rfl rfl rfl rfl) (rd_lss hf rfl rfl rfl) hS rfl rfl ?_ ?_)
                        · clear hf; intro hc10 a hf
                          first
                          | (first | exact Bool.noConfusion hc10 | exact absurd rfl hc10 | exact absurd htx hc10 | exact absurd (hok2 (by assumption)).2 hc10 | exact absurd hc10 (by omega); done)
                          | (
                            refine step_l (st_rd hf (Wn.some hf rfl rfl rfl rfl) (rd_move hf rfl rfl) hS rfl rfl ?_)
                            clear hf; intro a hf
                            refine step_l (st_skip hf (Wn.some hf rfl rfl rfl rfl) rfl rfl ?_)
                            clear hf; intro a hf
                            refine step_l (st_skip hf (Wn.some hf rfl rfl rfl rfl) rfl rfl ?_)
                            clear hf; intro a hf
                            refine step_l (st_rd hf (Wn.some hf rfl rfl rfl rfl) (rd_pick_t hf rfl rfl rfl) hS rfl rfl ?_)
                            clear hf; intro a hf
                            refine step_l (st_rd hf (Wn.none rfl) (rd_pick_t hf rfl rfl rfl) hS rfl rfl ?_)
                            clear hf; intro a hf
                            refine step_l (st_rd hf (Wn.none rfl) (rd_move hf rfl rfl) hS rfl rfl ?_)
                            clear hf; intro a hf
                            refine step_l (st_rd hf (Wn.some hf rfl rfl rfl rfl) (rd_move hf rfl rfl) hS rfl rfl ?_)
                            clear hf; intro a hf
                            refine step_l (st_rdB hf (Wn.some hf rfl rfl rfl rfl) (rd_neq hf rfl rfl rfl) hS rfl rfl ?_ ?_)
                            · clear hf; intro hc11 a hf
                              first
                              | (first | exact Bool.noConfusion hc11 | exact absurd rfl hc11 | exact absurd htx hc11 | exact absurd (hok2 (by assumption)).2 hc11 | exact absurd hc11 (by omega); done)
                              | (
                                refine step_l (st_rd hf (Wn.none rfl) (rd_pick_t hf rfl rfl rfl) hS rfl rfl ?_)
                                clear hf; intro a hf
                                refine done_l ?_
                                refine t_normal ?_
                                refine c_true hf rfl ?_
                                refine c_seq ?_
                                refine c_region ?_
                                refine step_l (st_rd hf (Wn.none rfl) (rd_assign hf rfl rfl) hS rfl rfl ?_)
                                clear hf; intro a hf
                                refine done_l ?_
                                refine t_normal ?_
                                refine c_ret ?_
                                refine b_ret ?_
                                refine t_ret ?_
                                refine t_ret ?_
                                refine b_ret ?_
                                refine t_ret ?_
                                refine e_res1 hf.defers rfl (res_tmp hf rfl .nil) ?_
                                refine ⟨?_, hS.sub (by repeat (first | exact Sub.refl | exact Sub.none | (apply Sub.cons; (focus ((repeat (first | exact Sel.head | apply Sel.tail)); done))) | apply Sub.skip))⟩
                                clear hf hS
                                rfl
                                )
                            · clear hf; intro hc11 a hf
                              first
                              | (first | exact Bool.noConfusion hc11 | exact absurd rfl hc11 | exact absurd htx hc11 | exact absurd (hok2 (by assumption)).2 hc11 | exact absurd hc11 (by omega); done)
                              | (
                                refine step_l (st_rd hf (Wn.none rfl) (rd_pick_t hf rfl rfl rfl) hS rfl rfl ?_)
                                clear hf; intro a hf
                                refine done_l ?_
                                refine t_normal ?_
                                refine c_false hf rfl ?_
                                refine c_skip ?_
                                refine b_normal ?_
                                refine t_normal ?_
                                refine c_region ?_
                                refine step_l (st_rd hf (Wn.none rfl) (rd_add hf rfl rfl rfl (by first | exact Go.IntWalk.i64_in _ (by omega) | exact rfl)) hS rfl rfl ?_)
                                clear hf; intro a hf
                                refine step_l (st_rd hf (Wn.none rfl) (rd_move hf rfl rfl) hS rfl rfl ?_)
                                clear hf; intro a hf
                                refine done_l ?_
                                refine t_normal ⟨i + 1, ⟨((((hf.k0.kb hf 25 rfl (by first | rfl | exact int_eq (by omega))).kb hf 24 rfl (by first | rfl | exact int_eq (by omega))).kb hf 3 rfl (by first | rfl | exact int_eq (by omega))).kb hf 0 rfl (by first | rfl | exact int_eq (by omega))), hS.sub (by repeat (first | exact Sub.refl | exact Sub.none | (apply Sub.cons; (focus ((repeat (first | exact Sel.head | apply Sel.tail)); done))) | apply Sub.skip)), by omega⟩, by first | omega | (simp only []; omega)⟩
                                )
                            )
                        · clear hf; intro hc10 a hf
                          first
                          | (first | exact Bool.noConfusion hc10 | exact absurd rfl hc10 | exact absurd htx hc10 | exact absurd (hok2 (by assumption)).2 hc10 | exact absurd hc10 (by omega); done)
                          | (
                            refine step_l (st_rd hf (Wn.some hf rfl rfl rfl rfl) (rd_move hf rfl rfl) hS rfl rfl ?_)
                            clear hf; intro a hf
                            refine step_l (st_rd hf (Wn.some hf rfl rfl rfl rfl) (rd_move hf rfl rfl) hS rfl rfl ?_)
                            clear hf; intro a hf
                            refine step_l (st_rdB hf (Wn.some hf rfl rfl rfl rfl) (rd_gtr hf rfl rfl rfl) hS rfl rfl ?_ ?_)
                            · clear hf; intro hc12 a hf
                              first
                              | (first | exact Bool.noConfusion hc12 | exact absurd rfl hc12 | exact absurd htx hc12 | exact absurd (hok2 (by assumption)).2 hc12 | exact absurd hc12 (by omega); done)
                              | (
                                refine step_l (st_rd hf (Wn.some hf rfl rfl rfl rfl) (rd_pick_f hf rfl rfl rfl) hS rfl rfl ?_)
                                clear hf; intro a hf
                                refine step_l (st_rd hf (Wn.none rfl) (rd_pick_t hf rfl rfl rfl) hS rfl rfl ?_)
                                clear hf; intro a hf
                                refine step_l (st_rd hf (Wn.none rfl) (rd_move hf rfl rfl) hS rfl rfl ?_)
                                clear hf; intro a hf
                                refine step_l (st_rd hf (Wn.some hf rfl rfl rfl rfl) (rd_move hf rfl rfl) hS rfl rfl ?_)
                                clear hf; intro a hf
                                refine step_l (st_rdB hf (Wn.some hf rfl rfl rfl rfl) (rd_neq hf rfl rfl rfl) hS rfl rfl ?_ ?_)
                                · clear hf; intro hc13 a hf
                                  first
                                  | (first | exact Bool.noConfusion hc13 | exact absurd rfl hc13 | exact absurd htx hc13 | exact absurd (hok2 (by assumption)).2 hc13 | exact absurd hc13 (by omega); done)
                                  | (
                                    refine step_l (st_rd hf (Wn.none rfl) (rd_pick_t hf rfl rfl rfl) hS rfl rfl ?_)
                                    clear hf; intro a hf
                                    refine done_l ?_
                                    refine t_normal ?_
                                    refine c_true hf rfl ?_
                                    refine c_seq ?_
                                    refine c_region ?_
                                    refine step_l (st_rd hf (Wn.none rfl) (rd_assign hf rfl rfl) hS rfl rfl ?_)
                                    clear hf; intro a hf
                                    refine done_l ?_
                                    refine t_normal ?_
                                    refine c_ret ?_
                                    refine b_ret ?_
                                    refine t_ret ?_
                                    refine t_ret ?_
                                    refine b_ret ?_
                                    refine t_ret ?_
                                    refine e_res1 hf.defers rfl (res_tmp hf rfl .nil) ?_
                                    refine ⟨?_, hS.sub (by repeat (first | exact Sub.refl | exact Sub.none | (apply Sub.cons; (focus ((repeat (first | exact Sel.head | apply Sel.tail)); done))) | apply Sub.skip))⟩
                                    clear hf hS
                                    rfl
                                    )
                                · clear hf; intro hc13 a hf
                                  first
                                  | (first | exact Bool.noConfusion hc13 | exact absurd rfl hc13 | exact absurd htx hc13 | exact absurd (hok2 (by assumption)).2 hc13 | exact absurd hc13 (by omega); done)
                                  | (
                                    refine step_l (st_rd hf (Wn.none rfl) (rd_pick_t hf rfl rfl rfl) hS rfl rfl ?_)
                                    clear hf; intro a hf
                                    refine done_l ?_
                                    refine t_normal ?_
                                    refine c_false hf rfl ?_
                                    refine c_skip ?_
                                    refine b_normal ?_
                                    refine t_normal ?_
                                    refine c_region ?_
                                    refine step_l (st_rd hf (Wn.none rfl) (rd_add hf rfl rfl rfl (by first | exact Go.IntWalk.i64_in _ (by omega) | exact rfl)) hS rfl rfl ?_)
                                    clear hf; intro a hf
                                    refine step_l (st_rd hf (Wn.none rfl) (rd_move hf rfl rfl) hS rfl rfl ?_)
                                    clear hf; intro a hf
                                    refine done_l ?_
                                    refine t_normal ⟨i + 1, ⟨((((hf.k0.kb hf 25 rfl (by first | rfl | exact int_eq (by omega))).kb hf 24 rfl (by first | rfl | exact int_eq (by omega))).kb hf 3 rfl (by first | rfl | exact int_eq (by omega))).kb hf 0 rfl (by first | rfl | exact int_eq (by omega))), hS.sub (by repeat (first | exact Sub.refl | exact Sub.none | (apply Sub.cons; (focus ((repeat (first | exact Sel.head | apply Sel.tail)); done))) | apply Sub.skip)), by omega⟩, by first | omega | (simp only []; omega)⟩
                                    )
                                )
                            · clear hf; intro hc12 a hf
                              first
                              | (first | exact Bool.noConfusion hc12 | exact absurd rfl hc12 | exact absurd htx hc12 | exact absurd (hok2 (by assumption)).2 hc12 | exact absurd hc12 (by omega); done)
                              | (
                                refine step_l (st_rd hf (Wn.some hf rfl rfl rfl rfl) (rd_pick_f hf rfl rfl rfl) hS rfl rfl ?_)
                                clear hf; intro a hf
                                refine step_l (st_rd hf (Wn.none rfl) (rd_pick_t hf rfl rfl rfl) hS rfl rfl ?_)
                                clear hf; intro a hf
                                refine step_l (st_rd hf (Wn.none rfl) (rd_move hf rfl rfl) hS rfl rfl ?_)
                                clear hf; intro a hf
                                refine step_l (st_skip hf (Wn.some hf rfl rfl rfl rfl) rfl rfl ?_)
                                clear hf; intro a hf
                                refine step_l (st_skip hf (Wn.some hf rfl rfl rfl rfl) rfl rfl ?_)
                                clear hf; intro a hf
                                refine step_l (st_rd hf (Wn.none rfl) (rd_pick_f hf rfl rfl rfl) hS rfl rfl ?_)
                                clear hf; intro a hf
                                refine done_l ?_
                                refine t_normal ?_
                                refine c_false hf rfl ?_
                                refine c_skip ?_
                                refine b_normal ?_
                                refine t_normal ?_
                                refine c_region ?_
                                refine step_l (st_rd hf (Wn.none rfl) (rd_add hf rfl rfl rfl (by first | exact Go.IntWalk.i64_in _ (by omega) | exact rfl)) hS rfl rfl ?_)
                                clear hf; intro a hf
                                refine step_l (st_rd hf (Wn.none rfl) (rd_move hf rfl rfl) hS rfl rfl ?_)
                                clear hf; intro a hf
                                refine done_l ?_
                                refine t_normal ⟨i + 1, ⟨((((hf.k0.kb hf 25 rfl (by first | rfl | exact int_eq (by omega))).kb hf 24 rfl (by first | rfl | exact int_eq (by omega))).kb hf 3 rfl (by first | rfl | exact int_eq (by omega))).kb hf 0 rfl (by first | rfl | exact int_eq (by omega))), hS.sub (by repeat (first | exact Sub.refl | exact Sub.none | (apply Sub.cons; (focus ((repeat (first | exact Sel.head | apply Sel.tail)); done))) | apply Sub.skip)), by omega⟩, by first | omega | (simp only []; omega)⟩
                                )
                            )
                        )
                    · clear hf; intro hc9 a hf
                      first
                      | (first | exact Bool.noConfusion hc9 | exact absurd rfl hc9 | exact absurd htx hc9 | exact absurd (hok2 (by assumption)).2 hc9 | exact absurd hc9 (by omega); done)
                      | (
                        refine step_l (st_rd hf (Wn.none rfl) (rd_pick_f hf rfl rfl rfl) hS rfl rfl ?_)
                        clear hf; intro a hf
                        refine step_l (st_rd hf (Wn.none rfl) (rd_move hf rfl rfl) hS rfl rfl ?_)
                        clear hf; intro a hf
                        refine step_l (st_skip hf (Wn.some hf rfl rfl rfl rfl) rfl rfl ?_)
                        clear hf; intro a hf
                        refine step_l (st_skip hf (Wn.some hf rfl rfl rfl rfl) rfl rfl ?_)
                        clear hf; intro a hf
                        refine step_l (st_skip hf (Wn.some hf rfl rfl rfl rfl) rfl rfl ?_)
                        clear hf; intro a hf
                        refine step_l (st_skip hf (Wn.undef hf rfl rfl rfl) rfl rfl ?_)
                        clear hf; intro a hf
                        refine step_l (st_skip hf (Wn.undef hf rfl rfl rfl) rfl rfl ?_)
                        clear hf; intro a hf
                        refine step_l (st_skip hf (Wn.some hf rfl rfl rfl rfl) rfl rfl ?_)
                        clear hf; intro a hf
                        refine step_l (st_rd hf (Wn.none rfl) (rd_pick_f hf rfl rfl rfl) hS rfl rfl ?_)
                        clear hf; intro a hf
                        refine step_l (st_rd hf (Wn.none rfl) (rd_move hf rfl rfl) hS rfl rfl ?_)
                        clear hf; intro a hf
                        refine step_l (st_skip hf (Wn.some hf rfl rfl rfl rfl) rfl rfl ?_)
                        clear hf; intro a hf
                        refine step_l (st_skip hf (Wn.some hf rfl rfl rfl rfl) rfl rfl ?_)
                        clear hf; intro a hf
                        refine step_l (st_rd hf (Wn.none rfl) (rd_pick_f hf rfl rfl rfl) hS rfl rfl ?_)
                        clear hf; intro a hf
                        refine done_l ?_
                        refine t_normal ?_
                        refine c_false hf rfl ?_
                        refine c_skip ?_
                        refine b_normal ?_
                        refine t_normal ?_
                        refine c_region ?_
                        refine step_l (st_rd hf (Wn.none rfl) (rd_add hf rfl rfl rfl (by first | exact Go.IntWalk.i64_in _ (by omega) | exact rfl)) hS rfl rfl ?_)
                        clear hf; intro a hf
                        refine step_l (st_rd hf (Wn.none rfl) (rd_move hf rfl rfl) hS rfl rfl ?_)
                        clear hf; intro a hf
                        refine done_l ?_
                        refine t_normal ⟨i + 1, ⟨((((hf.k0.kb hf 25 rfl (by first | rfl | exact int_eq (by omega))).kb hf 24 rfl (by first | rfl | exact int_eq (by omega))).kb hf 3 rfl (by first | rfl | exact int_eq (by omega))).kb hf 0 rfl (by first | rfl | exact int_eq (by omega))), hS.sub (by repeat (first | exact Sub.refl | exact Sub.none | (apply Sub.cons; (focus ((repeat (first | exact Sel.head | apply Sel.tail)); done))) | apply Sub.skip)), by omega⟩, by first | omega | (simp only []; omega)⟩
                        )
                    )
                )
            · clear hf; intro hc3 a hf
              first
              | (first | exact Bool.noConfusion hc3 | exact absurd rfl hc3 | exact absurd htx hc3 | exact absurd (hok2 (by assumption)).2 hc3 | exact absurd hc3 (by omega); done)
              | (
                refine done_l ?_
                refine t_normal ?_
                refine c_seq ?_
                refine c_false hf rfl ?_
                refine c_exit ?_
                refine t_exit ?_
                refine t_exit ?_
                refine b_exit ?_
                refine t_normal ?_
                refine c_seq ?_
                refine c_region ?_
                refine step_l (st_rd hf (Wn.none rfl) (rd_move hf rfl rfl) hS rfl rfl ?_)
                clear hf; intro a hf
                refine step_l (st_call hf (Wn.none rfl) rfl rfl rfl fn33 (Text_c _ (by first | omega | (simp only [List.length_cons, List.length_nil, List.length_append]; omega)) hS) rfl rfl ?_)
                clear hf hS; rintro v a w ⟨rfl, hS⟩ hf
                refine step_l (st_rd hf (Wn.none rfl) (rd_move hf rfl rfl) hS rfl rfl ?_)
                clear hf; intro a hf
                refine step_l (st_rdB hf (Wn.none rfl) (rd_eqlS hf rfl rfl rfl) hS rfl rfl ?_ ?_)
                · clear hf; intro hc14 a hf
                  first
                  | (first | exact Bool.noConfusion hc14 | exact absurd rfl hc14 | exact absurd htx hc14 | exact absurd (hok2 (by assumption)).2 hc14 | exact absurd hc14 (by omega); done)
                  | (
                    refine step_l (st_rd hf (Wn.none rfl) (rd_move hf rfl rfl) hS rfl rfl ?_)
                    clear hf; intro a hf
                    refine step_l (st_rd hf (Wn.some hf rfl rfl rfl rfl) (rd_move hf rfl rfl) hS rfl rfl ?_)
                    clear hf; intro a hf
                    refine step_l (st_rd hf (Wn.some hf rfl rfl rfl rfl) (rd_lenS hf rfl rfl Try.underlying9) hS rfl rfl ?_)
                    clear hf; intro a hf
                    refine step_l (st_rd hf (Wn.some hf rfl rfl rfl rfl) (rd_move hf rfl rfl) hS rfl rfl ?_)
                    clear hf; intro a hf
                    refine step_l (st_rd hf (Wn.some hf rfl rfl rfl rfl) (rd_lenS hf rfl rfl Try.underlying9) hS rfl rfl ?_)
                    clear hf; intro a hf
                    refine step_l (st_rdB hf (Wn.some hf rfl rfl rfl rfl) (rd_leq hf rfl rfl rfl) hS rfl rfl ?_ ?_)
                    · clear hf; intro hc15 a hf
                      first
                      | (first | exact Bool.noConfusion hc15 | exact absurd rfl hc15 | exact absurd htx hc15 | exact absurd (hok2 (by assumption)).2 hc15 | exact absurd hc15 (by omega); done)
                      | (
                        refine step_l (st_rd hf (Wn.none rfl) (rd_pick_t hf rfl rfl rfl) hS rfl rfl ?_)
                        clear hf; intro a hf
                        refine step_l (st_rd hf (Wn.none rfl) (rd_move hf rfl rfl) hS rfl rfl ?_)
                        clear hf; intro a hf
                        refine step_l (st_call hf (Wn.some hf rfl rfl rfl rfl) rfl rfl rfl fn19 (awake9_c  hS) rfl rfl ?_)
                        clear hf hS; rintro v a w ⟨rfl, hS⟩ hf
                        refine step_l (st_rd hf (Wn.none rfl) (rd_pick_t hf rfl rfl rfl) hS rfl rfl ?_)
                        clear hf; intro a hf
                        refine step_l (st_rd hf (Wn.none rfl) (rd_assign hf rfl rfl) hS rfl rfl ?_)
                        clear hf; intro a hf
                        refine done_l ?_
                        refine t_normal ?_
                        refine c_ret ?_
                        refine e_res1 hf.defers rfl (res_tmp hf rfl .nil) ?_
                        refine ⟨?_, hS.sub (by repeat (first | exact Sub.refl | exact Sub.none | (apply Sub.cons; (focus ((repeat (first | exact Sel.head | apply Sel.tail)); done))) | apply Sub.skip))⟩
                        clear hf hS
                        rfl
                        )
                    · clear hf; intro hc15 a hf
                      first
                      | (first | exact Bool.noConfusion hc15 | exact absurd rfl hc15 | exact absurd htx hc15 | exact absurd (hok2 (by assumption)).2 hc15 | exact absurd hc15 (by omega); done)
                      | (
                        refine step_l (st_rd hf (Wn.none rfl) (rd_pick_t hf rfl rfl rfl) hS rfl rfl ?_)
                        clear hf; intro a hf
                        refine step_l (st_rd hf (Wn.none rfl) (rd_move hf rfl rfl) hS rfl rfl ?_)
                        clear hf; intro a hf
                        refine step_l (st_skip hf (Wn.some hf rfl rfl rfl rfl) rfl rfl ?_)
                        clear hf; intro a hf
                        refine step_l (st_rd hf (Wn.none rfl) (rd_pick_f hf rfl rfl rfl) hS rfl rfl ?_)
                        clear hf; intro a hf
                        refine step_l (st_rd hf (Wn.none rfl) (rd_assign hf rfl rfl) hS rfl rfl ?_)
                        clear hf; intro a hf
                        refine done_l ?_
                        refine t_normal ?_
                        refine c_ret ?_
                        refine e_res1 hf.defers rfl (res_tmp hf rfl .nil) ?_
                        refine ⟨?_, hS.sub (by repeat (first | exact Sub.refl | exact Sub.none | (apply Sub.cons; (focus ((repeat (first | exact Sel.head | apply Sel.tail)); done))) | apply Sub.skip))⟩
                        clear hf hS
                        rfl
                        )
                    )
                · clear hf; intro hc14 a hf
                  first
                  | (first | exact Bool.noConfusion hc14 | exact absurd rfl hc14 | exact absurd htx hc14 | exact absurd (hok2 (by assumption)).2 hc14 | exact absurd hc14 (by omega); done)
                  | (
                    refine step_l (st_rd hf (Wn.none rfl) (rd_move hf rfl rfl) hS rfl rfl ?_)
                    clear hf; intro a hf
                    refine step_l (st_skip hf (Wn.some hf rfl rfl rfl rfl) rfl rfl ?_)
                    clear hf; intro a hf
                    refine step_l (st_skip hf (Wn.some hf rfl rfl rfl rfl) rfl rfl ?_)
                    clear hf; intro a hf
                    refine step_l (st_skip hf (Wn.some hf rfl rfl rfl rfl) rfl rfl ?_)
                    clear hf; intro a hf
                    refine step_l (st_skip hf (Wn.some hf rfl rfl rfl rfl) rfl rfl ?_)
                    clear hf; intro a hf
                    refine step_l (st_skip hf (Wn.some hf rfl rfl rfl rfl) rfl rfl ?_)
                    clear hf; intro a hf
                    refine step_l (st_rd hf (Wn.none rfl) (rd_pick_f hf rfl rfl rfl) hS rfl rfl ?_)
                    clear hf; intro a hf
                    refine step_l (st_rd hf (Wn.none rfl) (rd_move hf rfl rfl) hS rfl rfl ?_)
                    clear hf; intro a hf
                    refine step_l (st_skip hf (Wn.some hf rfl rfl rfl rfl) rfl rfl ?_)
                    clear hf; intro a hf
                    refine step_l (st_rd hf (Wn.none rfl) (rd_pick_f hf rfl rfl rfl) hS rfl rfl ?_)
                    clear hf; intro a hf
                    refine step_l (st_rd hf (Wn.none rfl) (rd_assign hf rfl rfl) hS rfl rfl ?_)
                    clear hf; intro a hf
                    refine done_l ?_
                    refine t_normal ?_
                    refine c_ret ?_
                    refine e_res1 hf.defers rfl (res_tmp hf rfl .nil) ?_
                    refine ⟨?_, hS.sub (by repeat (first | exact Sub.refl | exact Sub.none | (apply Sub.cons; (focus ((repeat (first | exact Sel.head | apply Sel.tail)); done))) | apply Sub.skip))⟩
                    clear hf hS
                    rfl
                    )
                )
          )
      )
  · clear hf; intro hc1 a hf
    first
    | (first | exact Bool.noConfusion hc1 | exact absurd rfl hc1 | exact absurd htx hc1 | exact absurd (hok2 (by assumption)).2 hc1 | exact absurd hc1 (by omega); done)
    | (
      refine step_l (st_rd hf (Wn.none rfl) (rd_assign hf rfl rfl) hS rfl rfl ?_)
      clear hf; intro a hf
      refine step_l (st_rd hf (Wn.none rfl) (rd_assign hf rfl rfl) hS rfl rfl ?_)
      clear hf; intro a hf
      refine done_l ?_
      refine t_normal ?_
      refine c_seq ?_
      refine c_seq ?_
      refine c_region ?_
      refine step_l (st_rd hf (Wn.none rfl) (rd_move hf rfl rfl) hS rfl rfl ?_)
      clear hf; intro a hf
      refine step_l (st_rd hf (Wn.none rfl) (rd_not hf rfl rfl) hS rfl rfl ?_)
      clear hf; intro a hf
      refine done_l ?_
      refine t_normal ?_
      refine c_true hf rfl ?_
      refine c_seq ?_
      refine c_region ?_
      refine step_l (st_rd hf (Wn.none rfl) (rd_move hf rfl rfl) hS rfl rfl ?_)
      clear hf; intro a hf
      refine step_l (st_rdB hf (Wn.none rfl) (rd_eqlS hf rfl rfl rfl) hS rfl rfl ?_ ?_)
      · clear hf; intro hc16 a hf
        first
        | (first | exact Bool.noConfusion hc16 | exact absurd rfl hc16 | exact absurd htx hc16 | exact absurd (hok2 (by assumption)).2 hc16 | exact absurd hc16 (by omega); done)
        | (
          refine step_l (st_rd hf (Wn.none rfl) (rd_move hf rfl rfl) hS rfl rfl ?_)
          clear hf; intro a hf
          refine step_l (st_call hf (Wn.some hf rfl rfl rfl rfl) rfl rfl rfl fn19 (awake9_c  hS) rfl rfl ?_)
          clear hf hS; rintro v a w ⟨rfl, hS⟩ hf
          refine step_l (st_rd hf (Wn.none rfl) (rd_pick_t hf rfl rfl rfl) hS rfl rfl ?_)
          clear hf; intro a hf
          refine step_l (st_rd hf (Wn.none rfl) (rd_assign hf rfl rfl) hS rfl rfl ?_)
          clear hf; intro a hf
          refine done_l ?_
          refine t_normal ?_
          refine c_ret ?_
          refine t_ret ?_
          refine e_res1 hf.defers rfl (res_tmp hf rfl .nil) ?_
          refine ⟨?_, hS.sub (by repeat (first | exact Sub.refl | exact Sub.none | (apply Sub.cons; (focus ((repeat (first | exact Sel.head | apply Sel.tail)); done))) | apply Sub.skip))⟩
          clear hf hS
          rfl
          )
      · clear hf; intro hc16 a hf
        first
        | (first | exact Bool.noConfusion hc16 | exact absurd rfl hc16 | exact absurd htx hc16 | exact absurd (hok2 (by assumption)).2 hc16 | exact absurd hc16 (by omega); done)
        | (
          refine step_l (st_rd hf (Wn.none rfl) (rd_move hf rfl rfl) hS rfl rfl ?_)
          clear hf; intro a hf
          refine step_l (st_skip hf (Wn.some hf rfl rfl rfl rfl) rfl rfl ?_)
          clear hf; intro a hf
          refine step_l (st_rd hf (Wn.none rfl) (rd_pick_f hf rfl rfl rfl) hS rfl rfl ?_)
          clear hf; intro a hf
          refine step_l (st_rd hf (Wn.none rfl) (rd_assign hf rfl rfl) hS rfl rfl ?_)
          clear hf; intro a hf
          refine done_l ?_
          refine t_normal ?_
          refine c_ret ?_
          refine t_ret ?_
          refine e_res1 hf.defers rfl (res_tmp hf rfl .nil) ?_
          refine ⟨?_, hS.sub (by repeat (first | exact Sub.refl | exact Sub.none | (apply Sub.cons; (focus ((repeat (first | exact Sel.head | apply Sel.tail)); done))) | apply Sub.skip))⟩
          clear hf hS
          rfl
          )
      )

end Go.Proofs.Ytgmbhbnhfmfidaa
