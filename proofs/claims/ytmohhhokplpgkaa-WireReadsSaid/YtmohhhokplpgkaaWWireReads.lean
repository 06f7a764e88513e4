/-
  The statement WireReads, walked.
  Conditions: none.
-/
import Derived.Test.YtmohhhokplpgkaaWire2
namespace Go.Proofs.Ytmohhhokplpgkaa
open Go Go.Sl
set_option linter.unusedVariables false
set_option linter.unusedSimpArgs false
theorem ag43 : aggO Try.prog 43 = some true := by kernel_rfl
theorem fb43_0 : fieldB Try.prog 43 0 0 = true := by kernel_rfl
theorem fb43_5 : fieldB Try.prog 43 5 5 = true := by kernel_rfl
theorem fn17 : fnB Try.prog 17 = true := by kernel_rfl
theorem fn20 : fnB Try.prog 20 = true := by kernel_rfl
theorem fn22 : fnB Try.prog 22 = true := by kernel_rfl
theorem fn23 : fnB Try.prog 23 = true := by kernel_rfl
theorem fn24 : fnB Try.prog 24 = true := by kernel_rfl
theorem fn25 : fnB Try.prog 25 = true := by kernel_rfl
theorem fn27 : fnB Try.prog 27 = true := by kernel_rfl
theorem fn28 : fnB Try.prog 28 = true := by kernel_rfl
theorem fn29 : fnB Try.prog 29 = true := by kernel_rfl
theorem fn30 : fnB Try.prog 30 = true := by kernel_rfl
theorem fn33 : fnB Try.prog 33 = true := by kernel_rfl
theorem pl55 : placesO Try.prog 55 = some [(0, 1), (1, 1)] := by kernel_rfl
theorem sz43 : (Try.prog.info? 43).map (·.size) = some 6 := by kernel_rfl
theorem zr43 : (Try.prog.info? 43).bind (·.zero) = some (.agg #[.int .i64 0, .int .u64 0, .int .i64 0, .bool false, .slice none 0 0, .int .i64 0]) := by kernel_rfl
theorem zr55 : (Try.prog.info? 55).bind (·.zero) = some (.agg #[.slice none 0 0, .int .i64 0]) := by kernel_rfl
abbrev CallT := Int × Nat × Int × Bool × Sli UInt8 × Int × Unit
def callC (x : CallT) : List Value := [.int .i64 x.1, .int .u64 (x.2.1 : Nat), .int .i64 x.2.2.1, .bool x.2.2.2.1, .slice x.2.2.2.2.1.1 x.2.2.2.2.1.2.2.length x.2.2.2.2.1.2.1, .int .i64 x.2.2.2.2.2.1]
theorem callC_len (x : CallT) : (callC x).length = 6 := rfl
structure CallOk (W : World) (R : List HP) (x : CallT) : Prop where
  num : x.2.1 < 18446744073709551616
  int : -9223372036854775808 ≤ x.2.2.1 ∧ x.2.2.1 ≤ 9223372036854775807
  len : x.2.2.2.2.1.2.2.length ≤ 140737488351232
  most : -9223372036854775808 ≤ x.2.2.2.2.2.1 ∧ x.2.2.2.2.2.1 ≤ 9223372036854775807
  view : ∀ w, Sat W R w → SlAt w x.2.2.2.2.1.1 x.2.2.2.2.1.2.2.length 1 (bvs x.2.2.2.2.1.2.2)
theorem CallOk.of {W : World} {P : Program} {e : TypeId} {x : CallT} (h : (-9223372036854775808 ≤ x.1 ∧ x.1 ≤ 9223372036854775807) ∧ x.2.1 < 18446744073709551616 ∧ (-9223372036854775808 ≤ x.2.2.1 ∧ x.2.2.1 ≤ 9223372036854775807) ∧ True ∧
    Sli.ok P W e 1 1 (fun c : UInt8 => [bv c]) (fun _ => True) x.2.2.2.2.1 ∧ (-9223372036854775808 ≤ x.2.2.2.2.2.1 ∧ x.2.2.2.2.2.1 ≤ 9223372036854775807) ∧ True) : CallOk W [Old W] x := by
  obtain ⟨_, h2, h3, _, ⟨s1, s2, s3, s4, s5, s6⟩, h6, _⟩ := h
  exact ⟨h2, h3, by omega, h6, fun w h => h.slOfOld .head (by rw [flat_bv] at s1; exact s1)⟩

set_option maxHeartbeats 4000000 in
theorem WireReads_c (bs : List UInt8) (q : Option Addr) (cap : Nat) (l : List CallT) (ql : Option Addr) (capl : Nat) {W : World} {R : List HP} {w : World} (hS : Sat W (R) w) (hb : bs.length ≤ 140737488351232) (hv : ∀ w, Sat W R w → SlAt w q bs.length 1 (bvs bs)) (hl : ∀ x ∈ l, CallOk W R x) (hvl : ∀ w, Sat W R w → SlAt w ql l.length 6 (l.flatMap callC)) : Calls Try.prog 7 [.slice q bs.length cap, .slice ql l.length capl].toArray w (Ret fun v w' => v = .bool true ∧ Sat W R w') := by
  refine fn_start 99 Try.func7 rfl rfl rfl ?_
  intro a hf
  refine c_seq ?_
  refine c_region ?_
  refine step_l (st_rd hf (Wn.none rfl) (rd_assign hf rfl rfl) hS rfl rfl ?_)
  clear hf; intro a hf
  refine done_l ?_
  refine t_normal ?_
  refine c_seq ?_
  refine c_region ?_
  refine step_l (st_rd hf (Wn.none rfl) (rd_move hf rfl rfl) hS rfl rfl ?_)
  clear hf; intro a hf
  refine step_l (st_call hf (Wn.none rfl) rfl rfl rfl fn20 (NewReader_c bs _ _ _ hS rfl (by omega) (fun _ h => hv _ h)) rfl rfl ?_)
  clear hf hS; rintro v a w ⟨pr, rfl, hS⟩ hf
  refine step_l (st_rd hf (Wn.none rfl) (rd_move hf rfl rfl) hS rfl rfl ?_)
  clear hf; intro a hf
  replace hS := hS.rwNil 5 1
  refine step_l (st_append hf (Wn.none rfl) rfl rfl rfl Try.underlying29 tyb5 (by rfl) (by decide) hS (by repeat (first | exact Sel.head | apply Sel.tail)) (by first | exact hS.slOfBlk (by repeat (first | exact Sel.head | apply Sel.tail)) (by rfl) | exact hS.slOfBlkPre (by repeat (first | exact Sel.head | apply Sel.tail)) (bvs_len1 _) | exact hS.slOfRw (by repeat (first | exact Sel.head | apply Sel.tail)) | exact SlAt.nil _ _ _ | exact hv _ (hS.sub (by repeat (first | exact Sub.refl | exact Sub.none | (apply Sub.cons; (focus ((repeat (first | exact Sel.head | apply Sel.tail)); done))) | apply Sub.skip)))) (by first | rfl | exact bvs_one _ | (simp [Value.oneCell']; done)) (by omega) rfl rfl ?_)
  clear hf hS; intro pA capA a w hf hS hnilA
  refine step_l (st_rd hf (Wn.none rfl) (rd_build hf rfl rfl zr55 (by rfl) pl55 (.cons rfl (by rfl) (by rfl) (by repeat (first | exact Put.nil | apply Put.cons | apply Put.succ)) .nil)) hS rfl rfl ?_)
  clear hf; intro a hf
  refine step_l (st_box hf (Wn.none rfl) hS rfl rfl (by rfl) rfl rfl ?_)
  clear hf hS; intro b_2 a w hf hS
  refine step_l (st_rd hf (Wn.none rfl) (rd_assign hf rfl rfl) hS rfl rfl ?_)
  clear hf; intro a hf
  refine step_l (st_rd hf (Wn.none rfl) (rd_assign hf rfl rfl) hS rfl rfl ?_)
  clear hf; intro a hf
  refine done_l ?_
  refine t_normal ?_
  refine c_seq ?_
  refine c_seq ?_
  refine c_region ?_
  refine step_l (st_rd hf (Wn.none rfl) (rd_move hf rfl rfl) hS rfl rfl ?_)
  clear hf; intro a hf
  refine step_l (st_rdb hf (Wn.none rfl) (rd_eqlNilP hf rfl rfl rfl Try.underlying45) hS rfl rfl ?_ ?_)
  · clear hf; intro hc3 a hf
    exact Bool.noConfusion hc3
  · clear hf; intro hc3 a hf
    replace hS := rd_shut (s := (bs, 0)) ((Sat.vwOfRw (hS.sub (.cons (.tail .head) (.cons .head .refl)))).sub (.cons (.tail .head) (.cons .head .refl))) (by simp) (by simp) rfl (hS.rwLen (.tail .head)).2.1
    first
    | (first | exact absurd rfl hc3; done)
    | (
      refine done_l ?_
      refine t_normal ?_
      refine c_false hf rfl ?_
      refine c_skip ?_
      refine t_normal ?_
      refine c_seq ?_
      refine c_seq ?_
      refine c_region ?_
      refine step_l (st_rd hf (Wn.none rfl) (rd_assign hf rfl rfl) hS rfl rfl ?_)
      clear hf; intro a hf
      refine done_l ?_
      refine t_normal ?_
      refine c_block ?_
      refine c_loop (α := Nat × RS) (fun ⟨i, s⟩ a w => Fits 99 a [(1, .slice ql l.length capl), (5, .pointer (some ⟨pr, 0, none⟩)), (6, .pointer (some ⟨b_2, 0, none⟩)), (7, .int .i64 (i : Nat))] ∧ Sat W (RdP 71 pr s :: RdP 55 b_2 s :: R) w ∧ i ≤ 60 ∧ s.1.length ≤ 140737488351232) (fun ⟨i, s⟩ => 60 - i) (0, (bs, 0)) ?_ ?_
      · exact ⟨((((hf.k0.kb hf 7 rfl (by rfl)).kb hf 6 rfl (by rfl)).kb hf 5 rfl (by rfl)).kb hf 1 rfl (by rfl)), hS.sub (by repeat (first | exact Sub.refl | exact Sub.none | (apply Sub.cons; (focus ((repeat (first | exact Sel.head | apply Sel.tail)); done))) | apply Sub.skip)), ⟨by omega, hb⟩⟩
      · clear hf hS; rintro ⟨i, s⟩ a w ⟨hf, hS, ⟨hi, hs⟩⟩
        refine c_seq ?_
        refine c_seq ?_
        refine c_region ?_
        refine step_l (st_rd hf (Wn.none rfl) (rd_move hf rfl rfl) hS rfl rfl ?_)
        clear hf; intro a hf
        refine step_l (st_rd hf (Wn.none rfl) (rd_move hf rfl rfl) hS rfl rfl ?_)
        clear hf; intro a hf
        refine step_l (st_rd hf (Wn.none rfl) (rd_len hf rfl rfl Try.underlying37) hS rfl rfl ?_)
        clear hf; intro a hf
        refine step_l (st_rdB hf (Wn.none rfl) (rd_lss hf rfl rfl rfl) hS rfl rfl ?_ ?_)
        · clear hf; intro hc4 a hf
          first
          | (first | exact absurd rfl hc4; done)
          | (
            refine step_l (st_rd hf (Wn.none rfl) (rd_move hf rfl rfl) hS rfl rfl ?_)
            clear hf; intro a hf
            refine step_l (st_rd hf (Wn.some hf rfl rfl rfl rfl) (rd_move hf rfl rfl) hS rfl rfl ?_)
            clear hf; intro a hf
            refine step_l (st_rdB hf (Wn.some hf rfl rfl rfl rfl) (rd_lss hf rfl rfl rfl) hS rfl rfl ?_ ?_)
            · clear hf; intro hc5 a hf
              obtain ⟨x, hget⟩ := get_of_lt (l := l) (k := i) (by omega) rfl; have hx := hl x (List.mem_of_getElem? hget); obtain ⟨hx1, hx2, hx3, hx4, hx5⟩ := hx; obtain ⟨adl, rfl⟩ := (hvl _ (hS.sub (by repeat (first | exact Sub.refl | exact Sub.none | (apply Sub.cons; (focus ((repeat (first | exact Sel.head | apply Sel.tail)); done))) | apply Sub.skip)))).some (by omega)
              first
              | (first | exact absurd rfl hc5; done)
              | (
                refine step_l (st_rd hf (Wn.none rfl) (rd_pick_t hf rfl rfl rfl) hS rfl rfl ?_)
                clear hf; intro a hf
                refine done_l ?_
                refine t_normal ?_
                refine c_true hf rfl ?_
                refine c_skip ?_
                refine t_normal ?_
                refine c_seq ?_
                refine c_block ?_
                refine c_seq ?_
                refine c_region ?_
                refine step_l (st_rd hf (Wn.none rfl) (rd_move hf rfl rfl) hS rfl rfl ?_)
                clear hf; intro a hf
                refine step_l (st_rd hf (Wn.none rfl) (rd_move hf rfl rfl) hS rfl rfl ?_)
                clear hf; intro a hf
                refine step_l (st_rd hf (Wn.none rfl) ((by first | exact rd_indexAddrN hf rfl rfl rfl Try.underlying37 sz43 (by omega) | exact rd_indexAddr hf rfl rfl rfl Try.underlying37 sz43 (by first | decide | omega) (by omega))) hS rfl rfl ?_)
                clear hf; intro a hf
                refine step_l (st_rd hf (Wn.none rfl) (rd_loadN hf rfl rfl ag43 sz43 (by intro _ h; exact (hvl _ (h.sub (by repeat (first | exact Sub.refl | exact Sub.none | (apply Sub.cons; (focus ((repeat (first | exact Sel.head | apply Sel.tail)); done))) | apply Sub.skip)))).elem callC_len hget)) hS rfl rfl ?_)
                clear hf; intro a hf
                refine step_l (st_alloc hf (Wn.none rfl) hS rfl zr43 (by rfl) rfl rfl ?_)
                clear hf hS; intro b_c a w hf hS
                refine step_l (st_store hf (Wn.none rfl) hS rfl rfl rfl (by rfl) sz43 (by rfl) (by rfl) (by repeat (first | exact Sel.head | apply Sel.tail)) (by repeat (first | exact Put.nil | apply Put.cons | apply Put.succ)) rfl ?_)
                clear hf hS; intro a w hf hS
                refine done_l ?_
                refine t_normal ?_
                refine c_seq ?_
                refine c_seq ?_
                refine c_region ?_
                refine step_l (st_rd hf (Wn.none rfl) (rd_fieldAddrB hf rfl rfl fb43_0 rfl) hS rfl rfl ?_)
                clear hf; intro a hf
                refine step_l (st_rd hf (Wn.none rfl) (rd_load1 hf rfl rfl ag3 (by intro _ h; first | exact h.cell (by repeat (first | exact Sel.head | apply Sel.tail)) (by rfl))) hS rfl rfl ?_)
                clear hf; intro a hf
                refine done_l ?_
                refine t_normal ?_
                refine c_block ?_
                refine c_seq ?_
                refine c_region ?_
                refine step_l (st_rdB hf (Wn.none rfl) (rd_eql hf rfl rfl rfl) hS rfl rfl ?_ ?_)
                · clear hf; intro hc7 a hf
                  first
                  | (first | exact absurd rfl hc7; done)
                  | (
                    refine step_l (st_rd hf (Wn.none rfl) (rd_assign hf rfl rfl) hS rfl rfl ?_)
                    clear hf; intro a hf
                    refine done_l ?_
                    refine t_normal ?_
                    refine c_true hf rfl ?_
                    refine c_seq ?_
                    refine c_region ?_
                    refine step_l (st_rd hf (Wn.none rfl) (rd_move hf rfl rfl) hS rfl rfl ?_)
                    clear hf; intro a hf
                    refine step_l (st_call hf (Wn.none rfl) rfl rfl rfl fn21 (RWNum_c _ _ (hS.sel (by repeat (first | exact Sel.head | apply Sel.tail)))) rfl rfl ?_)
                    clear hf hS; rintro v a w ⟨rfl, hS⟩ hf
                    refine step_l (st_rd hf (Wn.none rfl) (rd_move hf rfl rfl) hS rfl rfl ?_)
                    clear hf; intro a hf
                    refine step_l (st_call hf (Wn.none rfl) rfl rfl rfl fn26 (RVNum_c _ _ (hS.sel (by repeat (first | exact Sel.head | apply Sel.tail)))) rfl rfl ?_)
                    clear hf hS; rintro v a w ⟨rfl, hS⟩ hf; have ht : (rNum s).2.1.length ≤ s.1.length := rNum_rest s; generalize (rNum s).2 = t at hS ht
                    refine step_l (st_rdB hf (Wn.none rfl) (rd_neq hf rfl rfl rfl) hS rfl rfl ?_ ?_)
                    · clear hf; intro hc8 a hf
                      first
                      | (first | exact absurd rfl hc8; done)
                      | (
                        refine done_l ?_
                        refine t_normal ?_
                        refine c_true hf rfl ?_
                        refine c_seq ?_
                        refine c_region ?_
                        refine step_l (st_rd hf (Wn.none rfl) (rd_assign hf rfl rfl) hS rfl rfl ?_)
                        clear hf; intro a hf
                        refine done_l ?_
                        refine t_normal ?_
                        refine c_ret ?_
                        refine b_ret ?_
                        refine t_ret ?_
                        refine b_ret ?_
                        refine t_ret ?_
                        refine t_ret ?_
                        refine b_ret ?_
                        refine t_ret ?_
                        refine e_res1 hf.defers rfl (res_tmp hf rfl .nil) ?_
                        exact ⟨rfl, hS.sub (by repeat (first | exact Sub.refl | exact Sub.none | (apply Sub.cons; (focus ((repeat (first | exact Sel.head | apply Sel.tail)); done))) | apply Sub.skip))⟩
                        )
                    · clear hf; intro hc8 a hf
                      first
                      | (first | exact absurd rfl hc8; done)
                      | (
                        refine done_l ?_
                        refine t_normal ?_
                        refine c_false hf rfl ?_
                        refine c_skip ?_
                        refine b_normal ?_
                        refine t_normal ?_
                        refine c_seq ?_
                        obtain ⟨q2, cap2, hcap2, hS⟩ := rd_open (T := 55) (hS.sel (by repeat (first | exact Sel.head | apply Sel.tail)))
                        refine any_begin (S := Sat W (Blk b_2 [.slice q2 t.1.length cap2, .int .i64 t.2] 55 :: R)) mixed (hS.drew.sub (by repeat (first | exact Sub.refl | exact Sub.none | (apply Sub.cons; (focus ((repeat (first | exact Sel.head | apply Sel.tail)); done))) | apply Sub.skip))) ?_
                        have hT : Sat W (Blk b_2 [.slice q2 t.1.length cap2, .int .i64 t.2] 55 :: R) _ := hS.drew.sub (by repeat (first | exact Sub.refl | exact Sub.none | (apply Sub.cons; (focus ((repeat (first | exact Sel.head | apply Sel.tail)); done))) | apply Sub.skip))
                        replace hS := hS.drew
                        refine any_take (i := 0) hf rfl (by kernel_rfl) (by kernel_rfl) (by kernel_rfl) (fun _ _ _ h => h) (Wn.none rfl) (rd_move hf rfl rfl) hT rfl rfl ?_
                        clear hf; intro a hf
                        refine any_take (i := 2) hf rfl (by kernel_rfl) (by kernel_rfl) (by kernel_rfl) (fun _ _ _ h => h) (Wn.none rfl) (rd_move hf rfl rfl) hT rfl rfl ?_
                        clear hf; intro a hf
                        refine any_take (i := 3) hf rfl (by kernel_rfl) (by kernel_rfl) (by kernel_rfl) (fun _ _ _ h => h) (Wn.none rfl) (rd_nilCheck hf rfl rfl) hT rfl rfl ?_
                        clear hf; intro a hf
                        refine any_take (i := 4) hf rfl (by kernel_rfl) (by kernel_rfl) (by kernel_rfl) (fun _ _ _ h => h) (Wn.none rfl) (rd_fieldAddrB hf rfl rfl fb55_0 rfl) hT rfl rfl ?_
                        clear hf; intro a hf
                        refine any_take (i := 5) hf rfl (by kernel_rfl) (by kernel_rfl) (by kernel_rfl) (fun _ _ _ h => h) (Wn.none rfl) (rd_load1 hf rfl rfl ag29 (by intro _ h; first | exact h.cell (by repeat (first | exact Sel.head | apply Sel.tail)) (by rfl))) hT rfl rfl ?_
                        clear hf; intro a hf
                        refine any_take (i := 6) hf rfl (by kernel_rfl) (by kernel_rfl) (by kernel_rfl) (fun _ _ _ h => h) (Wn.none rfl) (rd_len hf rfl rfl Try.underlying29) hT rfl rfl ?_
                        clear hf; intro a hf
                        refine any_one (i := 1) rfl (by kernel_rfl) (st_call hf (Wn.none rfl) rfl rfl rfl fn23 (RWLeft_c _ _ (hS.sel (by repeat (first | exact Sel.head | apply Sel.tail)))) rfl rfl ?_)
                        clear hf hS; rintro v a w ⟨rfl, hS⟩ hf
                        replace hT := hS.sub' hT (by repeat (first | exact Sub.refl | exact Sub.none | (apply Sub.cons; (focus ((repeat (first | exact Sel.head | apply Sel.tail)); done))) | apply Sub.skip))
                        refine ⟨hT, ?_⟩
                        refine any_takeB (i := 7) hf rfl (by kernel_rfl) (by kernel_rfl) (by kernel_rfl) (fun _ _ _ _ h => h) (Wn.none rfl) (rd_neq hf rfl rfl rfl) hT rfl rfl ?_ ?_
                        · clear hf; intro hc9 a hf
                          first
                          | (first | exact absurd rfl hc9; done)
                          | (
                            refine any_take (i := 8) hf rfl (by kernel_rfl) (by kernel_rfl) (by kernel_rfl) (fun _ _ _ h => h) (Wn.none rfl) (rd_move hf rfl rfl) hT rfl rfl ?_
                            clear hf; intro a hf
                            refine any_skip (i := 9) hf rfl (by kernel_rfl) (by kernel_rfl) (by kernel_rfl) (fun _ _ _ h => h) (Wn.some hf rfl rfl rfl rfl) hT rfl rfl ?_
                            clear hf; intro a hf
                            refine any_skip (i := 10) hf rfl (by kernel_rfl) (by kernel_rfl) (by kernel_rfl) (fun _ _ _ h => h) (Wn.some hf rfl rfl rfl rfl) hT rfl rfl ?_
                            clear hf; intro a hf
                            refine any_skip (i := 11) hf rfl (by kernel_rfl) (by kernel_rfl) (by kernel_rfl) (fun _ _ _ h => h) (Wn.some hf rfl rfl rfl rfl) hT rfl rfl ?_
                            clear hf; intro a hf
                            refine any_skip (i := 12) hf rfl (by kernel_rfl) (by kernel_rfl) (by kernel_rfl) (fun _ _ _ h => h) (Wn.some hf rfl rfl rfl rfl) hT rfl rfl ?_
                            clear hf; intro a hf
                            refine any_skip (i := 13) hf rfl (by kernel_rfl) (by kernel_rfl) (by kernel_rfl) (fun _ _ _ h => h) (Wn.some hf rfl rfl rfl rfl) hT rfl rfl ?_
                            clear hf; intro a hf
                            refine any_take (i := 14) hf rfl (by kernel_rfl) (by kernel_rfl) (by kernel_rfl) (fun _ _ _ h => h) (Wn.none rfl) (rd_pick_t hf rfl rfl rfl) hT rfl rfl ?_
                            clear hf; intro a hf
                            refine any_done (by kernel_rfl) ?_
                            refine t_normal ?_
                            refine c_true hf rfl ?_
                            refine c_seq ?_
                            refine c_region ?_
                            refine step_l (st_rd hf (Wn.none rfl) (rd_assign hf rfl rfl) hS rfl rfl ?_)
                            clear hf; intro a hf
                            refine done_l ?_
                            refine t_normal ?_
                            refine c_ret ?_
                            refine b_ret ?_
                            refine t_ret ?_
                            refine t_ret ?_
                            refine b_ret ?_
                            refine t_ret ?_
                            refine e_res1 hf.defers rfl (res_tmp hf rfl .nil) ?_
                            exact ⟨rfl, hS.sub (by repeat (first | exact Sub.refl | exact Sub.none | (apply Sub.cons; (focus ((repeat (first | exact Sel.head | apply Sel.tail)); done))) | apply Sub.skip))⟩
                            )
                        · clear hf; intro hc9 a hf
                          first
                          | (first | exact absurd rfl hc9; done)
                          | (
                            refine any_take (i := 8) hf rfl (by kernel_rfl) (by kernel_rfl) (by kernel_rfl) (fun _ _ _ h => h) (Wn.none rfl) (rd_move hf rfl rfl) hT rfl rfl ?_
                            clear hf; intro a hf
                            refine any_take (i := 9) hf rfl (by kernel_rfl) (by kernel_rfl) (by kernel_rfl) (fun _ _ _ h => h) (Wn.some hf rfl rfl rfl rfl) (rd_move hf rfl rfl) hT rfl rfl ?_
                            clear hf; intro a hf
                            refine any_take (i := 11) hf rfl (by kernel_rfl) (by kernel_rfl) (by kernel_rfl) (fun _ _ _ h => h) (Wn.some hf rfl rfl rfl rfl) (rd_move hf rfl rfl) hT rfl rfl ?_
                            clear hf; intro a hf
                            refine any_one (i := 10) rfl (by kernel_rfl) (st_call hf (Wn.some hf rfl rfl rfl rfl) rfl rfl rfl fn25 (RWEnd_c _ _ (hS.sel (by repeat (first | exact Sel.head | apply Sel.tail)))) rfl rfl ?_)
                            clear hf hS; rintro v a w ⟨rfl, hS⟩ hf
                            replace hT := hS.sub' hT (by repeat (first | exact Sub.refl | exact Sub.none | (apply Sub.cons; (focus ((repeat (first | exact Sel.head | apply Sel.tail)); done))) | apply Sub.skip))
                            refine ⟨hT, ?_⟩
                            refine any_one (i := 12) rfl (by kernel_rfl) (st_call hf (Wn.some hf rfl rfl rfl rfl) rfl rfl rfl fn33 (RVEnd2_c _ _ _ _ _ (hS.sel (by repeat (first | exact Sel.head | apply Sel.tail)))) rfl rfl ?_)
                            clear hf hS; rintro v a w ⟨rfl, hS⟩ hf
                            replace hT := hS.sub' hT (by repeat (first | exact Sub.refl | exact Sub.none | (apply Sub.cons; (focus ((repeat (first | exact Sel.head | apply Sel.tail)); done))) | apply Sub.skip))
                            refine ⟨hT, ?_⟩
                            refine any_takeB (i := 13) hf rfl (by kernel_rfl) (by kernel_rfl) (by kernel_rfl) (fun _ _ _ _ h => h) (Wn.some hf rfl rfl rfl rfl) (rd_neq hf rfl rfl rfl) hT rfl rfl ?_ ?_
                            · clear hf; intro hc10 a hf
                              first
                              | (first | exact absurd rfl hc10; done)
                              | (
                                refine any_take (i := 14) hf rfl (by kernel_rfl) (by kernel_rfl) (by kernel_rfl) (fun _ _ _ h => h) (Wn.none rfl) (rd_pick_f hf rfl rfl rfl) hT rfl rfl ?_
                                clear hf; intro a hf
                                refine any_done (by kernel_rfl) ?_
                                refine t_normal ?_
                                refine c_true hf rfl ?_
                                refine c_seq ?_
                                refine c_region ?_
                                refine step_l (st_rd hf (Wn.none rfl) (rd_assign hf rfl rfl) hS rfl rfl ?_)
                                clear hf; intro a hf
                                refine done_l ?_
                                refine t_normal ?_
                                refine c_ret ?_
                                refine b_ret ?_
                                refine t_ret ?_
                                refine t_ret ?_
                                refine b_ret ?_
                                refine t_ret ?_
                                refine e_res1 hf.defers rfl (res_tmp hf rfl .nil) ?_
                                exact ⟨rfl, hS.sub (by repeat (first | exact Sub.refl | exact Sub.none | (apply Sub.cons; (focus ((repeat (first | exact Sel.head | apply Sel.tail)); done))) | apply Sub.skip))⟩
                                )
                            · clear hf; intro hc10 a hf
                              first
                              | (first | exact absurd rfl hc10; done)
                              | (
                                refine any_take (i := 14) hf rfl (by kernel_rfl) (by kernel_rfl) (by kernel_rfl) (fun _ _ _ h => h) (Wn.none rfl) (rd_pick_f hf rfl rfl rfl) hT rfl rfl ?_
                                clear hf; intro a hf
                                refine any_done (by kernel_rfl) ?_
                                refine t_normal ?_
                                refine c_false hf rfl ?_
                                refine c_skip ?_
                                refine b_normal ?_
                                refine t_normal ?_
                                refine c_region ?_
                                refine step_l (st_rd hf (Wn.none rfl) (rd_move hf rfl rfl) hS rfl rfl ?_)
                                clear hf; intro a hf
                                refine step_l (st_rd hf (Wn.none rfl) (rd_add hf rfl rfl rfl (by first | exact Go.IntWalk.i64_in _ (by omega) | exact rfl)) hS rfl rfl ?_)
                                clear hf; intro a hf
                                refine step_l (st_rd hf (Wn.none rfl) (rd_assign hf rfl rfl) hS rfl rfl ?_)
                                clear hf; intro a hf
                                refine done_l ?_
                                refine t_normal ⟨(i + 1, t), ⟨((((hf.k0.kb hf 7 rfl (by first | rfl | exact int_eq (by omega))).kb hf 6 rfl (by rfl)).kb hf 5 rfl (by rfl)).kb hf 1 rfl (by rfl)), (rd_shut (s := t) (hS.sub (.cons (by repeat (first | exact Sel.head | apply Sel.tail)) (.cons (by repeat (first | exact Sel.head | apply Sel.tail)) .refl)) : Sat W (Blk b_2 [.slice q2 t.1.length cap2, .int .i64 t.2] 55 :: Vw q2 t.1.length 1 (bvs t.1) :: _) _) rfl rfl rfl hcap2).sub (by repeat (first | exact Sub.refl | exact Sub.none | (apply Sub.cons; (focus ((repeat (first | exact Sel.head | apply Sel.tail)); done))) | apply Sub.skip)), ⟨by omega, by omega⟩⟩, by first | omega | (simp only []; omega)⟩
                                )
                            )
                        )
                    )
                · clear hf; intro hc7 a hf
                  first
                  | (first | exact absurd rfl hc7; done)
                  | (
                    refine step_l (st_rd hf (Wn.none rfl) (rd_assign hf rfl rfl) hS rfl rfl ?_)
                    clear hf; intro a hf
                    refine done_l ?_
                    refine t_normal ?_
                    refine c_false hf rfl ?_
                    refine c_seq ?_
                    refine c_region ?_
                    refine step_l (st_rdB hf (Wn.none rfl) (rd_eql hf rfl rfl rfl) hS rfl rfl ?_ ?_)
                    · clear hf; intro hc11 a hf
                      first
                      | (first | exact absurd rfl hc11; done)
                      | (
                        refine step_l (st_rd hf (Wn.none rfl) (rd_assign hf rfl rfl) hS rfl rfl ?_)
                        clear hf; intro a hf
                        refine done_l ?_
                        refine t_normal ?_
                        refine c_true hf rfl ?_
                        refine c_seq ?_
                        refine c_region ?_
                        refine step_l (st_rd hf (Wn.none rfl) (rd_move hf rfl rfl) hS rfl rfl ?_)
                        clear hf; intro a hf
                        refine step_l (st_call hf (Wn.none rfl) rfl rfl rfl fn24 (RWInt_c _ _ (hS.sel (by repeat (first | exact Sel.head | apply Sel.tail)))) rfl rfl ?_)
                        clear hf hS; rintro v a w ⟨rfl, hS⟩ hf
                        refine step_l (st_rd hf (Wn.none rfl) (rd_move hf rfl rfl) hS rfl rfl ?_)
                        clear hf; intro a hf
                        refine step_l (st_call hf (Wn.none rfl) rfl rfl rfl fn27 (RVInt_c _ _ (hS.sel (by repeat (first | exact Sel.head | apply Sel.tail)))) rfl rfl ?_)
                        clear hf hS; rintro v a w ⟨rfl, hS⟩ hf; have ht : (rInt s).2.1.length ≤ s.1.length := rNum_rest s; generalize (rInt s).2 = t at hS ht
                        refine step_l (st_rdB hf (Wn.none rfl) (rd_neq hf rfl rfl rfl) hS rfl rfl ?_ ?_)
                        · clear hf; intro hc12 a hf
                          first
                          | (first | exact absurd rfl hc12; done)
                          | (
                            refine done_l ?_
                            refine t_normal ?_
                            refine c_true hf rfl ?_
                            refine c_seq ?_
                            refine c_region ?_
                            refine step_l (st_rd hf (Wn.none rfl) (rd_assign hf rfl rfl) hS rfl rfl ?_)
                            clear hf; intro a hf
                            refine done_l ?_
                            refine t_normal ?_
                            refine c_ret ?_
                            refine b_ret ?_
                            refine t_ret ?_
                            refine b_ret ?_
                            refine t_ret ?_
                            refine t_ret ?_
                            refine b_ret ?_
                            refine t_ret ?_
                            refine e_res1 hf.defers rfl (res_tmp hf rfl .nil) ?_
                            exact ⟨rfl, hS.sub (by repeat (first | exact Sub.refl | exact Sub.none | (apply Sub.cons; (focus ((repeat (first | exact Sel.head | apply Sel.tail)); done))) | apply Sub.skip))⟩
                            )
                        · clear hf; intro hc12 a hf
                          first
                          | (first | exact absurd rfl hc12; done)
                          | (
                            refine done_l ?_
                            refine t_normal ?_
                            refine c_false hf rfl ?_
                            refine c_skip ?_
                            refine b_normal ?_
                            refine t_normal ?_
                            refine c_seq ?_
                            obtain ⟨q2, cap2, hcap2, hS⟩ := rd_open (T := 55) (hS.sel (by repeat (first | exact Sel.head | apply Sel.tail)))
                            refine any_begin (S := Sat W (Blk b_2 [.slice q2 t.1.length cap2, .int .i64 t.2] 55 :: R)) mixed (hS.drew.sub (by repeat (first | exact Sub.refl | exact Sub.none | (apply Sub.cons; (focus ((repeat (first | exact Sel.head | apply Sel.tail)); done))) | apply Sub.skip))) ?_
                            have hT : Sat W (Blk b_2 [.slice q2 t.1.length cap2, .int .i64 t.2] 55 :: R) _ := hS.drew.sub (by repeat (first | exact Sub.refl | exact Sub.none | (apply Sub.cons; (focus ((repeat (first | exact Sel.head | apply Sel.tail)); done))) | apply Sub.skip))
                            replace hS := hS.drew
                            refine any_take (i := 0) hf rfl (by kernel_rfl) (by kernel_rfl) (by kernel_rfl) (fun _ _ _ h => h) (Wn.none rfl) (rd_move hf rfl rfl) hT rfl rfl ?_
                            clear hf; intro a hf
                            refine any_take (i := 2) hf rfl (by kernel_rfl) (by kernel_rfl) (by kernel_rfl) (fun _ _ _ h => h) (Wn.none rfl) (rd_move hf rfl rfl) hT rfl rfl ?_
                            clear hf; intro a hf
                            refine any_take (i := 3) hf rfl (by kernel_rfl) (by kernel_rfl) (by kernel_rfl) (fun _ _ _ h => h) (Wn.none rfl) (rd_nilCheck hf rfl rfl) hT rfl rfl ?_
                            clear hf; intro a hf
                            refine any_take (i := 4) hf rfl (by kernel_rfl) (by kernel_rfl) (by kernel_rfl) (fun _ _ _ h => h) (Wn.none rfl) (rd_fieldAddrB hf rfl rfl fb55_0 rfl) hT rfl rfl ?_
                            clear hf; intro a hf
                            refine any_take (i := 5) hf rfl (by kernel_rfl) (by kernel_rfl) (by kernel_rfl) (fun _ _ _ h => h) (Wn.none rfl) (rd_load1 hf rfl rfl ag29 (by intro _ h; first | exact h.cell (by repeat (first | exact Sel.head | apply Sel.tail)) (by rfl))) hT rfl rfl ?_
                            clear hf; intro a hf
                            refine any_take (i := 6) hf rfl (by kernel_rfl) (by kernel_rfl) (by kernel_rfl) (fun _ _ _ h => h) (Wn.none rfl) (rd_len hf rfl rfl Try.underlying29) hT rfl rfl ?_
                            clear hf; intro a hf
                            refine any_one (i := 1) rfl (by kernel_rfl) (st_call hf (Wn.none rfl) rfl rfl rfl fn23 (RWLeft_c _ _ (hS.sel (by repeat (first | exact Sel.head | apply Sel.tail)))) rfl rfl ?_)
                            clear hf hS; rintro v a w ⟨rfl, hS⟩ hf
                            replace hT := hS.sub' hT (by repeat (first | exact Sub.refl | exact Sub.none | (apply Sub.cons; (focus ((repeat (first | exact Sel.head | apply Sel.tail)); done))) | apply Sub.skip))
                            refine ⟨hT, ?_⟩
                            refine any_takeB (i := 7) hf rfl (by kernel_rfl) (by kernel_rfl) (by kernel_rfl) (fun _ _ _ _ h => h) (Wn.none rfl) (rd_neq hf rfl rfl rfl) hT rfl rfl ?_ ?_
                            · clear hf; intro hc13 a hf
                              first
                              | (first | exact absurd rfl hc13; done)
                              | (
                                refine any_take (i := 8) hf rfl (by kernel_rfl) (by kernel_rfl) (by kernel_rfl) (fun _ _ _ h => h) (Wn.none rfl) (rd_move hf rfl rfl) hT rfl rfl ?_
                                clear hf; intro a hf
                                refine any_skip (i := 9) hf rfl (by kernel_rfl) (by kernel_rfl) (by kernel_rfl) (fun _ _ _ h => h) (Wn.some hf rfl rfl rfl rfl) hT rfl rfl ?_
                                clear hf; intro a hf
                                refine any_skip (i := 10) hf rfl (by kernel_rfl) (by kernel_rfl) (by kernel_rfl) (fun _ _ _ h => h) (Wn.some hf rfl rfl rfl rfl) hT rfl rfl ?_
                                clear hf; intro a hf
                                refine any_skip (i := 11) hf rfl (by kernel_rfl) (by kernel_rfl) (by kernel_rfl) (fun _ _ _ h => h) (Wn.some hf rfl rfl rfl rfl) hT rfl rfl ?_
                                clear hf; intro a hf
                                refine any_skip (i := 12) hf rfl (by kernel_rfl) (by kernel_rfl) (by kernel_rfl) (fun _ _ _ h => h) (Wn.some hf rfl rfl rfl rfl) hT rfl rfl ?_
                                clear hf; intro a hf
                                refine any_skip (i := 13) hf rfl (by kernel_rfl) (by kernel_rfl) (by kernel_rfl) (fun _ _ _ h => h) (Wn.some hf rfl rfl rfl rfl) hT rfl rfl ?_
                                clear hf; intro a hf
                                refine any_take (i := 14) hf rfl (by kernel_rfl) (by kernel_rfl) (by kernel_rfl) (fun _ _ _ h => h) (Wn.none rfl) (rd_pick_t hf rfl rfl rfl) hT rfl rfl ?_
                                clear hf; intro a hf
                                refine any_done (by kernel_rfl) ?_
                                refine t_normal ?_
                                refine c_true hf rfl ?_
                                refine c_seq ?_
                                refine c_region ?_
                                refine step_l (st_rd hf (Wn.none rfl) (rd_assign hf rfl rfl) hS rfl rfl ?_)
                                clear hf; intro a hf
                                refine done_l ?_
                                refine t_normal ?_
                                refine c_ret ?_
                                refine b_ret ?_
                                refine t_ret ?_
                                refine t_ret ?_
                                refine b_ret ?_
                                refine t_ret ?_
                                refine e_res1 hf.defers rfl (res_tmp hf rfl .nil) ?_
                                exact ⟨rfl, hS.sub (by repeat (first | exact Sub.refl | exact Sub.none | (apply Sub.cons; (focus ((repeat (first | exact Sel.head | apply Sel.tail)); done))) | apply Sub.skip))⟩
                                )
                            · clear hf; intro hc13 a hf
                              first
                              | (first | exact absurd rfl hc13; done)
                              | (
                                refine any_take (i := 8) hf rfl (by kernel_rfl) (by kernel_rfl) (by kernel_rfl) (fun _ _ _ h => h) (Wn.none rfl) (rd_move hf rfl rfl) hT rfl rfl ?_
                                clear hf; intro a hf
                                refine any_take (i := 9) hf rfl (by kernel_rfl) (by kernel_rfl) (by kernel_rfl) (fun _ _ _ h => h) (Wn.some hf rfl rfl rfl rfl) (rd_move hf rfl rfl) hT rfl rfl ?_
                                clear hf; intro a hf
                                refine any_take (i := 11) hf rfl (by kernel_rfl) (by kernel_rfl) (by kernel_rfl) (fun _ _ _ h => h) (Wn.some hf rfl rfl rfl rfl) (rd_move hf rfl rfl) hT rfl rfl ?_
                                clear hf; intro a hf
                                refine any_one (i := 10) rfl (by kernel_rfl) (st_call hf (Wn.some hf rfl rfl rfl rfl) rfl rfl rfl fn25 (RWEnd_c _ _ (hS.sel (by repeat (first | exact Sel.head | apply Sel.tail)))) rfl rfl ?_)
                                clear hf hS; rintro v a w ⟨rfl, hS⟩ hf
                                replace hT := hS.sub' hT (by repeat (first | exact Sub.refl | exact Sub.none | (apply Sub.cons; (focus ((repeat (first | exact Sel.head | apply Sel.tail)); done))) | apply Sub.skip))
                                refine ⟨hT, ?_⟩
                                refine any_one (i := 12) rfl (by kernel_rfl) (st_call hf (Wn.some hf rfl rfl rfl rfl) rfl rfl rfl fn33 (RVEnd2_c _ _ _ _ _ (hS.sel (by repeat (first | exact Sel.head | apply Sel.tail)))) rfl rfl ?_)
                                clear hf hS; rintro v a w ⟨rfl, hS⟩ hf
                                replace hT := hS.sub' hT (by repeat (first | exact Sub.refl | exact Sub.none | (apply Sub.cons; (focus ((repeat (first | exact Sel.head | apply Sel.tail)); done))) | apply Sub.skip))
                                refine ⟨hT, ?_⟩
                                refine any_takeB (i := 13) hf rfl (by kernel_rfl) (by kernel_rfl) (by kernel_rfl) (fun _ _ _ _ h => h) (Wn.some hf rfl rfl rfl rfl) (rd_neq hf rfl rfl rfl) hT rfl rfl ?_ ?_
                                · clear hf; intro hc14 a hf
                                  first
                                  | (first | exact absurd rfl hc14; done)
                                  | (
                                    refine any_take (i := 14) hf rfl (by kernel_rfl) (by kernel_rfl) (by kernel_rfl) (fun _ _ _ h => h) (Wn.none rfl) (rd_pick_f hf rfl rfl rfl) hT rfl rfl ?_
                                    clear hf; intro a hf
                                    refine any_done (by kernel_rfl) ?_
                                    refine t_normal ?_
                                    refine c_true hf rfl ?_
                                    refine c_seq ?_
                                    refine c_region ?_
                                    refine step_l (st_rd hf (Wn.none rfl) (rd_assign hf rfl rfl) hS rfl rfl ?_)
                                    clear hf; intro a hf
                                    refine done_l ?_
                                    refine t_normal ?_
                                    refine c_ret ?_
                                    refine b_ret ?_
                                    refine t_ret ?_
                                    refine t_ret ?_
                                    refine b_ret ?_
                                    refine t_ret ?_
                                    refine e_res1 hf.defers rfl (res_tmp hf rfl .nil) ?_
                                    exact ⟨rfl, hS.sub (by repeat (first | exact Sub.refl | exact Sub.none | (apply Sub.cons; (focus ((repeat (first | exact Sel.head | apply Sel.tail)); done))) | apply Sub.skip))⟩
                                    )
                                · clear hf; intro hc14 a hf
                                  first
                                  | (first | exact absurd rfl hc14; done)
                                  | (
                                    refine any_take (i := 14) hf rfl (by kernel_rfl) (by kernel_rfl) (by kernel_rfl) (fun _ _ _ h => h) (Wn.none rfl) (rd_pick_f hf rfl rfl rfl) hT rfl rfl ?_
                                    clear hf; intro a hf
                                    refine any_done (by kernel_rfl) ?_
                                    refine t_normal ?_
                                    refine c_false hf rfl ?_
                                    refine c_skip ?_
                                    refine b_normal ?_
                                    refine t_normal ?_
                                    refine c_region ?_
                                    refine step_l (st_rd hf (Wn.none rfl) (rd_move hf rfl rfl) hS rfl rfl ?_)
                                    clear hf; intro a hf
                                    refine step_l (st_rd hf (Wn.none rfl) (rd_add hf rfl rfl rfl (by first | exact Go.IntWalk.i64_in _ (by omega) | exact rfl)) hS rfl rfl ?_)
                                    clear hf; intro a hf
                                    refine step_l (st_rd hf (Wn.none rfl) (rd_assign hf rfl rfl) hS rfl rfl ?_)
                                    clear hf; intro a hf
                                    refine done_l ?_
                                    refine t_normal ⟨(i + 1, t), ⟨((((hf.k0.kb hf 7 rfl (by first | rfl | exact int_eq (by omega))).kb hf 6 rfl (by rfl)).kb hf 5 rfl (by rfl)).kb hf 1 rfl (by rfl)), (rd_shut (s := t) (hS.sub (.cons (by repeat (first | exact Sel.head | apply Sel.tail)) (.cons (by repeat (first | exact Sel.head | apply Sel.tail)) .refl)) : Sat W (Blk b_2 [.slice q2 t.1.length cap2, .int .i64 t.2] 55 :: Vw q2 t.1.length 1 (bvs t.1) :: _) _) rfl rfl rfl hcap2).sub (by repeat (first | exact Sub.refl | exact Sub.none | (apply Sub.cons; (focus ((repeat (first | exact Sel.head | apply Sel.tail)); done))) | apply Sub.skip)), ⟨by omega, by omega⟩⟩, by first | omega | (simp only []; omega)⟩
                                    )
                                )
                            )
                        )
                    · clear hf; intro hc11 a hf
                      first
                      | (first | exact absurd rfl hc11; done)
                      | (
                        refine step_l (st_rd hf (Wn.none rfl) (rd_assign hf rfl rfl) hS rfl rfl ?_)
                        clear hf; intro a hf
                        refine done_l ?_
                        refine t_normal ?_
                        refine c_false hf rfl ?_
                        refine c_seq ?_
                        refine c_region ?_
                        refine step_l (st_rdB hf (Wn.none rfl) (rd_eql hf rfl rfl rfl) hS rfl rfl ?_ ?_)
                        · clear hf; intro hc15 a hf
                          first
                          | (first | exact absurd rfl hc15; done)
                          | (
                            refine step_l (st_rd hf (Wn.none rfl) (rd_assign hf rfl rfl) hS rfl rfl ?_)
                            clear hf; intro a hf
                            refine done_l ?_
                            refine t_normal ?_
                            refine c_true hf rfl ?_
                            refine c_seq ?_
                            refine c_region ?_
                            refine step_l (st_rd hf (Wn.none rfl) (rd_move hf rfl rfl) hS rfl rfl ?_)
                            clear hf; intro a hf
                            refine step_l (st_call hf (Wn.none rfl) rfl rfl rfl fn28 (RWFlag_c _ _ (hS.sel (by repeat (first | exact Sel.head | apply Sel.tail)))) rfl rfl ?_)
                            clear hf hS; rintro v a w ⟨rfl, hS⟩ hf
                            refine step_l (st_rd hf (Wn.none rfl) (rd_move hf rfl rfl) hS rfl rfl ?_)
                            clear hf; intro a hf
                            refine step_l (st_call hf (Wn.none rfl) rfl rfl rfl fn29 (RVFlag_c _ _ (hS.sel (by repeat (first | exact Sel.head | apply Sel.tail)))) rfl rfl ?_)
                            clear hf hS; rintro v a w ⟨rfl, hS⟩ hf; have ht : (rFlag s).2.1.length ≤ s.1.length := rFlag_rest s; generalize (rFlag s).2 = t at hS ht
                            refine step_l (st_rdB hf (Wn.none rfl) (rd_neqBool hf rfl rfl rfl Try.underlying4) hS rfl rfl ?_ ?_)
                            · clear hf; intro hc16 a hf
                              first
                              | (first | exact absurd rfl hc16; done)
                              | (
                                refine done_l ?_
                                refine t_normal ?_
                                refine c_true hf rfl ?_
                                refine c_seq ?_
                                refine c_region ?_
                                refine step_l (st_rd hf (Wn.none rfl) (rd_assign hf rfl rfl) hS rfl rfl ?_)
                                clear hf; intro a hf
                                refine done_l ?_
                                refine t_normal ?_
                                refine c_ret ?_
                                refine b_ret ?_
                                refine t_ret ?_
                                refine b_ret ?_
                                refine t_ret ?_
                                refine t_ret ?_
                                refine b_ret ?_
                                refine t_ret ?_
                                refine e_res1 hf.defers rfl (res_tmp hf rfl .nil) ?_
                                exact ⟨rfl, hS.sub (by repeat (first | exact Sub.refl | exact Sub.none | (apply Sub.cons; (focus ((repeat (first | exact Sel.head | apply Sel.tail)); done))) | apply Sub.skip))⟩
                                )
                            · clear hf; intro hc16 a hf
                              first
                              | (first | exact absurd rfl hc16; done)
                              | (
                                refine done_l ?_
                                refine t_normal ?_
                                refine c_false hf rfl ?_
                                refine c_skip ?_
                                refine b_normal ?_
                                refine t_normal ?_
                                refine c_seq ?_
                                obtain ⟨q2, cap2, hcap2, hS⟩ := rd_open (T := 55) (hS.sel (by repeat (first | exact Sel.head | apply Sel.tail)))
                                refine any_begin (S := Sat W (Blk b_2 [.slice q2 t.1.length cap2, .int .i64 t.2] 55 :: R)) mixed (hS.drew.sub (by repeat (first | exact Sub.refl | exact Sub.none | (apply Sub.cons; (focus ((repeat (first | exact Sel.head | apply Sel.tail)); done))) | apply Sub.skip))) ?_
                                have hT : Sat W (Blk b_2 [.slice q2 t.1.length cap2, .int .i64 t.2] 55 :: R) _ := hS.drew.sub (by repeat (first | exact Sub.refl | exact Sub.none | (apply Sub.cons; (focus ((repeat (first | exact Sel.head | apply Sel.tail)); done))) | apply Sub.skip))
                                replace hS := hS.drew
                                refine any_take (i := 0) hf rfl (by kernel_rfl) (by kernel_rfl) (by kernel_rfl) (fun _ _ _ h => h) (Wn.none rfl) (rd_move hf rfl rfl) hT rfl rfl ?_
                                clear hf; intro a hf
                                refine any_take (i := 2) hf rfl (by kernel_rfl) (by kernel_rfl) (by kernel_rfl) (fun _ _ _ h => h) (Wn.none rfl) (rd_move hf rfl rfl) hT rfl rfl ?_
                                clear hf; intro a hf
                                refine any_take (i := 3) hf rfl (by kernel_rfl) (by kernel_rfl) (by kernel_rfl) (fun _ _ _ h => h) (Wn.none rfl) (rd_nilCheck hf rfl rfl) hT rfl rfl ?_
                                clear hf; intro a hf
                                refine any_take (i := 4) hf rfl (by kernel_rfl) (by kernel_rfl) (by kernel_rfl) (fun _ _ _ h => h) (Wn.none rfl) (rd_fieldAddrB hf rfl rfl fb55_0 rfl) hT rfl rfl ?_
                                clear hf; intro a hf
                                refine any_take (i := 5) hf rfl (by kernel_rfl) (by kernel_rfl) (by kernel_rfl) (fun _ _ _ h => h) (Wn.none rfl) (rd_load1 hf rfl rfl ag29 (by intro _ h; first | exact h.cell (by repeat (first | exact Sel.head | apply Sel.tail)) (by rfl))) hT rfl rfl ?_
                                clear hf; intro a hf
                                refine any_take (i := 6) hf rfl (by kernel_rfl) (by kernel_rfl) (by kernel_rfl) (fun _ _ _ h => h) (Wn.none rfl) (rd_len hf rfl rfl Try.underlying29) hT rfl rfl ?_
                                clear hf; intro a hf
                                refine any_one (i := 1) rfl (by kernel_rfl) (st_call hf (Wn.none rfl) rfl rfl rfl fn23 (RWLeft_c _ _ (hS.sel (by repeat (first | exact Sel.head | apply Sel.tail)))) rfl rfl ?_)
                                clear hf hS; rintro v a w ⟨rfl, hS⟩ hf
                                replace hT := hS.sub' hT (by repeat (first | exact Sub.refl | exact Sub.none | (apply Sub.cons; (focus ((repeat (first | exact Sel.head | apply Sel.tail)); done))) | apply Sub.skip))
                                refine ⟨hT, ?_⟩
                                refine any_takeB (i := 7) hf rfl (by kernel_rfl) (by kernel_rfl) (by kernel_rfl) (fun _ _ _ _ h => h) (Wn.none rfl) (rd_neq hf rfl rfl rfl) hT rfl rfl ?_ ?_
                                · clear hf; intro hc17 a hf
                                  first
                                  | (first | exact absurd rfl hc17; done)
                                  | (
                                    refine any_take (i := 8) hf rfl (by kernel_rfl) (by kernel_rfl) (by kernel_rfl) (fun _ _ _ h => h) (Wn.none rfl) (rd_move hf rfl rfl) hT rfl rfl ?_
                                    clear hf; intro a hf
                                    refine any_skip (i := 9) hf rfl (by kernel_rfl) (by kernel_rfl) (by kernel_rfl) (fun _ _ _ h => h) (Wn.some hf rfl rfl rfl rfl) hT rfl rfl ?_
                                    clear hf; intro a hf
                                    refine any_skip (i := 10) hf rfl (by kernel_rfl) (by kernel_rfl) (by kernel_rfl) (fun _ _ _ h => h) (Wn.some hf rfl rfl rfl rfl) hT rfl rfl ?_
                                    clear hf; intro a hf
                                    refine any_skip (i := 11) hf rfl (by kernel_rfl) (by kernel_rfl) (by kernel_rfl) (fun _ _ _ h => h) (Wn.some hf rfl rfl rfl rfl) hT rfl rfl ?_
                                    clear hf; intro a hf
                                    refine any_skip (i := 12) hf rfl (by kernel_rfl) (by kernel_rfl) (by kernel_rfl) (fun _ _ _ h => h) (Wn.some hf rfl rfl rfl rfl) hT rfl rfl ?_
                                    clear hf; intro a hf
                                    refine any_skip (i := 13) hf rfl (by kernel_rfl) (by kernel_rfl) (by kernel_rfl) (fun _ _ _ h => h) (Wn.some hf rfl rfl rfl rfl) hT rfl rfl ?_
                                    clear hf; intro a hf
                                    refine any_take (i := 14) hf rfl (by kernel_rfl) (by kernel_rfl) (by kernel_rfl) (fun _ _ _ h => h) (Wn.none rfl) (rd_pick_t hf rfl rfl rfl) hT rfl rfl ?_
                                    clear hf; intro a hf
                                    refine any_done (by kernel_rfl) ?_
                                    refine t_normal ?_
                                    refine c_true hf rfl ?_
                                    refine c_seq ?_
                                    refine c_region ?_
                                    refine step_l (st_rd hf (Wn.none rfl) (rd_assign hf rfl rfl) hS rfl rfl ?_)
                                    clear hf; intro a hf
                                    refine done_l ?_
                                    refine t_normal ?_
                                    refine c_ret ?_
                                    refine b_ret ?_
                                    refine t_ret ?_
                                    refine t_ret ?_
                                    refine b_ret ?_
                                    refine t_ret ?_
                                    refine e_res1 hf.defers rfl (res_tmp hf rfl .nil) ?_
                                    exact ⟨rfl, hS.sub (by repeat (first | exact Sub.refl | exact Sub.none | (apply Sub.cons; (focus ((repeat (first | exact Sel.head | apply Sel.tail)); done))) | apply Sub.skip))⟩
                                    )
                                · clear hf; intro hc17 a hf
                                  first
                                  | (first | exact absurd rfl hc17; done)
                                  | (
                                    refine any_take (i := 8) hf rfl (by kernel_rfl) (by kernel_rfl) (by kernel_rfl) (fun _ _ _ h => h) (Wn.none rfl) (rd_move hf rfl rfl) hT rfl rfl ?_
                                    clear hf; intro a hf
                                    refine any_take (i := 9) hf rfl (by kernel_rfl) (by kernel_rfl) (by kernel_rfl) (fun _ _ _ h => h) (Wn.some hf rfl rfl rfl rfl) (rd_move hf rfl rfl) hT rfl rfl ?_
                                    clear hf; intro a hf
                                    refine any_take (i := 11) hf rfl (by kernel_rfl) (by kernel_rfl) (by kernel_rfl) (fun _ _ _ h => h) (Wn.some hf rfl rfl rfl rfl) (rd_move hf rfl rfl) hT rfl rfl ?_
                                    clear hf; intro a hf
                                    refine any_one (i := 10) rfl (by kernel_rfl) (st_call hf (Wn.some hf rfl rfl rfl rfl) rfl rfl rfl fn25 (RWEnd_c _ _ (hS.sel (by repeat (first | exact Sel.head | apply Sel.tail)))) rfl rfl ?_)
                                    clear hf hS; rintro v a w ⟨rfl, hS⟩ hf
                                    replace hT := hS.sub' hT (by repeat (first | exact Sub.refl | exact Sub.none | (apply Sub.cons; (focus ((repeat (first | exact Sel.head | apply Sel.tail)); done))) | apply Sub.skip))
                                    refine ⟨hT, ?_⟩
                                    refine any_one (i := 12) rfl (by kernel_rfl) (st_call hf (Wn.some hf rfl rfl rfl rfl) rfl rfl rfl fn33 (RVEnd2_c _ _ _ _ _ (hS.sel (by repeat (first | exact Sel.head | apply Sel.tail)))) rfl rfl ?_)
                                    clear hf hS; rintro v a w ⟨rfl, hS⟩ hf
                                    replace hT := hS.sub' hT (by repeat (first | exact Sub.refl | exact Sub.none | (apply Sub.cons; (focus ((repeat (first | exact Sel.head | apply Sel.tail)); done))) | apply Sub.skip))
                                    refine ⟨hT, ?_⟩
                                    refine any_takeB (i := 13) hf rfl (by kernel_rfl) (by kernel_rfl) (by kernel_rfl) (fun _ _ _ _ h => h) (Wn.some hf rfl rfl rfl rfl) (rd_neq hf rfl rfl rfl) hT rfl rfl ?_ ?_
                                    · clear hf; intro hc18 a hf
                                      first
                                      | (first | exact absurd rfl hc18; done)
                                      | (
                                        refine any_take (i := 14) hf rfl (by kernel_rfl) (by kernel_rfl) (by kernel_rfl) (fun _ _ _ h => h) (Wn.none rfl) (rd_pick_f hf rfl rfl rfl) hT rfl rfl ?_
                                        clear hf; intro a hf
                                        refine any_done (by kernel_rfl) ?_
                                        refine t_normal ?_
                                        refine c_true hf rfl ?_
                                        refine c_seq ?_
                                        refine c_region ?_
                                        refine step_l (st_rd hf (Wn.none rfl) (rd_assign hf rfl rfl) hS rfl rfl ?_)
                                        clear hf; intro a hf
                                        refine done_l ?_
                                        refine t_normal ?_
                                        refine c_ret ?_
                                        refine b_ret ?_
                                        refine t_ret ?_
                                        refine t_ret ?_
                                        refine b_ret ?_
                                        refine t_ret ?_
                                        refine e_res1 hf.defers rfl (res_tmp hf rfl .nil) ?_
                                        exact ⟨rfl, hS.sub (by repeat (first | exact Sub.refl | exact Sub.none | (apply Sub.cons; (focus ((repeat (first | exact Sel.head | apply Sel.tail)); done))) | apply Sub.skip))⟩
                                        )
                                    · clear hf; intro hc18 a hf
                                      first
                                      | (first | exact absurd rfl hc18; done)
                                      | (
                                        refine any_take (i := 14) hf rfl (by kernel_rfl) (by kernel_rfl) (by kernel_rfl) (fun _ _ _ h => h) (Wn.none rfl) (rd_pick_f hf rfl rfl rfl) hT rfl rfl ?_
                                        clear hf; intro a hf
                                        refine any_done (by kernel_rfl) ?_
                                        refine t_normal ?_
                                        refine c_false hf rfl ?_
                                        refine c_skip ?_
                                        refine b_normal ?_
                                        refine t_normal ?_
                                        refine c_region ?_
                                        refine step_l (st_rd hf (Wn.none rfl) (rd_move hf rfl rfl) hS rfl rfl ?_)
                                        clear hf; intro a hf
                                        refine step_l (st_rd hf (Wn.none rfl) (rd_add hf rfl rfl rfl (by first | exact Go.IntWalk.i64_in _ (by omega) | exact rfl)) hS rfl rfl ?_)
                                        clear hf; intro a hf
                                        refine step_l (st_rd hf (Wn.none rfl) (rd_assign hf rfl rfl) hS rfl rfl ?_)
                                        clear hf; intro a hf
                                        refine done_l ?_
                                        refine t_normal ⟨(i + 1, t), ⟨((((hf.k0.kb hf 7 rfl (by first | rfl | exact int_eq (by omega))).kb hf 6 rfl (by rfl)).kb hf 5 rfl (by rfl)).kb hf 1 rfl (by rfl)), (rd_shut (s := t) (hS.sub (.cons (by repeat (first | exact Sel.head | apply Sel.tail)) (.cons (by repeat (first | exact Sel.head | apply Sel.tail)) .refl)) : Sat W (Blk b_2 [.slice q2 t.1.length cap2, .int .i64 t.2] 55 :: Vw q2 t.1.length 1 (bvs t.1) :: _) _) rfl rfl rfl hcap2).sub (by repeat (first | exact Sub.refl | exact Sub.none | (apply Sub.cons; (focus ((repeat (first | exact Sel.head | apply Sel.tail)); done))) | apply Sub.skip)), ⟨by omega, by omega⟩⟩, by first | omega | (simp only []; omega)⟩
                                        )
                                    )
                                )
                            )
                        · clear hf; intro hc15 a hf
                          first
                          | (first | exact absurd rfl hc15; done)
                          | (
                            refine step_l (st_rd hf (Wn.none rfl) (rd_assign hf rfl rfl) hS rfl rfl ?_)
                            clear hf; intro a hf
                            refine done_l ?_
                            refine t_normal ?_
                            refine c_false hf rfl ?_
                            refine c_seq ?_
                            refine c_region ?_
                            refine step_l (st_rdB hf (Wn.none rfl) (rd_eql hf rfl rfl rfl) hS rfl rfl ?_ ?_)
                            · clear hf; intro hc19 a hf
                              first
                              | (first | exact absurd rfl hc19; done)
                              | (
                                refine step_l (st_rd hf (Wn.none rfl) (rd_assign hf rfl rfl) hS rfl rfl ?_)
                                clear hf; intro a hf
                                refine done_l ?_
                                refine t_normal ?_
                                refine c_true hf rfl ?_
                                refine c_seq ?_
                                refine any_begin (S := Sat W (Blk b_c (callC x) 43 :: R)) mixed (hS.drew.sub (by repeat (first | exact Sub.refl | exact Sub.none | (apply Sub.cons; (focus ((repeat (first | exact Sel.head | apply Sel.tail)); done))) | apply Sub.skip))) ?_
                                have hT : Sat W (Blk b_c (callC x) 43 :: R) _ := hS.drew.sub (by repeat (first | exact Sub.refl | exact Sub.none | (apply Sub.cons; (focus ((repeat (first | exact Sel.head | apply Sel.tail)); done))) | apply Sub.skip))
                                replace hS := hS.drew
                                refine any_take (i := 0) hf rfl (by kernel_rfl) (by kernel_rfl) (by kernel_rfl) (fun _ _ _ h => h) (Wn.none rfl) (rd_move hf rfl rfl) hT rfl rfl ?_
                                clear hf; intro a hf
                                refine any_take (i := 1) hf rfl (by kernel_rfl) (by kernel_rfl) (by kernel_rfl) (fun _ _ _ h => h) (Wn.none rfl) (rd_fieldAddrB hf rfl rfl fb43_5 rfl) hT rfl rfl ?_
                                clear hf; intro a hf
                                refine any_take (i := 2) hf rfl (by kernel_rfl) (by kernel_rfl) (by kernel_rfl) (fun _ _ _ h => h) (Wn.none rfl) (rd_load1 hf rfl rfl ag3 (by intro _ h; first | exact h.cell (by repeat (first | exact Sel.head | apply Sel.tail)) (by rfl))) hT rfl rfl ?_
                                clear hf; intro a hf
                                refine any_take (i := 5) hf rfl (by kernel_rfl) (by kernel_rfl) (by kernel_rfl) (fun _ _ _ h => h) (Wn.none rfl) (rd_move hf rfl rfl) hT rfl rfl ?_
                                clear hf; intro a hf
                                refine any_take (i := 6) hf rfl (by kernel_rfl) (by kernel_rfl) (by kernel_rfl) (fun _ _ _ h => h) (Wn.none rfl) (rd_fieldAddrB hf rfl rfl fb43_5 rfl) hT rfl rfl ?_
                                clear hf; intro a hf
                                refine any_take (i := 7) hf rfl (by kernel_rfl) (by kernel_rfl) (by kernel_rfl) (fun _ _ _ h => h) (Wn.none rfl) (rd_load1 hf rfl rfl ag3 (by intro _ h; first | exact h.cell (by repeat (first | exact Sel.head | apply Sel.tail)) (by rfl))) hT rfl rfl ?_
                                clear hf; intro a hf
                                refine any_one (i := 3) rfl (by kernel_rfl) (st_call hf (Wn.none rfl) rfl rfl rfl fn22 (RWText_c _ _ _ (hS.sel (by repeat (first | exact Sel.head | apply Sel.tail))) (by assumption) (by omega)) rfl rfl ?_)
                                clear hf hS; rintro v a w ⟨qt_20, capt_20, rfl, hS⟩ hf
                                replace hT := hS.sub' hT (by repeat (first | exact Sub.refl | exact Sub.none | (apply Sub.cons; (focus ((repeat (first | exact Sel.head | apply Sel.tail)); done))) | apply Sub.skip))
                                refine ⟨hT, ?_⟩
                                refine any_two (i := 4) (j := 8) rfl rfl (by kernel_rfl) ?_ ?_
                                · skip
                                  refine st_rd hf (Wn.none rfl) (rd_str hf rfl rfl Try.underlying29 Try.underlying9 Try.underlying5 (by intro _ h; first | exact h.slOfRw (by repeat (first | exact Sel.head | apply Sel.tail)) | exact h.slOfBlkPre (by repeat (first | exact Sel.head | apply Sel.tail)) (bvs_len1 _))) hS rfl rfl ?_
                                  clear hf; intro a hf
                                  refine ⟨hT, ?_⟩
                                  refine any_one (i := 8) rfl (by kernel_rfl) (st_call hf (Wn.none rfl) rfl rfl rfl fn30 (RVText_c _ _ _ (hS.sel (by repeat (first | exact Sel.head | apply Sel.tail))) (by assumption) (by omega)) rfl rfl ?_)
                                  clear hf hS; rintro v a w ⟨qt_21, capt_21, rfl, hS⟩ hf; have ht : (rText x.2.2.2.2.2.1 s).2.1.length ≤ s.1.length := rText_rest _ s; generalize (rText x.2.2.2.2.2.1 s).2 = t at hS ht
                                  replace hT := hS.sub' hT (by repeat (first | exact Sub.refl | exact Sub.none | (apply Sub.cons; (focus ((repeat (first | exact Sel.head | apply Sel.tail)); done))) | apply Sub.skip))
                                  refine ⟨hT, ?_⟩
                                  refine any_one (i := 9) rfl (by kernel_rfl) (st_rd hf (Wn.none rfl) (rd_str hf rfl rfl Try.underlying29 Try.underlying9 Try.underlying5 (by intro _ h; first | exact h.slOfRw (by repeat (first | exact Sel.head | apply Sel.tail)) | exact h.slOfBlkPre (by repeat (first | exact Sel.head | apply Sel.tail)) (bvs_len1 _))) hS rfl rfl ?_)
                                  clear hf; intro a hf
                                  refine ⟨hT, ?_⟩
                                  refine any_takeB (i := 10) hf rfl (by kernel_rfl) (by kernel_rfl) (by kernel_rfl) (fun _ _ _ _ h => h) (Wn.none rfl) (rd_neqS hf rfl rfl rfl) hT rfl rfl ?_ ?_
                                  · clear hf; intro hc22 a hf
                                    first
                                    | (first | exact absurd rfl hc22; done)
                                    | (
                                      refine any_done (by kernel_rfl) ?_
                                      refine t_normal ?_
                                      refine c_true hf rfl ?_
                                      refine c_seq ?_
                                      refine c_region ?_
                                      refine step_l (st_rd hf (Wn.none rfl) (rd_assign hf rfl rfl) hS rfl rfl ?_)
                                      clear hf; intro a hf
                                      refine done_l ?_
                                      refine t_normal ?_
                                      refine c_ret ?_
                                      refine b_ret ?_
                                      refine t_ret ?_
                                      refine b_ret ?_
                                      refine t_ret ?_
                                      refine t_ret ?_
                                      refine b_ret ?_
                                      refine t_ret ?_
                                      refine e_res1 hf.defers rfl (res_tmp hf rfl .nil) ?_
                                      exact ⟨rfl, hS.sub (by repeat (first | exact Sub.refl | exact Sub.none | (apply Sub.cons; (focus ((repeat (first | exact Sel.head | apply Sel.tail)); done))) | apply Sub.skip))⟩
                                      )
                                  · clear hf; intro hc22 a hf
                                    first
                                    | (first | exact absurd rfl hc22; done)
                                    | (
                                      refine any_done (by kernel_rfl) ?_
                                      refine t_normal ?_
                                      refine c_false hf rfl ?_
                                      refine c_skip ?_
                                      refine b_normal ?_
                                      refine t_normal ?_
                                      refine c_seq ?_
                                      obtain ⟨q2, cap2, hcap2, hS⟩ := rd_open (T := 55) (hS.sel (by repeat (first | exact Sel.head | apply Sel.tail)))
                                      refine any_begin (S := Sat W (Blk b_2 [.slice q2 t.1.length cap2, .int .i64 t.2] 55 :: R)) mixed (hS.drew.sub (by repeat (first | exact Sub.refl | exact Sub.none | (apply Sub.cons; (focus ((repeat (first | exact Sel.head | apply Sel.tail)); done))) | apply Sub.skip))) ?_
                                      have hT : Sat W (Blk b_2 [.slice q2 t.1.length cap2, .int .i64 t.2] 55 :: R) _ := hS.drew.sub (by repeat (first | exact Sub.refl | exact Sub.none | (apply Sub.cons; (focus ((repeat (first | exact Sel.head | apply Sel.tail)); done))) | apply Sub.skip))
                                      replace hS := hS.drew
                                      refine any_take (i := 0) hf rfl (by kernel_rfl) (by kernel_rfl) (by kernel_rfl) (fun _ _ _ h => h) (Wn.none rfl) (rd_move hf rfl rfl) hT rfl rfl ?_
                                      clear hf; intro a hf
                                      refine any_take (i := 2) hf rfl (by kernel_rfl) (by kernel_rfl) (by kernel_rfl) (fun _ _ _ h => h) (Wn.none rfl) (rd_move hf rfl rfl) hT rfl rfl ?_
                                      clear hf; intro a hf
                                      refine any_take (i := 3) hf rfl (by kernel_rfl) (by kernel_rfl) (by kernel_rfl) (fun _ _ _ h => h) (Wn.none rfl) (rd_nilCheck hf rfl rfl) hT rfl rfl ?_
                                      clear hf; intro a hf
                                      refine any_take (i := 4) hf rfl (by kernel_rfl) (by kernel_rfl) (by kernel_rfl) (fun _ _ _ h => h) (Wn.none rfl) (rd_fieldAddrB hf rfl rfl fb55_0 rfl) hT rfl rfl ?_
                                      clear hf; intro a hf
                                      refine any_take (i := 5) hf rfl (by kernel_rfl) (by kernel_rfl) (by kernel_rfl) (fun _ _ _ h => h) (Wn.none rfl) (rd_load1 hf rfl rfl ag29 (by intro _ h; first | exact h.cell (by repeat (first | exact Sel.head | apply Sel.tail)) (by rfl))) hT rfl rfl ?_
                                      clear hf; intro a hf
                                      refine any_take (i := 6) hf rfl (by kernel_rfl) (by kernel_rfl) (by kernel_rfl) (fun _ _ _ h => h) (Wn.none rfl) (rd_len hf rfl rfl Try.underlying29) hT rfl rfl ?_
                                      clear hf; intro a hf
                                      refine any_one (i := 1) rfl (by kernel_rfl) (st_call hf (Wn.none rfl) rfl rfl rfl fn23 (RWLeft_c _ _ (hS.sel (by repeat (first | exact Sel.head | apply Sel.tail)))) rfl rfl ?_)
                                      clear hf hS; rintro v a w ⟨rfl, hS⟩ hf
                                      replace hT := hS.sub' hT (by repeat (first | exact Sub.refl | exact Sub.none | (apply Sub.cons; (focus ((repeat (first | exact Sel.head | apply Sel.tail)); done))) | apply Sub.skip))
                                      refine ⟨hT, ?_⟩
                                      refine any_takeB (i := 7) hf rfl (by kernel_rfl) (by kernel_rfl) (by kernel_rfl) (fun _ _ _ _ h => h) (Wn.none rfl) (rd_neq hf rfl rfl rfl) hT rfl rfl ?_ ?_
                                      · clear hf; intro hc23 a hf
                                        first
                                        | (first | exact absurd rfl hc23; done)
                                        | (
                                          refine any_take (i := 8) hf rfl (by kernel_rfl) (by kernel_rfl) (by kernel_rfl) (fun _ _ _ h => h) (Wn.none rfl) (rd_move hf rfl rfl) hT rfl rfl ?_
                                          clear hf; intro a hf
                                          refine any_skip (i := 9) hf rfl (by kernel_rfl) (by kernel_rfl) (by kernel_rfl) (fun _ _ _ h => h) (Wn.some hf rfl rfl rfl rfl) hT rfl rfl ?_
                                          clear hf; intro a hf
                                          refine any_skip (i := 10) hf rfl (by kernel_rfl) (by kernel_rfl) (by kernel_rfl) (fun _ _ _ h => h) (Wn.some hf rfl rfl rfl rfl) hT rfl rfl ?_
                                          clear hf; intro a hf
                                          refine any_skip (i := 11) hf rfl (by kernel_rfl) (by kernel_rfl) (by kernel_rfl) (fun _ _ _ h => h) (Wn.some hf rfl rfl rfl rfl) hT rfl rfl ?_
                                          clear hf; intro a hf
                                          refine any_skip (i := 12) hf rfl (by kernel_rfl) (by kernel_rfl) (by kernel_rfl) (fun _ _ _ h => h) (Wn.some hf rfl rfl rfl rfl) hT rfl rfl ?_
                                          clear hf; intro a hf
                                          refine any_skip (i := 13) hf rfl (by kernel_rfl) (by kernel_rfl) (by kernel_rfl) (fun _ _ _ h => h) (Wn.some hf rfl rfl rfl rfl) hT rfl rfl ?_
                                          clear hf; intro a hf
                                          refine any_take (i := 14) hf rfl (by kernel_rfl) (by kernel_rfl) (by kernel_rfl) (fun _ _ _ h => h) (Wn.none rfl) (rd_pick_t hf rfl rfl rfl) hT rfl rfl ?_
                                          clear hf; intro a hf
                                          refine any_done (by kernel_rfl) ?_
                                          refine t_normal ?_
                                          refine c_true hf rfl ?_
                                          refine c_seq ?_
                                          refine c_region ?_
                                          refine step_l (st_rd hf (Wn.none rfl) (rd_assign hf rfl rfl) hS rfl rfl ?_)
                                          clear hf; intro a hf
                                          refine done_l ?_
                                          refine t_normal ?_
                                          refine c_ret ?_
                                          refine b_ret ?_
                                          refine t_ret ?_
                                          refine t_ret ?_
                                          refine b_ret ?_
                                          refine t_ret ?_
                                          refine e_res1 hf.defers rfl (res_tmp hf rfl .nil) ?_
                                          exact ⟨rfl, hS.sub (by repeat (first | exact Sub.refl | exact Sub.none | (apply Sub.cons; (focus ((repeat (first | exact Sel.head | apply Sel.tail)); done))) | apply Sub.skip))⟩
                                          )
                                      · clear hf; intro hc23 a hf
                                        first
                                        | (first | exact absurd rfl hc23; done)
                                        | (
                                          refine any_take (i := 8) hf rfl (by kernel_rfl) (by kernel_rfl) (by kernel_rfl) (fun _ _ _ h => h) (Wn.none rfl) (rd_move hf rfl rfl) hT rfl rfl ?_
                                          clear hf; intro a hf
                                          refine any_take (i := 9) hf rfl (by kernel_rfl) (by kernel_rfl) (by kernel_rfl) (fun _ _ _ h => h) (Wn.some hf rfl rfl rfl rfl) (rd_move hf rfl rfl) hT rfl rfl ?_
                                          clear hf; intro a hf
                                          refine any_take (i := 11) hf rfl (by kernel_rfl) (by kernel_rfl) (by kernel_rfl) (fun _ _ _ h => h) (Wn.some hf rfl rfl rfl rfl) (rd_move hf rfl rfl) hT rfl rfl ?_
                                          clear hf; intro a hf
                                          refine any_one (i := 10) rfl (by kernel_rfl) (st_call hf (Wn.some hf rfl rfl rfl rfl) rfl rfl rfl fn25 (RWEnd_c _ _ (hS.sel (by repeat (first | exact Sel.head | apply Sel.tail)))) rfl rfl ?_)
                                          clear hf hS; rintro v a w ⟨rfl, hS⟩ hf
                                          replace hT := hS.sub' hT (by repeat (first | exact Sub.refl | exact Sub.none | (apply Sub.cons; (focus ((repeat (first | exact Sel.head | apply Sel.tail)); done))) | apply Sub.skip))
                                          refine ⟨hT, ?_⟩
                                          refine any_one (i := 12) rfl (by kernel_rfl) (st_call hf (Wn.some hf rfl rfl rfl rfl) rfl rfl rfl fn33 (RVEnd2_c _ _ _ _ _ (hS.sel (by repeat (first | exact Sel.head | apply Sel.tail)))) rfl rfl ?_)
                                          clear hf hS; rintro v a w ⟨rfl, hS⟩ hf
                                          replace hT := hS.sub' hT (by repeat (first | exact Sub.refl | exact Sub.none | (apply Sub.cons; (focus ((repeat (first | exact Sel.head | apply Sel.tail)); done))) | apply Sub.skip))
                                          refine ⟨hT, ?_⟩
                                          refine any_takeB (i := 13) hf rfl (by kernel_rfl) (by kernel_rfl) (by kernel_rfl) (fun _ _ _ _ h => h) (Wn.some hf rfl rfl rfl rfl) (rd_neq hf rfl rfl rfl) hT rfl rfl ?_ ?_
                                          · clear hf; intro hc24 a hf
                                            first
                                            | (first | exact absurd rfl hc24; done)
                                            | (
                                              refine any_take (i := 14) hf rfl (by kernel_rfl) (by kernel_rfl) (by kernel_rfl) (fun _ _ _ h => h) (Wn.none rfl) (rd_pick_f hf rfl rfl rfl) hT rfl rfl ?_
                                              clear hf; intro a hf
                                              refine any_done (by kernel_rfl) ?_
                                              refine t_normal ?_
                                              refine c_true hf rfl ?_
                                              refine c_seq ?_
                                              refine c_region ?_
                                              refine step_l (st_rd hf (Wn.none rfl) (rd_assign hf rfl rfl) hS rfl rfl ?_)
                                              clear hf; intro a hf
                                              refine done_l ?_
                                              refine t_normal ?_
                                              refine c_ret ?_
                                              refine b_ret ?_
                                              refine t_ret ?_
                                              refine t_ret ?_
                                              refine b_ret ?_
                                              refine t_ret ?_
                                              refine e_res1 hf.defers rfl (res_tmp hf rfl .nil) ?_
                                              exact ⟨rfl, hS.sub (by repeat (first | exact Sub.refl | exact Sub.none | (apply Sub.cons; (focus ((repeat (first | exact Sel.head | apply Sel.tail)); done))) | apply Sub.skip))⟩
                                              )
                                          · clear hf; intro hc24 a hf
                                            first
                                            | (first | exact absurd rfl hc24; done)
                                            | (
                                              refine any_take (i := 14) hf rfl (by kernel_rfl) (by kernel_rfl) (by kernel_rfl) (fun _ _ _ h => h) (Wn.none rfl) (rd_pick_f hf rfl rfl rfl) hT rfl rfl ?_
                                              clear hf; intro a hf
                                              refine any_done (by kernel_rfl) ?_
                                              refine t_normal ?_
                                              refine c_false hf rfl ?_
                                              refine c_skip ?_
                                              refine b_normal ?_
                                              refine t_normal ?_
                                              refine c_region ?_
                                              refine step_l (st_rd hf (Wn.none rfl) (rd_move hf rfl rfl) hS rfl rfl ?_)
                                              clear hf; intro a hf
                                              refine step_l (st_rd hf (Wn.none rfl) (rd_add hf rfl rfl rfl (by first | exact Go.IntWalk.i64_in _ (by omega) | exact rfl)) hS rfl rfl ?_)
                                              clear hf; intro a hf
                                              refine step_l (st_rd hf (Wn.none rfl) (rd_assign hf rfl rfl) hS rfl rfl ?_)
                                              clear hf; intro a hf
                                              refine done_l ?_
                                              refine t_normal ⟨(i + 1, t), ⟨((((hf.k0.kb hf 7 rfl (by first | rfl | exact int_eq (by omega))).kb hf 6 rfl (by rfl)).kb hf 5 rfl (by rfl)).kb hf 1 rfl (by rfl)), (rd_shut (s := t) (hS.sub (.cons (by repeat (first | exact Sel.head | apply Sel.tail)) (.cons (by repeat (first | exact Sel.head | apply Sel.tail)) .refl)) : Sat W (Blk b_2 [.slice q2 t.1.length cap2, .int .i64 t.2] 55 :: Vw q2 t.1.length 1 (bvs t.1) :: _) _) rfl rfl rfl hcap2).sub (by repeat (first | exact Sub.refl | exact Sub.none | (apply Sub.cons; (focus ((repeat (first | exact Sel.head | apply Sel.tail)); done))) | apply Sub.skip)), ⟨by omega, by omega⟩⟩, by first | omega | (simp only []; omega)⟩
                                              )
                                          )
                                      )
                                · skip
                                  refine st_call hf (Wn.none rfl) rfl rfl rfl fn30 (RVText_c _ _ _ (hS.sel (by repeat (first | exact Sel.head | apply Sel.tail))) (by assumption) (by omega)) rfl rfl ?_
                                  clear hf hS; rintro v a w ⟨qt_25, capt_25, rfl, hS⟩ hf; have ht : (rText x.2.2.2.2.2.1 s).2.1.length ≤ s.1.length := rText_rest _ s; generalize (rText x.2.2.2.2.2.1 s).2 = t at hS ht
                                  replace hT := hS.sub' hT (by repeat (first | exact Sub.refl | exact Sub.none | (apply Sub.cons; (focus ((repeat (first | exact Sel.head | apply Sel.tail)); done))) | apply Sub.skip))
                                  refine ⟨hT, ?_⟩
                                  refine any_two (i := 4) (j := 9) rfl rfl (by kernel_rfl) ?_ ?_
                                  · skip
                                    refine st_rd hf (Wn.none rfl) (rd_str hf rfl rfl Try.underlying29 Try.underlying9 Try.underlying5 (by intro _ h; first | exact h.slOfRw (by repeat (first | exact Sel.head | apply Sel.tail)) | exact h.slOfBlkPre (by repeat (first | exact Sel.head | apply Sel.tail)) (bvs_len1 _))) hS rfl rfl ?_
                                    clear hf; intro a hf
                                    refine ⟨hT, ?_⟩
                                    refine any_one (i := 9) rfl (by kernel_rfl) (st_rd hf (Wn.none rfl) (rd_str hf rfl rfl Try.underlying29 Try.underlying9 Try.underlying5 (by intro _ h; first | exact h.slOfRw (by repeat (first | exact Sel.head | apply Sel.tail)) | exact h.slOfBlkPre (by repeat (first | exact Sel.head | apply Sel.tail)) (bvs_len1 _))) hS rfl rfl ?_)
                                    clear hf; intro a hf
                                    refine ⟨hT, ?_⟩
                                    refine any_takeB (i := 10) hf rfl (by kernel_rfl) (by kernel_rfl) (by kernel_rfl) (fun _ _ _ _ h => h) (Wn.none rfl) (rd_neqS hf rfl rfl rfl) hT rfl rfl ?_ ?_
                                    · clear hf; intro hc26 a hf
                                      first
                                      | (first | exact absurd rfl hc26; done)
                                      | (
                                        refine any_done (by kernel_rfl) ?_
                                        refine t_normal ?_
                                        refine c_true hf rfl ?_
                                        refine c_seq ?_
                                        refine c_region ?_
                                        refine step_l (st_rd hf (Wn.none rfl) (rd_assign hf rfl rfl) hS rfl rfl ?_)
                                        clear hf; intro a hf
                                        refine done_l ?_
                                        refine t_normal ?_
                                        refine c_ret ?_
                                        refine b_ret ?_
                                        refine t_ret ?_
                                        refine b_ret ?_
                                        refine t_ret ?_
                                        refine t_ret ?_
                                        refine b_ret ?_
                                        refine t_ret ?_
                                        refine e_res1 hf.defers rfl (res_tmp hf rfl .nil) ?_
                                        exact ⟨rfl, hS.sub (by repeat (first | exact Sub.refl | exact Sub.none | (apply Sub.cons; (focus ((repeat (first | exact Sel.head | apply Sel.tail)); done))) | apply Sub.skip))⟩
                                        )
                                    · clear hf; intro hc26 a hf
                                      first
                                      | (first | exact absurd rfl hc26; done)
                                      | (
                                        refine any_done (by kernel_rfl) ?_
                                        refine t_normal ?_
                                        refine c_false hf rfl ?_
                                        refine c_skip ?_
                                        refine b_normal ?_
                                        refine t_normal ?_
                                        refine c_seq ?_
                                        obtain ⟨q2, cap2, hcap2, hS⟩ := rd_open (T := 55) (hS.sel (by repeat (first | exact Sel.head | apply Sel.tail)))
                                        refine any_begin (S := Sat W (Blk b_2 [.slice q2 t.1.length cap2, .int .i64 t.2] 55 :: R)) mixed (hS.drew.sub (by repeat (first | exact Sub.refl | exact Sub.none | (apply Sub.cons; (focus ((repeat (first | exact Sel.head | apply Sel.tail)); done))) | apply Sub.skip))) ?_
                                        have hT : Sat W (Blk b_2 [.slice q2 t.1.length cap2, .int .i64 t.2] 55 :: R) _ := hS.drew.sub (by repeat (first | exact Sub.refl | exact Sub.none | (apply Sub.cons; (focus ((repeat (first | exact Sel.head | apply Sel.tail)); done))) | apply Sub.skip))
                                        replace hS := hS.drew
                                        refine any_take (i := 0) hf rfl (by kernel_rfl) (by kernel_rfl) (by kernel_rfl) (fun _ _ _ h => h) (Wn.none rfl) (rd_move hf rfl rfl) hT rfl rfl ?_
                                        clear hf; intro a hf
                                        refine any_take (i := 2) hf rfl (by kernel_rfl) (by kernel_rfl) (by kernel_rfl) (fun _ _ _ h => h) (Wn.none rfl) (rd_move hf rfl rfl) hT rfl rfl ?_
                                        clear hf; intro a hf
                                        refine any_take (i := 3) hf rfl (by kernel_rfl) (by kernel_rfl) (by kernel_rfl) (fun _ _ _ h => h) (Wn.none rfl) (rd_nilCheck hf rfl rfl) hT rfl rfl ?_
                                        clear hf; intro a hf
                                        refine any_take (i := 4) hf rfl (by kernel_rfl) (by kernel_rfl) (by kernel_rfl) (fun _ _ _ h => h) (Wn.none rfl) (rd_fieldAddrB hf rfl rfl fb55_0 rfl) hT rfl rfl ?_
                                        clear hf; intro a hf
                                        refine any_take (i := 5) hf rfl (by kernel_rfl) (by kernel_rfl) (by kernel_rfl) (fun _ _ _ h => h) (Wn.none rfl) (rd_load1 hf rfl rfl ag29 (by intro _ h; first | exact h.cell (by repeat (first | exact Sel.head | apply Sel.tail)) (by rfl))) hT rfl rfl ?_
                                        clear hf; intro a hf
                                        refine any_take (i := 6) hf rfl (by kernel_rfl) (by kernel_rfl) (by kernel_rfl) (fun _ _ _ h => h) (Wn.none rfl) (rd_len hf rfl rfl Try.underlying29) hT rfl rfl ?_
                                        clear hf; intro a hf
                                        refine any_one (i := 1) rfl (by kernel_rfl) (st_call hf (Wn.none rfl) rfl rfl rfl fn23 (RWLeft_c _ _ (hS.sel (by repeat (first | exact Sel.head | apply Sel.tail)))) rfl rfl ?_)
                                        clear hf hS; rintro v a w ⟨rfl, hS⟩ hf
                                        replace hT := hS.sub' hT (by repeat (first | exact Sub.refl | exact Sub.none | (apply Sub.cons; (focus ((repeat (first | exact Sel.head | apply Sel.tail)); done))) | apply Sub.skip))
                                        refine ⟨hT, ?_⟩
                                        refine any_takeB (i := 7) hf rfl (by kernel_rfl) (by kernel_rfl) (by kernel_rfl) (fun _ _ _ _ h => h) (Wn.none rfl) (rd_neq hf rfl rfl rfl) hT rfl rfl ?_ ?_
                                        · clear hf; intro hc27 a hf
                                          first
                                          | (first | exact absurd rfl hc27; done)
                                          | (
                                            refine any_take (i := 8) hf rfl (by kernel_rfl) (by kernel_rfl) (by kernel_rfl) (fun _ _ _ h => h) (Wn.none rfl) (rd_move hf rfl rfl) hT rfl rfl ?_
                                            clear hf; intro a hf
                                            refine any_skip (i := 9) hf rfl (by kernel_rfl) (by kernel_rfl) (by kernel_rfl) (fun _ _ _ h => h) (Wn.some hf rfl rfl rfl rfl) hT rfl rfl ?_
                                            clear hf; intro a hf
                                            refine any_skip (i := 10) hf rfl (by kernel_rfl) (by kernel_rfl) (by kernel_rfl) (fun _ _ _ h => h) (Wn.some hf rfl rfl rfl rfl) hT rfl rfl ?_
                                            clear hf; intro a hf
                                            refine any_skip (i := 11) hf rfl (by kernel_rfl) (by kernel_rfl) (by kernel_rfl) (fun _ _ _ h => h) (Wn.some hf rfl rfl rfl rfl) hT rfl rfl ?_
                                            clear hf; intro a hf
                                            refine any_skip (i := 12) hf rfl (by kernel_rfl) (by kernel_rfl) (by kernel_rfl) (fun _ _ _ h => h) (Wn.some hf rfl rfl rfl rfl) hT rfl rfl ?_
                                            clear hf; intro a hf
                                            refine any_skip (i := 13) hf rfl (by kernel_rfl) (by kernel_rfl) (by kernel_rfl) (fun _ _ _ h => h) (Wn.some hf rfl rfl rfl rfl) hT rfl rfl ?_
                                            clear hf; intro a hf
                                            refine any_take (i := 14) hf rfl (by kernel_rfl) (by kernel_rfl) (by kernel_rfl) (fun _ _ _ h => h) (Wn.none rfl) (rd_pick_t hf rfl rfl rfl) hT rfl rfl ?_
                                            clear hf; intro a hf
                                            refine any_done (by kernel_rfl) ?_
                                            refine t_normal ?_
                                            refine c_true hf rfl ?_
                                            refine c_seq ?_
                                            refine c_region ?_
                                            refine step_l (st_rd hf (Wn.none rfl) (rd_assign hf rfl rfl) hS rfl rfl ?_)
                                            clear hf; intro a hf
                                            refine done_l ?_
                                            refine t_normal ?_
                                            refine c_ret ?_
                                            refine b_ret ?_
                                            refine t_ret ?_
                                            refine t_ret ?_
                                            refine b_ret ?_
                                            refine t_ret ?_
                                            refine e_res1 hf.defers rfl (res_tmp hf rfl .nil) ?_
                                            exact ⟨rfl, hS.sub (by repeat (first | exact Sub.refl | exact Sub.none | (apply Sub.cons; (focus ((repeat (first | exact Sel.head | apply Sel.tail)); done))) | apply Sub.skip))⟩
                                            )
                                        · clear hf; intro hc27 a hf
                                          first
                                          | (first | exact absurd rfl hc27; done)
                                          | (
                                            refine any_take (i := 8) hf rfl (by kernel_rfl) (by kernel_rfl) (by kernel_rfl) (fun _ _ _ h => h) (Wn.none rfl) (rd_move hf rfl rfl) hT rfl rfl ?_
                                            clear hf; intro a hf
                                            refine any_take (i := 9) hf rfl (by kernel_rfl) (by kernel_rfl) (by kernel_rfl) (fun _ _ _ h => h) (Wn.some hf rfl rfl rfl rfl) (rd_move hf rfl rfl) hT rfl rfl ?_
                                            clear hf; intro a hf
                                            refine any_take (i := 11) hf rfl (by kernel_rfl) (by kernel_rfl) (by kernel_rfl) (fun _ _ _ h => h) (Wn.some hf rfl rfl rfl rfl) (rd_move hf rfl rfl) hT rfl rfl ?_
                                            clear hf; intro a hf
                                            refine any_one (i := 10) rfl (by kernel_rfl) (st_call hf (Wn.some hf rfl rfl rfl rfl) rfl rfl rfl fn25 (RWEnd_c _ _ (hS.sel (by repeat (first | exact Sel.head | apply Sel.tail)))) rfl rfl ?_)
                                            clear hf hS; rintro v a w ⟨rfl, hS⟩ hf
                                            replace hT := hS.sub' hT (by repeat (first | exact Sub.refl | exact Sub.none | (apply Sub.cons; (focus ((repeat (first | exact Sel.head | apply Sel.tail)); done))) | apply Sub.skip))
                                            refine ⟨hT, ?_⟩
                                            refine any_one (i := 12) rfl (by kernel_rfl) (st_call hf (Wn.some hf rfl rfl rfl rfl) rfl rfl rfl fn33 (RVEnd2_c _ _ _ _ _ (hS.sel (by repeat (first | exact Sel.head | apply Sel.tail)))) rfl rfl ?_)
                                            clear hf hS; rintro v a w ⟨rfl, hS⟩ hf
                                            replace hT := hS.sub' hT (by repeat (first | exact Sub.refl | exact Sub.none | (apply Sub.cons; (focus ((repeat (first | exact Sel.head | apply Sel.tail)); done))) | apply Sub.skip))
                                            refine ⟨hT, ?_⟩
                                            refine any_takeB (i := 13) hf rfl (by kernel_rfl) (by kernel_rfl) (by kernel_rfl) (fun _ _ _ _ h => h) (Wn.some hf rfl rfl rfl rfl) (rd_neq hf rfl rfl rfl) hT rfl rfl ?_ ?_
                                            · clear hf; intro hc28 a hf
                                              first
                                              | (first | exact absurd rfl hc28; done)
                                              | (
                                                refine any_take (i := 14) hf rfl (by kernel_rfl) (by kernel_rfl) (by kernel_rfl) (fun _ _ _ h => h) (Wn.none rfl) (rd_pick_f hf rfl rfl rfl) hT rfl rfl ?_
                                                clear hf; intro a hf
                                                refine any_done (by kernel_rfl) ?_
                                                refine t_normal ?_
                                                refine c_true hf rfl ?_
                                                refine c_seq ?_
                                                refine c_region ?_
                                                refine step_l (st_rd hf (Wn.none rfl) (rd_assign hf rfl rfl) hS rfl rfl ?_)
                                                clear hf; intro a hf
                                                refine done_l ?_
                                                refine t_normal ?_
                                                refine c_ret ?_
                                                refine b_ret ?_
                                                refine t_ret ?_
                                                refine t_ret ?_
                                                refine b_ret ?_
                                                refine t_ret ?_
                                                refine e_res1 hf.defers rfl (res_tmp hf rfl .nil) ?_
                                                exact ⟨rfl, hS.sub (by repeat (first | exact Sub.refl | exact Sub.none | (apply Sub.cons; (focus ((repeat (first | exact Sel.head | apply Sel.tail)); done))) | apply Sub.skip))⟩
                                                )
                                            · clear hf; intro hc28 a hf
                                              first
                                              | (first | exact absurd rfl hc28; done)
                                              | (
                                                refine any_take (i := 14) hf rfl (by kernel_rfl) (by kernel_rfl) (by kernel_rfl) (fun _ _ _ h => h) (Wn.none rfl) (rd_pick_f hf rfl rfl rfl) hT rfl rfl ?_
                                                clear hf; intro a hf
                                                refine any_done (by kernel_rfl) ?_
                                                refine t_normal ?_
                                                refine c_false hf rfl ?_
                                                refine c_skip ?_
                                                refine b_normal ?_
                                                refine t_normal ?_
                                                refine c_region ?_
                                                refine step_l (st_rd hf (Wn.none rfl) (rd_move hf rfl rfl) hS rfl rfl ?_)
                                                clear hf; intro a hf
                                                refine step_l (st_rd hf (Wn.none rfl) (rd_add hf rfl rfl rfl (by first | exact Go.IntWalk.i64_in _ (by omega) | exact rfl)) hS rfl rfl ?_)
                                                clear hf; intro a hf
                                                refine step_l (st_rd hf (Wn.none rfl) (rd_assign hf rfl rfl) hS rfl rfl ?_)
                                                clear hf; intro a hf
                                                refine done_l ?_
                                                refine t_normal ⟨(i + 1, t), ⟨((((hf.k0.kb hf 7 rfl (by first | rfl | exact int_eq (by omega))).kb hf 6 rfl (by rfl)).kb hf 5 rfl (by rfl)).kb hf 1 rfl (by rfl)), (rd_shut (s := t) (hS.sub (.cons (by repeat (first | exact Sel.head | apply Sel.tail)) (.cons (by repeat (first | exact Sel.head | apply Sel.tail)) .refl)) : Sat W (Blk b_2 [.slice q2 t.1.length cap2, .int .i64 t.2] 55 :: Vw q2 t.1.length 1 (bvs t.1) :: _) _) rfl rfl rfl hcap2).sub (by repeat (first | exact Sub.refl | exact Sub.none | (apply Sub.cons; (focus ((repeat (first | exact Sel.head | apply Sel.tail)); done))) | apply Sub.skip)), ⟨by omega, by omega⟩⟩, by first | omega | (simp only []; omega)⟩
                                                )
                                            )
                                        )
                                  · skip
                                    refine st_rd hf (Wn.none rfl) (rd_str hf rfl rfl Try.underlying29 Try.underlying9 Try.underlying5 (by intro _ h; first | exact h.slOfRw (by repeat (first | exact Sel.head | apply Sel.tail)) | exact h.slOfBlkPre (by repeat (first | exact Sel.head | apply Sel.tail)) (bvs_len1 _))) hS rfl rfl ?_
                                    clear hf; intro a hf
                                    refine ⟨hT, ?_⟩
                                    refine any_one (i := 4) rfl (by kernel_rfl) (st_rd hf (Wn.none rfl) (rd_str hf rfl rfl Try.underlying29 Try.underlying9 Try.underlying5 (by intro _ h; first | exact h.slOfRw (by repeat (first | exact Sel.head | apply Sel.tail)) | exact h.slOfBlkPre (by repeat (first | exact Sel.head | apply Sel.tail)) (bvs_len1 _))) hS rfl rfl ?_)
                                    clear hf; intro a hf
                                    refine ⟨hT, ?_⟩
                                    refine any_takeB (i := 10) hf rfl (by kernel_rfl) (by kernel_rfl) (by kernel_rfl) (fun _ _ _ _ h => h) (Wn.none rfl) (rd_neqS hf rfl rfl rfl) hT rfl rfl ?_ ?_
                                    · clear hf; intro hc29 a hf
                                      first
                                      | (first | exact absurd rfl hc29; done)
                                      | (
                                        refine any_done (by kernel_rfl) ?_
                                        refine t_normal ?_
                                        refine c_true hf rfl ?_
                                        refine c_seq ?_
                                        refine c_region ?_
                                        refine step_l (st_rd hf (Wn.none rfl) (rd_assign hf rfl rfl) hS rfl rfl ?_)
                                        clear hf; intro a hf
                                        refine done_l ?_
                                        refine t_normal ?_
                                        refine c_ret ?_
                                        refine b_ret ?_
                                        refine t_ret ?_
                                        refine b_ret ?_
                                        refine t_ret ?_
                                        refine t_ret ?_
                                        refine b_ret ?_
                                        refine t_ret ?_
                                        refine e_res1 hf.defers rfl (res_tmp hf rfl .nil) ?_
                                        exact ⟨rfl, hS.sub (by repeat (first | exact Sub.refl | exact Sub.none | (apply Sub.cons; (focus ((repeat (first | exact Sel.head | apply Sel.tail)); done))) | apply Sub.skip))⟩
                                        )
                                    · clear hf; intro hc29 a hf
                                      first
                                      | (first | exact absurd rfl hc29; done)
                                      | (
                                        refine any_done (by kernel_rfl) ?_
                                        refine t_normal ?_
                                        refine c_false hf rfl ?_
                                        refine c_skip ?_
                                        refine b_normal ?_
                                        refine t_normal ?_
                                        refine c_seq ?_
                                        obtain ⟨q2, cap2, hcap2, hS⟩ := rd_open (T := 55) (hS.sel (by repeat (first | exact Sel.head | apply Sel.tail)))
                                        refine any_begin (S := Sat W (Blk b_2 [.slice q2 t.1.length cap2, .int .i64 t.2] 55 :: R)) mixed (hS.drew.sub (by repeat (first | exact Sub.refl | exact Sub.none | (apply Sub.cons; (focus ((repeat (first | exact Sel.head | apply Sel.tail)); done))) | apply Sub.skip))) ?_
                                        have hT : Sat W (Blk b_2 [.slice q2 t.1.length cap2, .int .i64 t.2] 55 :: R) _ := hS.drew.sub (by repeat (first | exact Sub.refl | exact Sub.none | (apply Sub.cons; (focus ((repeat (first | exact Sel.head | apply Sel.tail)); done))) | apply Sub.skip))
                                        replace hS := hS.drew
                                        refine any_take (i := 0) hf rfl (by kernel_rfl) (by kernel_rfl) (by kernel_rfl) (fun _ _ _ h => h) (Wn.none rfl) (rd_move hf rfl rfl) hT rfl rfl ?_
                                        clear hf; intro a hf
                                        refine any_take (i := 2) hf rfl (by kernel_rfl) (by kernel_rfl) (by kernel_rfl) (fun _ _ _ h => h) (Wn.none rfl) (rd_move hf rfl rfl) hT rfl rfl ?_
                                        clear hf; intro a hf
                                        refine any_take (i := 3) hf rfl (by kernel_rfl) (by kernel_rfl) (by kernel_rfl) (fun _ _ _ h => h) (Wn.none rfl) (rd_nilCheck hf rfl rfl) hT rfl rfl ?_
                                        clear hf; intro a hf
                                        refine any_take (i := 4) hf rfl (by kernel_rfl) (by kernel_rfl) (by kernel_rfl) (fun _ _ _ h => h) (Wn.none rfl) (rd_fieldAddrB hf rfl rfl fb55_0 rfl) hT rfl rfl ?_
                                        clear hf; intro a hf
                                        refine any_take (i := 5) hf rfl (by kernel_rfl) (by kernel_rfl) (by kernel_rfl) (fun _ _ _ h => h) (Wn.none rfl) (rd_load1 hf rfl rfl ag29 (by intro _ h; first | exact h.cell (by repeat (first | exact Sel.head | apply Sel.tail)) (by rfl))) hT rfl rfl ?_
                                        clear hf; intro a hf
                                        refine any_take (i := 6) hf rfl (by kernel_rfl) (by kernel_rfl) (by kernel_rfl) (fun _ _ _ h => h) (Wn.none rfl) (rd_len hf rfl rfl Try.underlying29) hT rfl rfl ?_
                                        clear hf; intro a hf
                                        refine any_one (i := 1) rfl (by kernel_rfl) (st_call hf (Wn.none rfl) rfl rfl rfl fn23 (RWLeft_c _ _ (hS.sel (by repeat (first | exact Sel.head | apply Sel.tail)))) rfl rfl ?_)
                                        clear hf hS; rintro v a w ⟨rfl, hS⟩ hf
                                        replace hT := hS.sub' hT (by repeat (first | exact Sub.refl | exact Sub.none | (apply Sub.cons; (focus ((repeat (first | exact Sel.head | apply Sel.tail)); done))) | apply Sub.skip))
                                        refine ⟨hT, ?_⟩
                                        refine any_takeB (i := 7) hf rfl (by kernel_rfl) (by kernel_rfl) (by kernel_rfl) (fun _ _ _ _ h => h) (Wn.none rfl) (rd_neq hf rfl rfl rfl) hT rfl rfl ?_ ?_
                                        · clear hf; intro hc30 a hf
                                          first
                                          | (first | exact absurd rfl hc30; done)
                                          | (
                                            refine any_take (i := 8) hf rfl (by kernel_rfl) (by kernel_rfl) (by kernel_rfl) (fun _ _ _ h => h) (Wn.none rfl) (rd_move hf rfl rfl) hT rfl rfl ?_
                                            clear hf; intro a hf
                                            refine any_skip (i := 9) hf rfl (by kernel_rfl) (by kernel_rfl) (by kernel_rfl) (fun _ _ _ h => h) (Wn.some hf rfl rfl rfl rfl) hT rfl rfl ?_
                                            clear hf; intro a hf
                                            refine any_skip (i := 10) hf rfl (by kernel_rfl) (by kernel_rfl) (by kernel_rfl) (fun _ _ _ h => h) (Wn.some hf rfl rfl rfl rfl) hT rfl rfl ?_
                                            clear hf; intro a hf
                                            refine any_skip (i := 11) hf rfl (by kernel_rfl) (by kernel_rfl) (by kernel_rfl) (fun _ _ _ h => h) (Wn.some hf rfl rfl rfl rfl) hT rfl rfl ?_
                                            clear hf; intro a hf
                                            refine any_skip (i := 12) hf rfl (by kernel_rfl) (by kernel_rfl) (by kernel_rfl) (fun _ _ _ h => h) (Wn.some hf rfl rfl rfl rfl) hT rfl rfl ?_
                                            clear hf; intro a hf
                                            refine any_skip (i := 13) hf rfl (by kernel_rfl) (by kernel_rfl) (by kernel_rfl) (fun _ _ _ h => h) (Wn.some hf rfl rfl rfl rfl) hT rfl rfl ?_
                                            clear hf; intro a hf
                                            refine any_take (i := 14) hf rfl (by kernel_rfl) (by kernel_rfl) (by kernel_rfl) (fun _ _ _ h => h) (Wn.none rfl) (rd_pick_t hf rfl rfl rfl) hT rfl rfl ?_
                                            clear hf; intro a hf
                                            refine any_done (by kernel_rfl) ?_
                                            refine t_normal ?_
                                            refine c_true hf rfl ?_
                                            refine c_seq ?_
                                            refine c_region ?_
                                            refine step_l (st_rd hf (Wn.none rfl) (rd_assign hf rfl rfl) hS rfl rfl ?_)
                                            clear hf; intro a hf
                                            refine done_l ?_
                                            refine t_normal ?_
                                            refine c_ret ?_
                                            refine b_ret ?_
                                            refine t_ret ?_
                                            refine t_ret ?_
                                            refine b_ret ?_
                                            refine t_ret ?_
                                            refine e_res1 hf.defers rfl (res_tmp hf rfl .nil) ?_
                                            exact ⟨rfl, hS.sub (by repeat (first | exact Sub.refl | exact Sub.none | (apply Sub.cons; (focus ((repeat (first | exact Sel.head | apply Sel.tail)); done))) | apply Sub.skip))⟩
                                            )
                                        · clear hf; intro hc30 a hf
                                          first
                                          | (first | exact absurd rfl hc30; done)
                                          | (
                                            refine any_take (i := 8) hf rfl (by kernel_rfl) (by kernel_rfl) (by kernel_rfl) (fun _ _ _ h => h) (Wn.none rfl) (rd_move hf rfl rfl) hT rfl rfl ?_
                                            clear hf; intro a hf
                                            refine any_take (i := 9) hf rfl (by kernel_rfl) (by kernel_rfl) (by kernel_rfl) (fun _ _ _ h => h) (Wn.some hf rfl rfl rfl rfl) (rd_move hf rfl rfl) hT rfl rfl ?_
                                            clear hf; intro a hf
                                            refine any_take (i := 11) hf rfl (by kernel_rfl) (by kernel_rfl) (by kernel_rfl) (fun _ _ _ h => h) (Wn.some hf rfl rfl rfl rfl) (rd_move hf rfl rfl) hT rfl rfl ?_
                                            clear hf; intro a hf
                                            refine any_one (i := 10) rfl (by kernel_rfl) (st_call hf (Wn.some hf rfl rfl rfl rfl) rfl rfl rfl fn25 (RWEnd_c _ _ (hS.sel (by repeat (first | exact Sel.head | apply Sel.tail)))) rfl rfl ?_)
                                            clear hf hS; rintro v a w ⟨rfl, hS⟩ hf
                                            replace hT := hS.sub' hT (by repeat (first | exact Sub.refl | exact Sub.none | (apply Sub.cons; (focus ((repeat (first | exact Sel.head | apply Sel.tail)); done))) | apply Sub.skip))
                                            refine ⟨hT, ?_⟩
                                            refine any_one (i := 12) rfl (by kernel_rfl) (st_call hf (Wn.some hf rfl rfl rfl rfl) rfl rfl rfl fn33 (RVEnd2_c _ _ _ _ _ (hS.sel (by repeat (first | exact Sel.head | apply Sel.tail)))) rfl rfl ?_)
                                            clear hf hS; rintro v a w ⟨rfl, hS⟩ hf
                                            replace hT := hS.sub' hT (by repeat (first | exact Sub.refl | exact Sub.none | (apply Sub.cons; (focus ((repeat (first | exact Sel.head | apply Sel.tail)); done))) | apply Sub.skip))
                                            refine ⟨hT, ?_⟩
                                            refine any_takeB (i := 13) hf rfl (by kernel_rfl) (by kernel_rfl) (by kernel_rfl) (fun _ _ _ _ h => h) (Wn.some hf rfl rfl rfl rfl) (rd_neq hf rfl rfl rfl) hT rfl rfl ?_ ?_
                                            · clear hf; intro hc31 a hf
                                              first
                                              | (first | exact absurd rfl hc31; done)
                                              | (
                                                refine any_take (i := 14) hf rfl (by kernel_rfl) (by kernel_rfl) (by kernel_rfl) (fun _ _ _ h => h) (Wn.none rfl) (rd_pick_f hf rfl rfl rfl) hT rfl rfl ?_
                                                clear hf; intro a hf
                                                refine any_done (by kernel_rfl) ?_
                                                refine t_normal ?_
                                                refine c_true hf rfl ?_
                                                refine c_seq ?_
                                                refine c_region ?_
                                                refine step_l (st_rd hf (Wn.none rfl) (rd_assign hf rfl rfl) hS rfl rfl ?_)
                                                clear hf; intro a hf
                                                refine done_l ?_
                                                refine t_normal ?_
                                                refine c_ret ?_
                                                refine b_ret ?_
                                                refine t_ret ?_
                                                refine t_ret ?_
                                                refine b_ret ?_
                                                refine t_ret ?_
                                                refine e_res1 hf.defers rfl (res_tmp hf rfl .nil) ?_
                                                exact ⟨rfl, hS.sub (by repeat (first | exact Sub.refl | exact Sub.none | (apply Sub.cons; (focus ((repeat (first | exact Sel.head | apply Sel.tail)); done))) | apply Sub.skip))⟩
                                                )
                                            · clear hf; intro hc31 a hf
                                              first
                                              | (first | exact absurd rfl hc31; done)
                                              | (
                                                refine any_take (i := 14) hf rfl (by kernel_rfl) (by kernel_rfl) (by kernel_rfl) (fun _ _ _ h => h) (Wn.none rfl) (rd_pick_f hf rfl rfl rfl) hT rfl rfl ?_
                                                clear hf; intro a hf
                                                refine any_done (by kernel_rfl) ?_
                                                refine t_normal ?_
                                                refine c_false hf rfl ?_
                                                refine c_skip ?_
                                                refine b_normal ?_
                                                refine t_normal ?_
                                                refine c_region ?_
                                                refine step_l (st_rd hf (Wn.none rfl) (rd_move hf rfl rfl) hS rfl rfl ?_)
                                                clear hf; intro a hf
                                                refine step_l (st_rd hf (Wn.none rfl) (rd_add hf rfl rfl rfl (by first | exact Go.IntWalk.i64_in _ (by omega) | exact rfl)) hS rfl rfl ?_)
                                                clear hf; intro a hf
                                                refine step_l (st_rd hf (Wn.none rfl) (rd_assign hf rfl rfl) hS rfl rfl ?_)
                                                clear hf; intro a hf
                                                refine done_l ?_
                                                refine t_normal ⟨(i + 1, t), ⟨((((hf.k0.kb hf 7 rfl (by first | rfl | exact int_eq (by omega))).kb hf 6 rfl (by rfl)).kb hf 5 rfl (by rfl)).kb hf 1 rfl (by rfl)), (rd_shut (s := t) (hS.sub (.cons (by repeat (first | exact Sel.head | apply Sel.tail)) (.cons (by repeat (first | exact Sel.head | apply Sel.tail)) .refl)) : Sat W (Blk b_2 [.slice q2 t.1.length cap2, .int .i64 t.2] 55 :: Vw q2 t.1.length 1 (bvs t.1) :: _) _) rfl rfl rfl hcap2).sub (by repeat (first | exact Sub.refl | exact Sub.none | (apply Sub.cons; (focus ((repeat (first | exact Sel.head | apply Sel.tail)); done))) | apply Sub.skip)), ⟨by omega, by omega⟩⟩, by first | omega | (simp only []; omega)⟩
                                                )
                                            )
                                        )
                                )
                            · clear hf; intro hc19 a hf
                              first
                              | (first | exact absurd rfl hc19; done)
                              | (
                                refine step_l (st_rd hf (Wn.none rfl) (rd_assign hf rfl rfl) hS rfl rfl ?_)
                                clear hf; intro a hf
                                refine done_l ?_
                                refine t_normal ?_
                                refine c_false hf rfl ?_
                                refine c_seq ?_
                                refine any_begin (S := Sat W (Blk b_c (callC x) 43 :: R)) mixed (hS.drew.sub (by repeat (first | exact Sub.refl | exact Sub.none | (apply Sub.cons; (focus ((repeat (first | exact Sel.head | apply Sel.tail)); done))) | apply Sub.skip))) ?_
                                have hT : Sat W (Blk b_c (callC x) 43 :: R) _ := hS.drew.sub (by repeat (first | exact Sub.refl | exact Sub.none | (apply Sub.cons; (focus ((repeat (first | exact Sel.head | apply Sel.tail)); done))) | apply Sub.skip))
                                replace hS := hS.drew
                                refine any_take (i := 0) hf rfl (by kernel_rfl) (by kernel_rfl) (by kernel_rfl) (fun _ _ _ h => h) (Wn.none rfl) (rd_move hf rfl rfl) hT rfl rfl ?_
                                clear hf; intro a hf
                                refine any_take (i := 1) hf rfl (by kernel_rfl) (by kernel_rfl) (by kernel_rfl) (fun _ _ _ h => h) (Wn.none rfl) (rd_fieldAddrB hf rfl rfl fb43_5 rfl) hT rfl rfl ?_
                                clear hf; intro a hf
                                refine any_take (i := 2) hf rfl (by kernel_rfl) (by kernel_rfl) (by kernel_rfl) (fun _ _ _ h => h) (Wn.none rfl) (rd_load1 hf rfl rfl ag3 (by intro _ h; first | exact h.cell (by repeat (first | exact Sel.head | apply Sel.tail)) (by rfl))) hT rfl rfl ?_
                                clear hf; intro a hf
                                refine any_take (i := 4) hf rfl (by kernel_rfl) (by kernel_rfl) (by kernel_rfl) (fun _ _ _ h => h) (Wn.none rfl) (rd_move hf rfl rfl) hT rfl rfl ?_
                                clear hf; intro a hf
                                refine any_take (i := 5) hf rfl (by kernel_rfl) (by kernel_rfl) (by kernel_rfl) (fun _ _ _ h => h) (Wn.none rfl) (rd_fieldAddrB hf rfl rfl fb43_5 rfl) hT rfl rfl ?_
                                clear hf; intro a hf
                                refine any_take (i := 6) hf rfl (by kernel_rfl) (by kernel_rfl) (by kernel_rfl) (fun _ _ _ h => h) (Wn.none rfl) (rd_load1 hf rfl rfl ag3 (by intro _ h; first | exact h.cell (by repeat (first | exact Sel.head | apply Sel.tail)) (by rfl))) hT rfl rfl ?_
                                clear hf; intro a hf
                                refine any_one (i := 3) rfl (by kernel_rfl) (st_call hf (Wn.none rfl) rfl rfl rfl fn31 (RWCount_c _ _ _ (hS.sel (by repeat (first | exact Sel.head | apply Sel.tail))) (by first | assumption | exact ⟨by omega, by omega⟩)) rfl rfl ?_)
                                clear hf hS; rintro v a w ⟨rfl, hS⟩ hf
                                replace hT := hS.sub' hT (by repeat (first | exact Sub.refl | exact Sub.none | (apply Sub.cons; (focus ((repeat (first | exact Sel.head | apply Sel.tail)); done))) | apply Sub.skip))
                                refine ⟨hT, ?_⟩
                                refine any_one (i := 7) rfl (by kernel_rfl) (st_call hf (Wn.none rfl) rfl rfl rfl fn32 (RVCount_c _ _ _ (hS.sel (by repeat (first | exact Sel.head | apply Sel.tail))) (by first | assumption | exact ⟨by omega, by omega⟩)) rfl rfl ?_)
                                clear hf hS; rintro v a w ⟨rfl, hS⟩ hf; have ht : (rCount x.2.2.2.2.2.1 s).2.1.length ≤ s.1.length := rCount_rest _ s; generalize (rCount x.2.2.2.2.2.1 s).2 = t at hS ht
                                replace hT := hS.sub' hT (by repeat (first | exact Sub.refl | exact Sub.none | (apply Sub.cons; (focus ((repeat (first | exact Sel.head | apply Sel.tail)); done))) | apply Sub.skip))
                                refine ⟨hT, ?_⟩
                                refine any_takeB (i := 8) hf rfl (by kernel_rfl) (by kernel_rfl) (by kernel_rfl) (fun _ _ _ _ h => h) (Wn.none rfl) (rd_neq hf rfl rfl rfl) hT rfl rfl ?_ ?_
                                · clear hf; intro hc32 a hf
                                  first
                                  | (first | exact absurd rfl hc32; done)
                                  | (
                                    refine any_done (by kernel_rfl) ?_
                                    refine t_normal ?_
                                    refine c_true hf rfl ?_
                                    refine c_seq ?_
                                    refine c_region ?_
                                    refine step_l (st_rd hf (Wn.none rfl) (rd_assign hf rfl rfl) hS rfl rfl ?_)
                                    clear hf; intro a hf
                                    refine done_l ?_
                                    refine t_normal ?_
                                    refine c_ret ?_
                                    refine b_ret ?_
                                    refine t_ret ?_
                                    refine b_ret ?_
                                    refine t_ret ?_
                                    refine t_ret ?_
                                    refine b_ret ?_
                                    refine t_ret ?_
                                    refine e_res1 hf.defers rfl (res_tmp hf rfl .nil) ?_
                                    exact ⟨rfl, hS.sub (by repeat (first | exact Sub.refl | exact Sub.none | (apply Sub.cons; (focus ((repeat (first | exact Sel.head | apply Sel.tail)); done))) | apply Sub.skip))⟩
                                    )
                                · clear hf; intro hc32 a hf
                                  first
                                  | (first | exact absurd rfl hc32; done)
                                  | (
                                    refine any_done (by kernel_rfl) ?_
                                    refine t_normal ?_
                                    refine c_false hf rfl ?_
                                    refine c_skip ?_
                                    refine b_normal ?_
                                    refine t_normal ?_
                                    refine c_seq ?_
                                    obtain ⟨q2, cap2, hcap2, hS⟩ := rd_open (T := 55) (hS.sel (by repeat (first | exact Sel.head | apply Sel.tail)))
                                    refine any_begin (S := Sat W (Blk b_2 [.slice q2 t.1.length cap2, .int .i64 t.2] 55 :: R)) mixed (hS.drew.sub (by repeat (first | exact Sub.refl | exact Sub.none | (apply Sub.cons; (focus ((repeat (first | exact Sel.head | apply Sel.tail)); done))) | apply Sub.skip))) ?_
                                    have hT : Sat W (Blk b_2 [.slice q2 t.1.length cap2, .int .i64 t.2] 55 :: R) _ := hS.drew.sub (by repeat (first | exact Sub.refl | exact Sub.none | (apply Sub.cons; (focus ((repeat (first | exact Sel.head | apply Sel.tail)); done))) | apply Sub.skip))
                                    replace hS := hS.drew
                                    refine any_take (i := 0) hf rfl (by kernel_rfl) (by kernel_rfl) (by kernel_rfl) (fun _ _ _ h => h) (Wn.none rfl) (rd_move hf rfl rfl) hT rfl rfl ?_
                                    clear hf; intro a hf
                                    refine any_take (i := 2) hf rfl (by kernel_rfl) (by kernel_rfl) (by kernel_rfl) (fun _ _ _ h => h) (Wn.none rfl) (rd_move hf rfl rfl) hT rfl rfl ?_
                                    clear hf; intro a hf
                                    refine any_take (i := 3) hf rfl (by kernel_rfl) (by kernel_rfl) (by kernel_rfl) (fun _ _ _ h => h) (Wn.none rfl) (rd_nilCheck hf rfl rfl) hT rfl rfl ?_
                                    clear hf; intro a hf
                                    refine any_take (i := 4) hf rfl (by kernel_rfl) (by kernel_rfl) (by kernel_rfl) (fun _ _ _ h => h) (Wn.none rfl) (rd_fieldAddrB hf rfl rfl fb55_0 rfl) hT rfl rfl ?_
                                    clear hf; intro a hf
                                    refine any_take (i := 5) hf rfl (by kernel_rfl) (by kernel_rfl) (by kernel_rfl) (fun _ _ _ h => h) (Wn.none rfl) (rd_load1 hf rfl rfl ag29 (by intro _ h; first | exact h.cell (by repeat (first | exact Sel.head | apply Sel.tail)) (by rfl))) hT rfl rfl ?_
                                    clear hf; intro a hf
                                    refine any_take (i := 6) hf rfl (by kernel_rfl) (by kernel_rfl) (by kernel_rfl) (fun _ _ _ h => h) (Wn.none rfl) (rd_len hf rfl rfl Try.underlying29) hT rfl rfl ?_
                                    clear hf; intro a hf
                                    refine any_one (i := 1) rfl (by kernel_rfl) (st_call hf (Wn.none rfl) rfl rfl rfl fn23 (RWLeft_c _ _ (hS.sel (by repeat (first | exact Sel.head | apply Sel.tail)))) rfl rfl ?_)
                                    clear hf hS; rintro v a w ⟨rfl, hS⟩ hf
                                    replace hT := hS.sub' hT (by repeat (first | exact Sub.refl | exact Sub.none | (apply Sub.cons; (focus ((repeat (first | exact Sel.head | apply Sel.tail)); done))) | apply Sub.skip))
                                    refine ⟨hT, ?_⟩
                                    refine any_takeB (i := 7) hf rfl (by kernel_rfl) (by kernel_rfl) (by kernel_rfl) (fun _ _ _ _ h => h) (Wn.none rfl) (rd_neq hf rfl rfl rfl) hT rfl rfl ?_ ?_
                                    · clear hf; intro hc33 a hf
                                      first
                                      | (first | exact absurd rfl hc33; done)
                                      | (
                                        refine any_take (i := 8) hf rfl (by kernel_rfl) (by kernel_rfl) (by kernel_rfl) (fun _ _ _ h => h) (Wn.none rfl) (rd_move hf rfl rfl) hT rfl rfl ?_
                                        clear hf; intro a hf
                                        refine any_skip (i := 9) hf rfl (by kernel_rfl) (by kernel_rfl) (by kernel_rfl) (fun _ _ _ h => h) (Wn.some hf rfl rfl rfl rfl) hT rfl rfl ?_
                                        clear hf; intro a hf
                                        refine any_skip (i := 10) hf rfl (by kernel_rfl) (by kernel_rfl) (by kernel_rfl) (fun _ _ _ h => h) (Wn.some hf rfl rfl rfl rfl) hT rfl rfl ?_
                                        clear hf; intro a hf
                                        refine any_skip (i := 11) hf rfl (by kernel_rfl) (by kernel_rfl) (by kernel_rfl) (fun _ _ _ h => h) (Wn.some hf rfl rfl rfl rfl) hT rfl rfl ?_
                                        clear hf; intro a hf
                                        refine any_skip (i := 12) hf rfl (by kernel_rfl) (by kernel_rfl) (by kernel_rfl) (fun _ _ _ h => h) (Wn.some hf rfl rfl rfl rfl) hT rfl rfl ?_
                                        clear hf; intro a hf
                                        refine any_skip (i := 13) hf rfl (by kernel_rfl) (by kernel_rfl) (by kernel_rfl) (fun _ _ _ h => h) (Wn.some hf rfl rfl rfl rfl) hT rfl rfl ?_
                                        clear hf; intro a hf
                                        refine any_take (i := 14) hf rfl (by kernel_rfl) (by kernel_rfl) (by kernel_rfl) (fun _ _ _ h => h) (Wn.none rfl) (rd_pick_t hf rfl rfl rfl) hT rfl rfl ?_
                                        clear hf; intro a hf
                                        refine any_done (by kernel_rfl) ?_
                                        refine t_normal ?_
                                        refine c_true hf rfl ?_
                                        refine c_seq ?_
                                        refine c_region ?_
                                        refine step_l (st_rd hf (Wn.none rfl) (rd_assign hf rfl rfl) hS rfl rfl ?_)
                                        clear hf; intro a hf
                                        refine done_l ?_
                                        refine t_normal ?_
                                        refine c_ret ?_
                                        refine b_ret ?_
                                        refine t_ret ?_
                                        refine t_ret ?_
                                        refine b_ret ?_
                                        refine t_ret ?_
                                        refine e_res1 hf.defers rfl (res_tmp hf rfl .nil) ?_
                                        exact ⟨rfl, hS.sub (by repeat (first | exact Sub.refl | exact Sub.none | (apply Sub.cons; (focus ((repeat (first | exact Sel.head | apply Sel.tail)); done))) | apply Sub.skip))⟩
                                        )
                                    · clear hf; intro hc33 a hf
                                      first
                                      | (first | exact absurd rfl hc33; done)
                                      | (
                                        refine any_take (i := 8) hf rfl (by kernel_rfl) (by kernel_rfl) (by kernel_rfl) (fun _ _ _ h => h) (Wn.none rfl) (rd_move hf rfl rfl) hT rfl rfl ?_
                                        clear hf; intro a hf
                                        refine any_take (i := 9) hf rfl (by kernel_rfl) (by kernel_rfl) (by kernel_rfl) (fun _ _ _ h => h) (Wn.some hf rfl rfl rfl rfl) (rd_move hf rfl rfl) hT rfl rfl ?_
                                        clear hf; intro a hf
                                        refine any_take (i := 11) hf rfl (by kernel_rfl) (by kernel_rfl) (by kernel_rfl) (fun _ _ _ h => h) (Wn.some hf rfl rfl rfl rfl) (rd_move hf rfl rfl) hT rfl rfl ?_
                                        clear hf; intro a hf
                                        refine any_one (i := 10) rfl (by kernel_rfl) (st_call hf (Wn.some hf rfl rfl rfl rfl) rfl rfl rfl fn25 (RWEnd_c _ _ (hS.sel (by repeat (first | exact Sel.head | apply Sel.tail)))) rfl rfl ?_)
                                        clear hf hS; rintro v a w ⟨rfl, hS⟩ hf
                                        replace hT := hS.sub' hT (by repeat (first | exact Sub.refl | exact Sub.none | (apply Sub.cons; (focus ((repeat (first | exact Sel.head | apply Sel.tail)); done))) | apply Sub.skip))
                                        refine ⟨hT, ?_⟩
                                        refine any_one (i := 12) rfl (by kernel_rfl) (st_call hf (Wn.some hf rfl rfl rfl rfl) rfl rfl rfl fn33 (RVEnd2_c _ _ _ _ _ (hS.sel (by repeat (first | exact Sel.head | apply Sel.tail)))) rfl rfl ?_)
                                        clear hf hS; rintro v a w ⟨rfl, hS⟩ hf
                                        replace hT := hS.sub' hT (by repeat (first | exact Sub.refl | exact Sub.none | (apply Sub.cons; (focus ((repeat (first | exact Sel.head | apply Sel.tail)); done))) | apply Sub.skip))
                                        refine ⟨hT, ?_⟩
                                        refine any_takeB (i := 13) hf rfl (by kernel_rfl) (by kernel_rfl) (by kernel_rfl) (fun _ _ _ _ h => h) (Wn.some hf rfl rfl rfl rfl) (rd_neq hf rfl rfl rfl) hT rfl rfl ?_ ?_
                                        · clear hf; intro hc34 a hf
                                          first
                                          | (first | exact absurd rfl hc34; done)
                                          | (
                                            refine any_take (i := 14) hf rfl (by kernel_rfl) (by kernel_rfl) (by kernel_rfl) (fun _ _ _ h => h) (Wn.none rfl) (rd_pick_f hf rfl rfl rfl) hT rfl rfl ?_
                                            clear hf; intro a hf
                                            refine any_done (by kernel_rfl) ?_
                                            refine t_normal ?_
                                            refine c_true hf rfl ?_
                                            refine c_seq ?_
                                            refine c_region ?_
                                            refine step_l (st_rd hf (Wn.none rfl) (rd_assign hf rfl rfl) hS rfl rfl ?_)
                                            clear hf; intro a hf
                                            refine done_l ?_
                                            refine t_normal ?_
                                            refine c_ret ?_
                                            refine b_ret ?_
                                            refine t_ret ?_
                                            refine t_ret ?_
                                            refine b_ret ?_
                                            refine t_ret ?_
                                            refine e_res1 hf.defers rfl (res_tmp hf rfl .nil) ?_
                                            exact ⟨rfl, hS.sub (by repeat (first | exact Sub.refl | exact Sub.none | (apply Sub.cons; (focus ((repeat (first | exact Sel.head | apply Sel.tail)); done))) | apply Sub.skip))⟩
                                            )
                                        · clear hf; intro hc34 a hf
                                          first
                                          | (first | exact absurd rfl hc34; done)
                                          | (
                                            refine any_take (i := 14) hf rfl (by kernel_rfl) (by kernel_rfl) (by kernel_rfl) (fun _ _ _ h => h) (Wn.none rfl) (rd_pick_f hf rfl rfl rfl) hT rfl rfl ?_
                                            clear hf; intro a hf
                                            refine any_done (by kernel_rfl) ?_
                                            refine t_normal ?_
                                            refine c_false hf rfl ?_
                                            refine c_skip ?_
                                            refine b_normal ?_
                                            refine t_normal ?_
                                            refine c_region ?_
                                            refine step_l (st_rd hf (Wn.none rfl) (rd_move hf rfl rfl) hS rfl rfl ?_)
                                            clear hf; intro a hf
                                            refine step_l (st_rd hf (Wn.none rfl) (rd_add hf rfl rfl rfl (by first | exact Go.IntWalk.i64_in _ (by omega) | exact rfl)) hS rfl rfl ?_)
                                            clear hf; intro a hf
                                            refine step_l (st_rd hf (Wn.none rfl) (rd_assign hf rfl rfl) hS rfl rfl ?_)
                                            clear hf; intro a hf
                                            refine done_l ?_
                                            refine t_normal ⟨(i + 1, t), ⟨((((hf.k0.kb hf 7 rfl (by first | rfl | exact int_eq (by omega))).kb hf 6 rfl (by rfl)).kb hf 5 rfl (by rfl)).kb hf 1 rfl (by rfl)), (rd_shut (s := t) (hS.sub (.cons (by repeat (first | exact Sel.head | apply Sel.tail)) (.cons (by repeat (first | exact Sel.head | apply Sel.tail)) .refl)) : Sat W (Blk b_2 [.slice q2 t.1.length cap2, .int .i64 t.2] 55 :: Vw q2 t.1.length 1 (bvs t.1) :: _) _) rfl rfl rfl hcap2).sub (by repeat (first | exact Sub.refl | exact Sub.none | (apply Sub.cons; (focus ((repeat (first | exact Sel.head | apply Sel.tail)); done))) | apply Sub.skip)), ⟨by omega, by omega⟩⟩, by first | omega | (simp only []; omega)⟩
                                            )
                                        )
                                    )
                                )
                            )
                        )
                    )
                )
            · clear hf; intro hc5 a hf
              first
              | (first | exact absurd rfl hc5; done)
              | (
                refine step_l (st_rd hf (Wn.none rfl) (rd_pick_t hf rfl rfl rfl) hS rfl rfl ?_)
                clear hf; intro a hf
                refine done_l ?_
                refine t_normal ?_
                refine c_false hf rfl ?_
                refine c_exit ?_
                refine t_exit ?_
                refine t_exit ?_
                refine b_exit ?_
                refine t_normal ?_
                refine c_seq ?_
                refine c_region ?_
                refine step_l (st_rd hf (Wn.none rfl) (rd_move hf rfl rfl) hS rfl rfl ?_)
                clear hf; intro a hf
                refine step_l (st_call hf (Wn.none rfl) rfl rfl rfl fn25 (RWEnd_c _ _ (hS.sel (by repeat (first | exact Sel.head | apply Sel.tail)))) rfl rfl ?_)
                clear hf hS; rintro v a w ⟨rfl, hS⟩ hf
                refine step_l (st_rd hf (Wn.none rfl) (rd_move hf rfl rfl) hS rfl rfl ?_)
                clear hf; intro a hf
                refine step_l (st_call hf (Wn.none rfl) rfl rfl rfl fn33 (RVEnd_c _ _ (hS.sel (by repeat (first | exact Sel.head | apply Sel.tail)))) rfl rfl ?_)
                clear hf hS; rintro v a w ⟨rfl, hS⟩ hf
                refine step_l (st_rdB hf (Wn.none rfl) (rd_eql hf rfl rfl rfl) hS rfl rfl ?_ ?_)
                · clear hf; intro hc35 a hf
                  first
                  | (first | exact absurd rfl hc35; done)
                  | (
                    refine step_l (st_rd hf (Wn.none rfl) (rd_move hf rfl rfl) hS rfl rfl ?_)
                    clear hf; intro a hf
                    refine step_l (st_call hf (Wn.some hf rfl rfl rfl rfl) rfl rfl rfl fn17 (awake_c hS) rfl rfl ?_)
                    clear hf hS; rintro v a w ⟨rfl, hS⟩ hf
                    refine step_l (st_rd hf (Wn.none rfl) (rd_pick_t hf rfl rfl rfl) hS rfl rfl ?_)
                    clear hf; intro a hf
                    refine step_l (st_rd hf (Wn.none rfl) (rd_assign hf rfl rfl) hS rfl rfl ?_)
                    clear hf; intro a hf
                    refine done_l ?_
                    refine t_normal ?_
                    refine c_ret ?_
                    refine e_res1 hf.defers rfl (res_tmp hf rfl .nil) ?_
                    exact ⟨rfl, hS.sub (by repeat (first | exact Sub.refl | exact Sub.none | (apply Sub.cons; (focus ((repeat (first | exact Sel.head | apply Sel.tail)); done))) | apply Sub.skip))⟩
                    )
                · clear hf; intro hc35 a hf
                  first
                  | (first | exact absurd rfl hc35; done)
                  | (
                    refine step_l (st_rd hf (Wn.none rfl) (rd_move hf rfl rfl) hS rfl rfl ?_)
                    clear hf; intro a hf
                    refine step_l (st_skip hf (Wn.some hf rfl rfl rfl rfl) rfl rfl ?_)
                    clear hf; intro a hf
                    refine step_l (st_rd hf (Wn.none rfl) (rd_pick_f hf rfl rfl rfl) hS rfl rfl ?_)
                    clear hf; intro a hf
                    refine step_l (st_rd hf (Wn.none rfl) (rd_assign hf rfl rfl) hS rfl rfl ?_)
                    clear hf; intro a hf
                    refine done_l ?_
                    refine t_normal ?_
                    refine c_ret ?_
                    refine e_res1 hf.defers rfl (res_tmp hf rfl .nil) ?_
                    exact ⟨rfl, hS.sub (by repeat (first | exact Sub.refl | exact Sub.none | (apply Sub.cons; (focus ((repeat (first | exact Sel.head | apply Sel.tail)); done))) | apply Sub.skip))⟩
                    )
                )
            )
        · clear hf; intro hc4 a hf
          first
          | (first | exact absurd rfl hc4; done)
          | (
            refine step_l (st_rd hf (Wn.none rfl) (rd_move hf rfl rfl) hS rfl rfl ?_)
            clear hf; intro a hf
            refine step_l (st_skip hf (Wn.some hf rfl rfl rfl rfl) rfl rfl ?_)
            clear hf; intro a hf
            refine step_l (st_skip hf (Wn.some hf rfl rfl rfl rfl) rfl rfl ?_)
            clear hf; intro a hf
            refine step_l (st_rd hf (Wn.none rfl) (rd_pick_f hf rfl rfl rfl) hS rfl rfl ?_)
            clear hf; intro a hf
            refine done_l ?_
            refine t_normal ?_
            refine c_false hf rfl ?_
            refine c_exit ?_
            refine t_exit ?_
            refine t_exit ?_
            refine b_exit ?_
            refine t_normal ?_
            refine c_seq ?_
            refine c_region ?_
            refine step_l (st_rd hf (Wn.none rfl) (rd_move hf rfl rfl) hS rfl rfl ?_)
            clear hf; intro a hf
            refine step_l (st_call hf (Wn.none rfl) rfl rfl rfl fn25 (RWEnd_c _ _ (hS.sel (by repeat (first | exact Sel.head | apply Sel.tail)))) rfl rfl ?_)
            clear hf hS; rintro v a w ⟨rfl, hS⟩ hf
            refine step_l (st_rd hf (Wn.none rfl) (rd_move hf rfl rfl) hS rfl rfl ?_)
            clear hf; intro a hf
            refine step_l (st_call hf (Wn.none rfl) rfl rfl rfl fn33 (RVEnd_c _ _ (hS.sel (by repeat (first | exact Sel.head | apply Sel.tail)))) rfl rfl ?_)
            clear hf hS; rintro v a w ⟨rfl, hS⟩ hf
            refine step_l (st_rdB hf (Wn.none rfl) (rd_eql hf rfl rfl rfl) hS rfl rfl ?_ ?_)
            · clear hf; intro hc36 a hf
              first
              | (first | exact absurd rfl hc36; done)
              | (
                refine step_l (st_rd hf (Wn.none rfl) (rd_move hf rfl rfl) hS rfl rfl ?_)
                clear hf; intro a hf
                refine step_l (st_call hf (Wn.some hf rfl rfl rfl rfl) rfl rfl rfl fn17 (awake_c hS) rfl rfl ?_)
                clear hf hS; rintro v a w ⟨rfl, hS⟩ hf
                refine step_l (st_rd hf (Wn.none rfl) (rd_pick_t hf rfl rfl rfl) hS rfl rfl ?_)
                clear hf; intro a hf
                refine step_l (st_rd hf (Wn.none rfl) (rd_assign hf rfl rfl) hS rfl rfl ?_)
                clear hf; intro a hf
                refine done_l ?_
                refine t_normal ?_
                refine c_ret ?_
                refine e_res1 hf.defers rfl (res_tmp hf rfl .nil) ?_
                exact ⟨rfl, hS.sub (by repeat (first | exact Sub.refl | exact Sub.none | (apply Sub.cons; (focus ((repeat (first | exact Sel.head | apply Sel.tail)); done))) | apply Sub.skip))⟩
                )
            · clear hf; intro hc36 a hf
              first
              | (first | exact absurd rfl hc36; done)
              | (
                refine step_l (st_rd hf (Wn.none rfl) (rd_move hf rfl rfl) hS rfl rfl ?_)
                clear hf; intro a hf
                refine step_l (st_skip hf (Wn.some hf rfl rfl rfl rfl) rfl rfl ?_)
                clear hf; intro a hf
                refine step_l (st_rd hf (Wn.none rfl) (rd_pick_f hf rfl rfl rfl) hS rfl rfl ?_)
                clear hf; intro a hf
                refine step_l (st_rd hf (Wn.none rfl) (rd_assign hf rfl rfl) hS rfl rfl ?_)
                clear hf; intro a hf
                refine done_l ?_
                refine t_normal ?_
                refine c_ret ?_
                refine e_res1 hf.defers rfl (res_tmp hf rfl .nil) ?_
                exact ⟨rfl, hS.sub (by repeat (first | exact Sub.refl | exact Sub.none | (apply Sub.cons; (focus ((repeat (first | exact Sel.head | apply Sel.tail)); done))) | apply Sub.skip))⟩
                )
            )
      )

end Go.Proofs.Ytmohhhokplpgkaa
