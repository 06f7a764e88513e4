/-
  The statement LazyTells, walked.
  Conditions: none.
-/
import Derived.Test.YtmjfmcgpmlfnbaaLazy1
import Derived.Test.YtmjfmcgpmlfnbaaLz2
namespace Go.Proofs.Ytmjfmcgpmlfnbaa
open Go Go.Sl
set_option linter.unusedVariables false
set_option linter.unusedSimpArgs false
theorem ag4 : aggO Try.prog 4 = some false := by kernel_rfl
theorem bz5_0 : ((Array.range (0 * 1)).map (fun j => ((.int .u8 0 : Value)).cells[j % ((.int .u8 0 : Value)).cells.size]!)) = ([] : List Value).toArray := by kernel_rfl
theorem bz5_1 : ((Array.range (1 * 1)).map (fun j => ((.int .u8 0 : Value)).cells[j % ((.int .u8 0 : Value)).cells.size]!)) = ([.int .u8 0] : List Value).toArray := by kernel_rfl
theorem bz5_9 : ((Array.range (9 * 1)).map (fun j => ((.int .u8 0 : Value)).cells[j % ((.int .u8 0 : Value)).cells.size]!)) = ([.int .u8 0, .int .u8 0, .int .u8 0, .int .u8 0, .int .u8 0, .int .u8 0, .int .u8 0, .int .u8 0, .int .u8 0] : List Value).toArray := by kernel_rfl
theorem fn11 : fnB Try.prog 11 = true := by kernel_rfl
theorem fn15 : fnB Try.prog 15 = true := by kernel_rfl
theorem fn17 : fnB Try.prog 17 = true := by kernel_rfl
theorem fn18 : fnB Try.prog 18 = true := by kernel_rfl
theorem fn21 : fnB Try.prog 21 = true := by kernel_rfl
theorem fn22 : fnB Try.prog 22 = true := by kernel_rfl
theorem fn23 : fnB Try.prog 23 = true := by kernel_rfl
theorem fn24 : fnB Try.prog 24 = true := by kernel_rfl
theorem fn26 : fnB Try.prog 26 = true := by kernel_rfl
theorem fn27 : fnB Try.prog 27 = true := by kernel_rfl
theorem sz3 : (Try.prog.info? 3).map (·.size) = some 1 := by kernel_rfl
theorem sz4 : (Try.prog.info? 4).map (·.size) = some 1 := by kernel_rfl
theorem tyb5 : TyB Try.prog 5 (.int .u8 0) 1 1 := by unfold TyB; kernel_rfl
theorem zr3 : (Try.prog.info? 3).bind (·.zero) = some (.int .i64 0) := by kernel_rfl
theorem zr4 : (Try.prog.info? 4).bind (·.zero) = some (.bool false) := by kernel_rfl
theorem zr5 : (Try.prog.info? 5).bind (·.zero) = some (.int .u8 0) := by kernel_rfl
theorem awake_c  {W : World} {R : List HP} {w : World} (hS : Sat W (R) w)  : Calls Try.prog 15 [].toArray w (Ret fun v w' => v = .bool true ∧ Sat W R w') := by
  refine fn_start 6 Try.func15 rfl rfl rfl ?_
  intro a hf
  refine c_seq ?_
  refine c_region ?_
  refine step_l (st_rd hf (Wn.none rfl) (rd_assign hf rfl rfl) hS rfl rfl ?_)
  clear hf; intro a hf
  refine done_l ?_
  refine t_normal ?_
  refine c_seq ?_
  refine c_region ?_
  refine step_l (st_call hf (Wn.none rfl) rfl rfl rfl fn11 (Poly_c hS) rfl rfl ?_)
  clear hf hS; rintro v a w ⟨pt_1, rfl, hS⟩ hf
  refine step_l (st_buildRw hf (Wn.none rfl) hS rfl rfl Try.underlying38 sz5 zr5 (by decide) (by decide) bz5_9 rfl (.cons rfl (by first | rfl) (by rfl) (by repeat (first | exact Put.nil | apply Put.cons | apply Put.succ)) (.cons rfl (by first | rfl) (by rfl) (by repeat (first | exact Put.nil | apply Put.cons | apply Put.succ)) (.cons rfl (by first | rfl) (by rfl) (by repeat (first | exact Put.nil | apply Put.cons | apply Put.succ)) (.cons rfl (by first | rfl) (by rfl) (by repeat (first | exact Put.nil | apply Put.cons | apply Put.succ)) (.cons rfl (by first | rfl) (by rfl) (by repeat (first | exact Put.nil | apply Put.cons | apply Put.succ)) (.cons rfl (by first | rfl) (by rfl) (by repeat (first | exact Put.nil | apply Put.cons | apply Put.succ)) (.cons rfl (by first | rfl) (by rfl) (by repeat (first | exact Put.nil | apply Put.cons | apply Put.succ)) (.cons rfl (by first | rfl) (by rfl) (by repeat (first | exact Put.nil | apply Put.cons | apply Put.succ)) (.cons rfl (by first | rfl) (by rfl) (by repeat (first | exact Put.nil | apply Put.cons | apply Put.succ)) .nil))))))))) rfl rfl rfl ?_)
  clear hf hS; intro b_2 a w hf hS
  refine step_l (st_conv hf (Wn.none rfl) hS rfl rfl Try.underlying38 Try.underlying5 (by repeat (first | exact Sel.head | apply Sel.tail)) rfl rfl ?_)
  clear hf hS; intro a w hf hS
  refine step_l (st_call hf (Wn.none rfl) rfl rfl rfl fn23 (SumP_c _ _ [49, 50, 51, 52, 53, 54, 55, 56, 57] _ _ _ (hS.sel (by repeat (first | exact Sel.head | apply Sel.tail))) rfl (by simp) (fun _ h => h.slOfBlk (by repeat (first | exact Sel.head | apply Sel.tail)) (by rfl))) rfl rfl ?_)
  clear hf hS; rintro v a w ⟨rfl, ds_3, hS⟩ hf
  refine step_l (st_rd hf (Wn.none rfl) (rd_eql hf rfl rfl rfl) hS rfl rfl ?_)
  clear hf; intro a hf
  refine step_l (st_rd hf (Wn.none rfl) (rd_assign hf rfl rfl) hS rfl rfl ?_)
  clear hf; intro a hf
  refine done_l ?_
  refine t_normal ?_
  refine c_ret ?_
  refine e_res1 hf.defers rfl (res_tmp hf rfl .nil) ?_
  exact ⟨congrArg Value.bool (decide_eq_true (by rw [crc_awake]; rfl)), hS.sub (by repeat (first | exact Sub.refl | exact Sub.none | exact Sub.behind | (apply Sub.cons; (focus ((repeat (first | exact Sel.head | apply Sel.tail)); done))) | apply Sub.skip))⟩

set_option maxRecDepth 100000 in
set_option maxHeartbeats 4000000 in
theorem LazyTells_c (b : List UInt8) (qb : Option Addr) (cb : Nat) (at_ : Int) (x2 : List UInt8) (x y : UInt8) {W : World} {R : List HP} {w : World} (hS : Sat W (R) w) (hx2 : x2.length = 4) (hb : b.length ≤ 140737488351232) (hvb : ∀ w, Sat W R w → SlAt w qb b.length 1 (bvs b)) : Calls Try.prog 9 [.slice qb b.length cb, .int .i64 at_, .agg (x2.flatMap fun c : UInt8 => [bv c]).toArray, bv x, bv y].toArray w (Ret fun v w' => v = .bool true ∧ Sat W R w') := by
  refine fn_start 77 Try.func9 rfl rfl rfl ?_
  intro a hf
  refine c_seq ?_
  refine c_region ?_
  refine step_l (st_box hf (Wn.none rfl) hS rfl rfl (by rfl) rfl rfl ?_)
  clear hf hS; intro b_y a w hf hS
  refine step_l (st_rd hf (Wn.none rfl) (rd_assign hf rfl rfl) hS rfl rfl ?_)
  clear hf; intro a hf
  refine done_l ?_
  refine t_normal ?_
  refine c_seq ?_
  refine c_seq ?_
  refine c_region ?_
  refine step_l (st_rd hf (Wn.none rfl) (rd_move hf rfl rfl) hS rfl rfl ?_)
  clear hf; intro a hf
  refine step_l (st_buildSlice hf (Wn.none rfl) hS rfl rfl Try.underlying38 sz5 zr5 (by decide) bz5_1 rfl (.cons rfl (by first | rfl) (by rfl) (by repeat (first | exact Put.nil | apply Put.cons | apply Put.succ)) .nil) rfl rfl ?_)
  clear hf hS; intro b_2 a w hf hS
  refine step_l (st_call hf (Wn.none rfl) rfl rfl rfl fn26 (Mix_c [x] _ _ _ hS rfl (by simp) (fun _ h => h.slOfBlk (by repeat (first | exact Sel.head | apply Sel.tail)) (by rfl))) rfl rfl ?_)
  clear hf hS; rintro v a w ⟨rfl, hS⟩ hf
  refine step_l (st_rd hf (Wn.none rfl) (rd_move hf rfl rfl) hS rfl rfl ?_)
  clear hf; intro a hf
  refine step_l (st_buildSlice hf (Wn.none rfl) hS rfl rfl Try.underlying38 sz5 zr5 (by decide) bz5_1 rfl (.cons rfl (by first | rfl) (by rfl) (by repeat (first | exact Put.nil | apply Put.cons | apply Put.succ)) .nil) rfl rfl ?_)
  clear hf hS; intro b_3 a w hf hS
  refine step_l (st_call hf (Wn.none rfl) rfl rfl rfl fn26 (Mix_c [y] _ _ _ hS rfl (by simp) (fun _ h => h.slOfBlk (by repeat (first | exact Sel.head | apply Sel.tail)) (by rfl))) rfl rfl ?_)
  clear hf hS; rintro v a w ⟨rfl, hS⟩ hf
  refine step_l (st_rd hf (Wn.none rfl) (rd_eql hf rfl rfl rfl) hS rfl rfl ?_)
  clear hf; intro a hf
  refine step_l (st_rd hf (Wn.none rfl) (rd_move hf rfl rfl) hS rfl rfl ?_)
  clear hf; intro a hf
  refine step_l (st_rd hf (Wn.none rfl) (rd_move hf rfl rfl) hS rfl rfl ?_)
  clear hf; intro a hf
  refine step_l (st_rd hf (Wn.none rfl) (rd_eql hf rfl rfl rfl) hS rfl rfl ?_)
  clear hf; intro a hf
  refine step_l (st_rdB hf (Wn.none rfl) (rd_neqBool hf rfl rfl rfl Try.underlying4) hS rfl rfl ?_ ?_)
  · clear hf; intro hc4 a hf
    exact absurd (decide_eq_decide.2 (b32_inj.trans (mix_one.trans u8_inj.symm))) hc4
  · clear hf; intro hc4 a hf
    refine done_l ?_
    refine t_normal ?_
    refine c_false hf rfl ?_
    refine c_skip ?_
    refine t_normal ?_
    refine c_seq ?_
    refine c_seq ?_
    refine c_region ?_
    refine step_l (st_rd hf (Wn.none rfl) (rd_move hf rfl rfl) hS rfl rfl ?_)
    clear hf; intro a hf
    refine step_l (st_rd hf (Wn.none rfl) (rd_len hf rfl rfl Try.underlying38) hS rfl rfl ?_)
    clear hf; intro a hf
    refine step_l (st_rdB hf (Wn.none rfl) (rd_eql hf rfl rfl rfl) hS rfl rfl ?_ ?_)
    · clear hf; intro hc5 a hf
      refine done_l ?_
      refine t_normal ?_
      refine c_true hf rfl ?_
      refine c_seq ?_
      refine c_region ?_
      refine step_l (st_call hf (Wn.none rfl) rfl rfl rfl fn15 (awake_c hS) rfl rfl ?_)
      clear hf hS; rintro v a w ⟨rfl, hS⟩ hf
      refine step_l (st_rd hf (Wn.none rfl) (rd_assign hf rfl rfl) hS rfl rfl ?_)
      clear hf; intro a hf
      refine done_l ?_
      refine t_normal ?_
      refine c_ret ?_
      refine t_ret ?_
      refine e_res1 hf.defers rfl (res_tmp hf rfl .nil) ?_
      exact ⟨rfl, hS.sub (by repeat (first | exact Sub.refl | exact Sub.none | exact Sub.behind | (apply Sub.cons; (focus ((repeat (first | exact Sel.head | apply Sel.tail)); done))) | apply Sub.skip))⟩
    · clear hf; intro hc5 a hf
      refine done_l ?_
      refine t_normal ?_
      refine c_false hf rfl ?_
      refine c_skip ?_
      refine t_normal ?_
      refine c_seq ?_
      refine c_region ?_
      refine step_l (st_buildRw hf (Wn.none rfl) hS rfl rfl Try.underlying38 sz5 zr5 (by decide) (by decide) bz5_0 rfl .nil rfl rfl rfl ?_)
      clear hf hS; intro b_6 a w hf hS
      refine step_l (st_rd hf (Wn.none rfl) (rd_move hf rfl rfl) hS rfl rfl ?_)
      clear hf; intro a hf
      refine step_l (st_append hf (Wn.none rfl) rfl rfl rfl Try.underlying38 tyb5 (by rfl) (by decide) hS (by repeat (first | exact Sel.head | apply Sel.tail)) (by first | exact hS.slOfBlk (by repeat (first | exact Sel.head | apply Sel.tail)) (by rfl) | exact hS.slOfBlkPre (by repeat (first | exact Sel.head | apply Sel.tail)) (bvs_len1 _) | exact hS.slOfRw (by repeat (first | exact Sel.head | apply Sel.tail)) | exact SlAt.nil _ _ _ | exact hvb _ (hS.sub (by repeat (first | exact Sub.refl | exact Sub.none | exact Sub.behind | (apply Sub.cons; (focus ((repeat (first | exact Sel.head | apply Sel.tail)); done))) | apply Sub.skip)))) (by first | rfl | exact bvs_one _ | (simp [Value.oneCell']; done)) (by omega) rfl rfl ?_)
      clear hf hS; intro pA capA a w hf hS hnilA
      refine step_l (st_rd hf (Wn.none rfl) (rd_assign hf rfl rfl) hS rfl rfl ?_)
      clear hf; intro a hf
      refine done_l ?_
      have hbl : 0 < b.length := by omega
      replace hS := (hS.sel (by repeat (first | exact Sel.head | apply Sel.tail)) : Sat W (Rw 5 1 pA _ capA _ :: _) _).rwCast (xs' := bvs b) (len' := b.length) (by simp) (by omega)
      replace hf := hf.kb hf 11 rfl (slice_eq (n' := b.length) (by omega))
      refine t_normal ?_
      refine c_seq ?_
      refine c_region ?_
      refine step_l (st_rd hf (Wn.none rfl) (rd_move hf rfl rfl) hS rfl rfl ?_)
      clear hf; intro a hf
      refine step_l (st_rd hf (Wn.none rfl) (rd_convInt hf rfl rfl Try.underlying3 Try.underlying33 rfl) hS rfl rfl ?_)
      clear hf; intro a hf
      refine step_l (st_rd hf (Wn.none rfl) (rd_move hf rfl rfl) hS rfl rfl ?_)
      clear hf; intro a hf
      refine step_l (st_rd hf (Wn.none rfl) (rd_len hf rfl rfl Try.underlying38) hS rfl rfl ?_)
      clear hf; intro a hf
      refine step_l (st_rd hf (Wn.none rfl) (rd_convInt hf rfl rfl Try.underlying3 Try.underlying33 (wrap64 (by omega))) hS rfl rfl ?_)
      clear hf; intro a hf
      refine step_l (st_rd hf (Wn.none rfl) (rd_rem hf rfl rfl rfl (by first | decide | omega) (u64mod at_ hbl)) hS rfl rfl ?_)
      clear hf; intro a hf
      refine step_l (st_rd hf (Wn.none rfl) (rd_convInt hf rfl rfl Try.underlying33 Try.underlying3 (Go.IntWalk.i64_in _ (by have := Nat.mod_lt (at_ % 18446744073709551616).toNat hbl; omega))) hS rfl rfl ?_)
      clear hf; intro a hf
      refine step_l (st_rd hf (Wn.none rfl) (rd_assign hf rfl rfl) hS rfl rfl ?_)
      clear hf; intro a hf
      refine done_l ?_
      obtain ⟨A, hdA⟩ : ∃ A : Nat, A = (at_ % 18446744073709551616).toNat % b.length := ⟨_, rfl⟩
      rw [← hdA] at hf; have hA : A < b.length := by rw [hdA]; exact Nat.mod_lt _ hbl
      refine t_normal ?_
      refine c_seq ?_
      refine c_seq ?_
      refine c_region ?_
      refine step_l (st_rd hf (Wn.none rfl) (rd_assign hf rfl rfl) hS rfl rfl ?_)
      clear hf; intro a hf
      refine done_l ?_
      refine t_normal ?_
      refine c_block ?_
      have hk0 := Keep.of hf [(12, 12), (38, 60)] (by repeat (first | exact Keep.nil | apply Keep.drop rfl | apply Keep.take rfl))
      refine c_loopK hk0 (α := Nat × List UInt8) (fun ⟨i, cs⟩ => [(12, .int .i64 (i : Nat))]) (fun ⟨i, cs⟩ w => Sat W (Rw 5 1 pA b.length capA (bvs cs) :: Blk b_y (x2.flatMap fun c : UInt8 => [bv c]) 45 :: R) w ∧ i ≤ 4 ∧ b.length = cs.length ∧ b.take A = cs.take A ∧ b.drop (A + 4) = cs.drop (A + 4)) (fun ⟨i, cs⟩ => 4 - i) (0, b) ((hf.keep hk0).kb hf 12 rfl (by first | rfl | exact int_eq (by omega))) ⟨hS.sub (by repeat (first | exact Sub.refl | exact Sub.none | exact Sub.behind | (apply Sub.cons; (focus ((repeat (first | exact Sel.head | apply Sel.tail)); done))) | apply Sub.skip)), ⟨by omega, rfl, rfl, rfl⟩⟩ ?_
      clear hf hS; rintro ⟨i, cs⟩ a w hf ⟨hS, ⟨hi, hl, ht, hd⟩⟩; (try dsimp only [List.cons_append, List.nil_append] at hf)
      refine c_seq ?_
      refine c_seq ?_
      refine c_region ?_
      refine step_l (st_rd hf (Wn.none rfl) (rd_move hf rfl rfl) hS rfl rfl ?_)
      clear hf; intro a hf
      refine step_l (st_rdB hf (Wn.none rfl) (rd_lss hf rfl rfl rfl) hS rfl rfl ?_ ?_)
      · clear hf; intro hc8 a hf
        refine step_l (st_rd hf (Wn.none rfl) (rd_move hf rfl rfl) hS rfl rfl ?_)
        clear hf; intro a hf
        refine step_l (st_rd hf (Wn.some hf rfl rfl rfl rfl) (rd_move hf rfl rfl) hS rfl rfl ?_)
        clear hf; intro a hf
        refine step_l (st_rd hf (Wn.some hf rfl rfl rfl rfl) (rd_move hf rfl rfl) hS rfl rfl ?_)
        clear hf; intro a hf
        refine step_l (st_rd hf (Wn.some hf rfl rfl rfl rfl) (rd_add hf rfl rfl rfl (i64_add (by omega))) hS rfl rfl ?_)
        clear hf; intro a hf
        refine step_l (st_rd hf (Wn.some hf rfl rfl rfl rfl) (rd_move hf rfl rfl) hS rfl rfl ?_)
        clear hf; intro a hf
        refine step_l (st_rd hf (Wn.some hf rfl rfl rfl rfl) (rd_len hf rfl rfl Try.underlying38) hS rfl rfl ?_)
        clear hf; intro a hf
        refine step_l (st_rdB hf (Wn.some hf rfl rfl rfl rfl) (rd_lss hf rfl rfl rfl) hS rfl rfl ?_ ?_)
        · clear hf; intro hc9 a hf
          obtain ⟨c1, hg1⟩ := get_of_lt (l := cs) (k := A + i) (by omega) rfl; obtain ⟨c2, hg2⟩ := get_of_lt (l := x2) (k := i) (by omega) rfl; obtain ⟨adc, rfl⟩ := (hS.slOfRw (by repeat (first | exact Sel.head | apply Sel.tail)) : SlAt _ pA b.length 1 _).some (by omega)
          refine step_l (st_rd hf (Wn.none rfl) (rd_pick_t hf rfl rfl rfl) hS rfl rfl ?_)
          clear hf; intro a hf
          refine done_l ?_
          refine t_normal ?_
          refine c_true hf rfl ?_
          refine c_skip ?_
          refine t_normal ?_
          refine c_seq ?_
          refine c_block ?_
          refine any_begin (S := Sat W (R)) mixed (hS.drew.sub (by repeat (first | exact Sub.refl | exact Sub.none | exact Sub.behind | (apply Sub.cons; (focus ((repeat (first | exact Sel.head | apply Sel.tail)); done))) | apply Sub.skip))) ?_
          have hT : Sat W (R) _ := hS.drew.sub (by repeat (first | exact Sub.refl | exact Sub.none | exact Sub.behind | (apply Sub.cons; (focus ((repeat (first | exact Sel.head | apply Sel.tail)); done))) | apply Sub.skip))
          replace hS := hS.drew
          refine any_take (i := 0) hf rfl (by kernel_rfl) (by kernel_rfl) (by kernel_rfl) (fun _ _ _ h => h) (Wn.none rfl) (rd_move hf rfl rfl) hT rfl rfl ?_
          clear hf; intro a hf
          refine any_take (i := 1) hf rfl (by kernel_rfl) (by kernel_rfl) (by kernel_rfl) (fun _ _ _ h => h) (Wn.none rfl) (rd_move hf rfl rfl) hT rfl rfl ?_
          clear hf; intro a hf
          refine any_take (i := 2) hf rfl (by kernel_rfl) (by kernel_rfl) (by kernel_rfl) (fun _ _ _ h => h) (Wn.none rfl) (rd_move hf rfl rfl) hT rfl rfl ?_
          clear hf; intro a hf
          refine any_take (i := 3) hf rfl (by kernel_rfl) (by kernel_rfl) (by kernel_rfl) (fun _ _ _ h => h) (Wn.none rfl) (rd_add hf rfl rfl rfl (i64_add (by omega))) hT rfl rfl ?_
          clear hf; intro a hf
          refine any_take (i := 4) hf rfl (by kernel_rfl) (by kernel_rfl) (by kernel_rfl) (fun _ _ _ h => h) (Wn.none rfl) ((by first | exact rd_indexAddrN1 hf rfl rfl rfl Try.underlying38 sz5 (by omega) | exact rd_indexAddr hf rfl rfl rfl Try.underlying38 sz5 (by first | decide | omega) (by omega))) hT rfl rfl ?_
          clear hf; intro a hf
          refine any_take (i := 6) hf rfl (by kernel_rfl) (by kernel_rfl) (by kernel_rfl) (fun _ _ _ h => h) (Wn.none rfl) (rd_move hf rfl rfl) hT rfl rfl ?_
          clear hf; intro a hf
          refine any_take (i := 7) hf rfl (by kernel_rfl) (by kernel_rfl) (by kernel_rfl) (fun _ _ _ h => h) (Wn.none rfl) (rd_indexAddrA hf rfl rfl rfl Try.underlying45 sz5 (by omega)) hT rfl rfl ?_
          clear hf; intro a hf
          refine any_two (i := 5) (j := 8) rfl rfl (by kernel_rfl) ?_ ?_
          · skip
            refine st_rd hf (Wn.none rfl) (rd_load1 hf rfl rfl ag5 (by intro _ h; exact (h.slOfRw (by repeat (first | exact Sel.head | apply Sel.tail))).get (bvs_get hg1))) hS rfl rfl ?_
            clear hf; intro a hf
            refine ⟨hT, ?_⟩
            refine any_one (i := 8) rfl (by kernel_rfl) (st_rd hf (Wn.none rfl) (rd_load1 hf rfl rfl ag5 (by intro _ h; exact h.cell (by repeat (first | exact Sel.head | apply Sel.tail)) (by rw [Nat.zero_add, Nat.mul_one, flat_bv]; exact bvs_get hg2))) hS rfl rfl ?_)
            clear hf; intro a hf
            refine ⟨hT, ?_⟩
            refine any_take (i := 9) hf rfl (by kernel_rfl) (by kernel_rfl) (by kernel_rfl) (fun _ _ _ h => h) (Wn.none rfl) (rd_xor hf rfl rfl rfl (n8_xor _ _ rfl)) hT rfl rfl ?_
            clear hf; intro a hf
            refine any_take (i := 10) hf rfl (by kernel_rfl) (by kernel_rfl) (by kernel_rfl) (fun _ _ _ h => h) (Wn.none rfl) ((by first | exact rd_indexAddrN1 hf rfl rfl rfl Try.underlying38 sz5 (by omega) | exact rd_indexAddr hf rfl rfl rfl Try.underlying38 sz5 (by first | decide | omega) (by omega))) hT rfl rfl ?_
            clear hf; intro a hf
            refine any_one (i := 11) rfl (by kernel_rfl) (st_storeRw hf (Wn.none rfl) hS rfl rfl rfl (by rfl) sz5 (by rfl) (by repeat (first | exact Sel.head | apply Sel.tail)) (by omega) rfl ?_)
            clear hf hS; intro a w hf hS
            replace hT := hS.sub' hT (by repeat (first | exact Sub.refl | exact Sub.none | exact Sub.behind | (apply Sub.cons; (focus ((repeat (first | exact Sel.head | apply Sel.tail)); done))) | apply Sub.skip))
            refine ⟨hT, ?_⟩
            refine any_done (by kernel_rfl) ?_
            refine b_normal ?_
            refine t_normal ?_
            refine c_region ?_
            refine step_l (st_rd hf (Wn.none rfl) (rd_move hf rfl rfl) hS rfl rfl ?_)
            clear hf; intro a hf
            refine step_l (st_rd hf (Wn.none rfl) (rd_add hf rfl rfl rfl (by first | exact Go.IntWalk.i64_in _ (by omega) | exact rfl)) hS rfl rfl ?_)
            clear hf; intro a hf
            refine step_l (st_rd hf (Wn.none rfl) (rd_assign hf rfl rfl) hS rfl rfl ?_)
            clear hf; intro a hf
            refine done_l ?_
            refine t_normal ⟨(i + 1, cs.set (A + i) (c1 ^^^ c2)), ((hf.back (by repeat (first | exact Behind.refl | refine Behind.skip rfl ?_)) hk0).kb hf 12 rfl (by first | rfl | exact int_eq (by omega))), ⟨(by rw [bvs_set]; exact hS.sub (by repeat (first | exact Sub.refl | exact Sub.none | exact Sub.behind | (apply Sub.cons; (focus ((repeat (first | exact Sel.head | apply Sel.tail)); done))) | apply Sub.skip))), ⟨by omega, by rw [List.length_set]; exact hl, by rw [take_set_ge (by omega)]; exact ht, by rw [drop_set_lt (by omega)]; exact hd⟩⟩, by first | omega | (simp only []; omega)⟩
          · skip
            refine st_rd hf (Wn.none rfl) (rd_load1 hf rfl rfl ag5 (by intro _ h; exact h.cell (by repeat (first | exact Sel.head | apply Sel.tail)) (by rw [Nat.zero_add, Nat.mul_one, flat_bv]; exact bvs_get hg2))) hS rfl rfl ?_
            clear hf; intro a hf
            refine ⟨hT, ?_⟩
            refine any_one (i := 5) rfl (by kernel_rfl) (st_rd hf (Wn.none rfl) (rd_load1 hf rfl rfl ag5 (by intro _ h; exact (h.slOfRw (by repeat (first | exact Sel.head | apply Sel.tail))).get (bvs_get hg1))) hS rfl rfl ?_)
            clear hf; intro a hf
            refine ⟨hT, ?_⟩
            refine any_take (i := 9) hf rfl (by kernel_rfl) (by kernel_rfl) (by kernel_rfl) (fun _ _ _ h => h) (Wn.none rfl) (rd_xor hf rfl rfl rfl (n8_xor _ _ rfl)) hT rfl rfl ?_
            clear hf; intro a hf
            refine any_take (i := 10) hf rfl (by kernel_rfl) (by kernel_rfl) (by kernel_rfl) (fun _ _ _ h => h) (Wn.none rfl) ((by first | exact rd_indexAddrN1 hf rfl rfl rfl Try.underlying38 sz5 (by omega) | exact rd_indexAddr hf rfl rfl rfl Try.underlying38 sz5 (by first | decide | omega) (by omega))) hT rfl rfl ?_
            clear hf; intro a hf
            refine any_one (i := 11) rfl (by kernel_rfl) (st_storeRw hf (Wn.none rfl) hS rfl rfl rfl (by rfl) sz5 (by rfl) (by repeat (first | exact Sel.head | apply Sel.tail)) (by omega) rfl ?_)
            clear hf hS; intro a w hf hS
            replace hT := hS.sub' hT (by repeat (first | exact Sub.refl | exact Sub.none | exact Sub.behind | (apply Sub.cons; (focus ((repeat (first | exact Sel.head | apply Sel.tail)); done))) | apply Sub.skip))
            refine ⟨hT, ?_⟩
            refine any_done (by kernel_rfl) ?_
            refine b_normal ?_
            refine t_normal ?_
            refine c_region ?_
            refine step_l (st_rd hf (Wn.none rfl) (rd_move hf rfl rfl) hS rfl rfl ?_)
            clear hf; intro a hf
            refine step_l (st_rd hf (Wn.none rfl) (rd_add hf rfl rfl rfl (by first | exact Go.IntWalk.i64_in _ (by omega) | exact rfl)) hS rfl rfl ?_)
            clear hf; intro a hf
            refine step_l (st_rd hf (Wn.none rfl) (rd_assign hf rfl rfl) hS rfl rfl ?_)
            clear hf; intro a hf
            refine done_l ?_
            refine t_normal ⟨(i + 1, cs.set (A + i) (c1 ^^^ c2)), ((hf.back (by repeat (first | exact Behind.refl | refine Behind.skip rfl ?_)) hk0).kb hf 12 rfl (by first | rfl | exact int_eq (by omega))), ⟨(by rw [bvs_set]; exact hS.sub (by repeat (first | exact Sub.refl | exact Sub.none | exact Sub.behind | (apply Sub.cons; (focus ((repeat (first | exact Sel.head | apply Sel.tail)); done))) | apply Sub.skip))), ⟨by omega, by rw [List.length_set]; exact hl, by rw [take_set_ge (by omega)]; exact ht, by rw [drop_set_lt (by omega)]; exact hd⟩⟩, by first | omega | (simp only []; omega)⟩
        · clear hf; intro hc9 a hf
          refine step_l (st_rd hf (Wn.none rfl) (rd_pick_t hf rfl rfl rfl) hS rfl rfl ?_)
          clear hf; intro a hf
          refine done_l ?_
          refine t_normal ?_
          refine c_false hf rfl ?_
          refine c_exit ?_
          refine t_exit ?_
          refine t_exit ?_
          refine b_exit ?_
          refine t_normal ?_
          refine c_seq ?_
          refine any_begin (S := Sat W (Rw 5 1 pA b.length capA (bvs cs) :: R)) mixed (hS.drew.sub (by repeat (first | exact Sub.refl | exact Sub.none | exact Sub.behind | (apply Sub.cons; (focus ((repeat (first | exact Sel.head | apply Sel.tail)); done))) | apply Sub.skip))) ?_
          have hT : Sat W (Rw 5 1 pA b.length capA (bvs cs) :: R) _ := hS.drew.sub (by repeat (first | exact Sub.refl | exact Sub.none | exact Sub.behind | (apply Sub.cons; (focus ((repeat (first | exact Sel.head | apply Sel.tail)); done))) | apply Sub.skip))
          replace hS := hS.drew
          refine any_take (i := 1) hf rfl (by kernel_rfl) (by kernel_rfl) (by kernel_rfl) (fun _ _ _ h => h) (Wn.none rfl) (rd_move hf rfl rfl) hT rfl rfl ?_
          clear hf; intro a hf
          refine any_take (i := 4) hf rfl (by kernel_rfl) (by kernel_rfl) (by kernel_rfl) (fun _ _ _ h => h) (Wn.none rfl) (rd_move hf rfl rfl) hT rfl rfl ?_
          clear hf; intro a hf
          refine any_take (i := 7) hf rfl (by kernel_rfl) (by kernel_rfl) (by kernel_rfl) (fun _ _ _ h => h) (Wn.none rfl) (rd_move hf rfl rfl) hT rfl rfl ?_
          clear hf; intro a hf
          refine any_take (i := 8) hf rfl (by kernel_rfl) (by kernel_rfl) (by kernel_rfl) (fun _ _ _ h => h) (Wn.none rfl) (rd_str hf rfl rfl Try.underlying38 Try.underlying9 Try.underlying5 (by intro _ h; first | exact h.slOfRw (by repeat (first | exact Sel.head | apply Sel.tail)) | exact h.slOfBlkPre (by repeat (first | exact Sel.head | apply Sel.tail)) (bvs_len1 _) | exact hvb _ (h.sub (by repeat (first | exact Sub.refl | exact Sub.none | exact Sub.behind | (apply Sub.cons; (focus ((repeat (first | exact Sel.head | apply Sel.tail)); done))) | apply Sub.skip))))) hT rfl rfl ?_
          clear hf; intro a hf
          refine any_take (i := 9) hf rfl (by kernel_rfl) (by kernel_rfl) (by kernel_rfl) (fun _ _ _ h => h) (Wn.none rfl) (rd_move hf rfl rfl) hT rfl rfl ?_
          clear hf; intro a hf
          refine any_take (i := 10) hf rfl (by kernel_rfl) (by kernel_rfl) (by kernel_rfl) (fun _ _ _ h => h) (Wn.none rfl) (rd_str hf rfl rfl Try.underlying38 Try.underlying9 Try.underlying5 (by intro _ h; first | exact h.slOfRw (by repeat (first | exact Sel.head | apply Sel.tail)) | exact h.slOfBlkPre (by repeat (first | exact Sel.head | apply Sel.tail)) (bvs_len1 _) | exact hvb _ (h.sub (by repeat (first | exact Sub.refl | exact Sub.none | exact Sub.behind | (apply Sub.cons; (focus ((repeat (first | exact Sel.head | apply Sel.tail)); done))) | apply Sub.skip))))) hT rfl rfl ?_
          clear hf; intro a hf
          refine any_take (i := 11) hf rfl (by kernel_rfl) (by kernel_rfl) (by kernel_rfl) (fun _ _ _ h => h) (Wn.none rfl) (rd_eqlS hf rfl rfl rfl) hT rfl rfl ?_
          clear hf; intro a hf
          refine any_one (i := 0) rfl (by kernel_rfl) (st_call hf (Wn.none rfl) rfl rfl rfl fn11 (Poly_c hS) rfl rfl ?_)
          clear hf hS; rintro v a w ⟨pt_10, rfl, hS⟩ hf
          replace hT := hS.sub' hT (by repeat (first | exact Sub.refl | exact Sub.none | exact Sub.behind | (apply Sub.cons; (focus ((repeat (first | exact Sel.head | apply Sel.tail)); done))) | apply Sub.skip))
          refine ⟨hT, ?_⟩
          refine any_one (i := 2) rfl (by kernel_rfl) (st_call hf (Wn.none rfl) rfl rfl rfl fn23 (SumP_c _ _ b _ _ _ (hS.sel (by repeat (first | exact Sel.head | apply Sel.tail))) rfl (by omega) (fun _ h => hvb _ (h.sub (by repeat (first | exact Sub.refl | exact Sub.none | exact Sub.behind | (apply Sub.cons; (focus ((repeat (first | exact Sel.head | apply Sel.tail)); done))) | apply Sub.skip))))) rfl rfl ?_)
          clear hf hS; rintro v a w ⟨rfl, ds_11, hS⟩ hf
          replace hT := hS.sub' hT (by repeat (first | exact Sub.refl | exact Sub.none | exact Sub.behind | (apply Sub.cons; (focus ((repeat (first | exact Sel.head | apply Sel.tail)); done))) | apply Sub.skip))
          refine ⟨hT, ?_⟩
          refine any_one (i := 3) rfl (by kernel_rfl) (st_call hf (Wn.none rfl) rfl rfl rfl fn11 (Poly_c hS) rfl rfl ?_)
          clear hf hS; rintro v a w ⟨pt_12, rfl, hS⟩ hf
          replace hT := hS.sub' hT (by repeat (first | exact Sub.refl | exact Sub.none | exact Sub.behind | (apply Sub.cons; (focus ((repeat (first | exact Sel.head | apply Sel.tail)); done))) | apply Sub.skip))
          refine ⟨hT, ?_⟩
          refine any_one (i := 5) rfl (by kernel_rfl) (st_call hf (Wn.none rfl) rfl rfl rfl fn23 (SumP_c _ _ cs _ _ _ (hS.sel (by repeat (first | exact Sel.head | apply Sel.tail))) hl (by omega) (fun _ h => (by rw [← hl]; exact h.slOfRw (by repeat (first | exact Sel.head | apply Sel.tail))))) rfl rfl ?_)
          clear hf hS; rintro v a w ⟨rfl, ds_13, hS⟩ hf
          replace hT := hS.sub' hT (by repeat (first | exact Sub.refl | exact Sub.none | exact Sub.behind | (apply Sub.cons; (focus ((repeat (first | exact Sel.head | apply Sel.tail)); done))) | apply Sub.skip))
          refine ⟨hT, ?_⟩
          refine any_take (i := 6) hf rfl (by kernel_rfl) (by kernel_rfl) (by kernel_rfl) (fun _ _ _ h => h) (Wn.none rfl) (rd_eql hf rfl rfl rfl) hT rfl rfl ?_
          clear hf; intro a hf
          refine any_takeB (i := 12) hf rfl (by kernel_rfl) (by kernel_rfl) (by kernel_rfl) (fun _ _ _ _ h => h) (Wn.none rfl) (rd_eqlBool hf rfl rfl rfl Try.underlying4) hT rfl rfl ?_ ?_
          · clear hf; intro hc14 a hf
            refine any_take (i := 13) hf rfl (by kernel_rfl) (by kernel_rfl) (by kernel_rfl) (fun _ _ _ h => h) (Wn.none rfl) (rd_move hf rfl rfl) hT rfl rfl ?_
            clear hf; intro a hf
            refine any_one (i := 14) rfl (by kernel_rfl) (st_call hf (Wn.some hf rfl rfl rfl rfl) rfl rfl rfl fn15 (awake_c hS) rfl rfl ?_)
            clear hf hS; rintro v a w ⟨rfl, hS⟩ hf
            replace hT := hS.sub' hT (by repeat (first | exact Sub.refl | exact Sub.none | exact Sub.behind | (apply Sub.cons; (focus ((repeat (first | exact Sel.head | apply Sel.tail)); done))) | apply Sub.skip))
            refine ⟨hT, ?_⟩
            refine any_take (i := 15) hf rfl (by kernel_rfl) (by kernel_rfl) (by kernel_rfl) (fun _ _ _ h => h) (Wn.none rfl) (rd_pick_t hf rfl rfl rfl) hT rfl rfl ?_
            clear hf; intro a hf
            refine any_take (i := 16) hf rfl (by kernel_rfl) (by kernel_rfl) (by kernel_rfl) (fun _ _ _ h => h) (Wn.none rfl) (rd_assign hf rfl rfl) hT rfl rfl ?_
            clear hf; intro a hf
            refine any_done (by kernel_rfl) ?_
            refine t_normal ?_
            refine c_ret ?_
            refine e_res1 hf.defers rfl (res_tmp hf rfl .nil) ?_
            exact ⟨rfl, hS.sub (by repeat (first | exact Sub.refl | exact Sub.none | exact Sub.behind | (apply Sub.cons; (focus ((repeat (first | exact Sel.head | apply Sel.tail)); done))) | apply Sub.skip))⟩
          · clear hf; intro hc14 a hf
            exact absurd (decide_eq_decide.2 (b32_inj.trans (crc_tells hl ht hd))) hc14
      · clear hf; intro hc8 a hf
        refine step_l (st_rd hf (Wn.none rfl) (rd_move hf rfl rfl) hS rfl rfl ?_)
        clear hf; intro a hf
        refine step_l (st_skip hf (Wn.some hf rfl rfl rfl rfl) rfl rfl ?_)
        clear hf; intro a hf
        refine step_l (st_skip hf (Wn.some hf rfl rfl rfl rfl) rfl rfl ?_)
        clear hf; intro a hf
        refine step_l (st_skip hf (Wn.some hf rfl rfl rfl rfl) rfl rfl ?_)
        clear hf; intro a hf
        refine step_l (st_skip hf (Wn.some hf rfl rfl rfl rfl) rfl rfl ?_)
        clear hf; intro a hf
        refine step_l (st_skip hf (Wn.some hf rfl rfl rfl rfl) rfl rfl ?_)
        clear hf; intro a hf
        refine step_l (st_skip hf (Wn.some hf rfl rfl rfl rfl) rfl rfl ?_)
        clear hf; intro a hf
        refine step_l (st_rd hf (Wn.none rfl) (rd_pick_f hf rfl rfl rfl) hS rfl rfl ?_)
        clear hf; intro a hf
        refine done_l ?_
        refine t_normal ?_
        refine c_false hf rfl ?_
        refine c_exit ?_
        refine t_exit ?_
        refine t_exit ?_
        refine b_exit ?_
        refine t_normal ?_
        refine c_seq ?_
        refine any_begin (S := Sat W (Rw 5 1 pA b.length capA (bvs cs) :: R)) mixed (hS.drew.sub (by repeat (first | exact Sub.refl | exact Sub.none | exact Sub.behind | (apply Sub.cons; (focus ((repeat (first | exact Sel.head | apply Sel.tail)); done))) | apply Sub.skip))) ?_
        have hT : Sat W (Rw 5 1 pA b.length capA (bvs cs) :: R) _ := hS.drew.sub (by repeat (first | exact Sub.refl | exact Sub.none | exact Sub.behind | (apply Sub.cons; (focus ((repeat (first | exact Sel.head | apply Sel.tail)); done))) | apply Sub.skip))
        replace hS := hS.drew
        refine any_take (i := 1) hf rfl (by kernel_rfl) (by kernel_rfl) (by kernel_rfl) (fun _ _ _ h => h) (Wn.none rfl) (rd_move hf rfl rfl) hT rfl rfl ?_
        clear hf; intro a hf
        refine any_take (i := 4) hf rfl (by kernel_rfl) (by kernel_rfl) (by kernel_rfl) (fun _ _ _ h => h) (Wn.none rfl) (rd_move hf rfl rfl) hT rfl rfl ?_
        clear hf; intro a hf
        refine any_take (i := 7) hf rfl (by kernel_rfl) (by kernel_rfl) (by kernel_rfl) (fun _ _ _ h => h) (Wn.none rfl) (rd_move hf rfl rfl) hT rfl rfl ?_
        clear hf; intro a hf
        refine any_take (i := 8) hf rfl (by kernel_rfl) (by kernel_rfl) (by kernel_rfl) (fun _ _ _ h => h) (Wn.none rfl) (rd_str hf rfl rfl Try.underlying38 Try.underlying9 Try.underlying5 (by intro _ h; first | exact h.slOfRw (by repeat (first | exact Sel.head | apply Sel.tail)) | exact h.slOfBlkPre (by repeat (first | exact Sel.head | apply Sel.tail)) (bvs_len1 _) | exact hvb _ (h.sub (by repeat (first | exact Sub.refl | exact Sub.none | exact Sub.behind | (apply Sub.cons; (focus ((repeat (first | exact Sel.head | apply Sel.tail)); done))) | apply Sub.skip))))) hT rfl rfl ?_
        clear hf; intro a hf
        refine any_take (i := 9) hf rfl (by kernel_rfl) (by kernel_rfl) (by kernel_rfl) (fun _ _ _ h => h) (Wn.none rfl) (rd_move hf rfl rfl) hT rfl rfl ?_
        clear hf; intro a hf
        refine any_take (i := 10) hf rfl (by kernel_rfl) (by kernel_rfl) (by kernel_rfl) (fun _ _ _ h => h) (Wn.none rfl) (rd_str hf rfl rfl Try.underlying38 Try.underlying9 Try.underlying5 (by intro _ h; first | exact h.slOfRw (by repeat (first | exact Sel.head | apply Sel.tail)) | exact h.slOfBlkPre (by repeat (first | exact Sel.head | apply Sel.tail)) (bvs_len1 _) | exact hvb _ (h.sub (by repeat (first | exact Sub.refl | exact Sub.none | exact Sub.behind | (apply Sub.cons; (focus ((repeat (first | exact Sel.head | apply Sel.tail)); done))) | apply Sub.skip))))) hT rfl rfl ?_
        clear hf; intro a hf
        refine any_take (i := 11) hf rfl (by kernel_rfl) (by kernel_rfl) (by kernel_rfl) (fun _ _ _ h => h) (Wn.none rfl) (rd_eqlS hf rfl rfl rfl) hT rfl rfl ?_
        clear hf; intro a hf
        refine any_one (i := 0) rfl (by kernel_rfl) (st_call hf (Wn.none rfl) rfl rfl rfl fn11 (Poly_c hS) rfl rfl ?_)
        clear hf hS; rintro v a w ⟨pt_15, rfl, hS⟩ hf
        replace hT := hS.sub' hT (by repeat (first | exact Sub.refl | exact Sub.none | exact Sub.behind | (apply Sub.cons; (focus ((repeat (first | exact Sel.head | apply Sel.tail)); done))) | apply Sub.skip))
        refine ⟨hT, ?_⟩
        refine any_one (i := 2) rfl (by kernel_rfl) (st_call hf (Wn.none rfl) rfl rfl rfl fn23 (SumP_c _ _ b _ _ _ (hS.sel (by repeat (first | exact Sel.head | apply Sel.tail))) rfl (by omega) (fun _ h => hvb _ (h.sub (by repeat (first | exact Sub.refl | exact Sub.none | exact Sub.behind | (apply Sub.cons; (focus ((repeat (first | exact Sel.head | apply Sel.tail)); done))) | apply Sub.skip))))) rfl rfl ?_)
        clear hf hS; rintro v a w ⟨rfl, ds_16, hS⟩ hf
        replace hT := hS.sub' hT (by repeat (first | exact Sub.refl | exact Sub.none | exact Sub.behind | (apply Sub.cons; (focus ((repeat (first | exact Sel.head | apply Sel.tail)); done))) | apply Sub.skip))
        refine ⟨hT, ?_⟩
        refine any_one (i := 3) rfl (by kernel_rfl) (st_call hf (Wn.none rfl) rfl rfl rfl fn11 (Poly_c hS) rfl rfl ?_)
        clear hf hS; rintro v a w ⟨pt_17, rfl, hS⟩ hf
        replace hT := hS.sub' hT (by repeat (first | exact Sub.refl | exact Sub.none | exact Sub.behind | (apply Sub.cons; (focus ((repeat (first | exact Sel.head | apply Sel.tail)); done))) | apply Sub.skip))
        refine ⟨hT, ?_⟩
        refine any_one (i := 5) rfl (by kernel_rfl) (st_call hf (Wn.none rfl) rfl rfl rfl fn23 (SumP_c _ _ cs _ _ _ (hS.sel (by repeat (first | exact Sel.head | apply Sel.tail))) hl (by omega) (fun _ h => (by rw [← hl]; exact h.slOfRw (by repeat (first | exact Sel.head | apply Sel.tail))))) rfl rfl ?_)
        clear hf hS; rintro v a w ⟨rfl, ds_18, hS⟩ hf
        replace hT := hS.sub' hT (by repeat (first | exact Sub.refl | exact Sub.none | exact Sub.behind | (apply Sub.cons; (focus ((repeat (first | exact Sel.head | apply Sel.tail)); done))) | apply Sub.skip))
        refine ⟨hT, ?_⟩
        refine any_take (i := 6) hf rfl (by kernel_rfl) (by kernel_rfl) (by kernel_rfl) (fun _ _ _ h => h) (Wn.none rfl) (rd_eql hf rfl rfl rfl) hT rfl rfl ?_
        clear hf; intro a hf
        refine any_takeB (i := 12) hf rfl (by kernel_rfl) (by kernel_rfl) (by kernel_rfl) (fun _ _ _ _ h => h) (Wn.none rfl) (rd_eqlBool hf rfl rfl rfl Try.underlying4) hT rfl rfl ?_ ?_
        · clear hf; intro hc19 a hf
          refine any_take (i := 13) hf rfl (by kernel_rfl) (by kernel_rfl) (by kernel_rfl) (fun _ _ _ h => h) (Wn.none rfl) (rd_move hf rfl rfl) hT rfl rfl ?_
          clear hf; intro a hf
          refine any_one (i := 14) rfl (by kernel_rfl) (st_call hf (Wn.some hf rfl rfl rfl rfl) rfl rfl rfl fn15 (awake_c hS) rfl rfl ?_)
          clear hf hS; rintro v a w ⟨rfl, hS⟩ hf
          replace hT := hS.sub' hT (by repeat (first | exact Sub.refl | exact Sub.none | exact Sub.behind | (apply Sub.cons; (focus ((repeat (first | exact Sel.head | apply Sel.tail)); done))) | apply Sub.skip))
          refine ⟨hT, ?_⟩
          refine any_take (i := 15) hf rfl (by kernel_rfl) (by kernel_rfl) (by kernel_rfl) (fun _ _ _ h => h) (Wn.none rfl) (rd_pick_t hf rfl rfl rfl) hT rfl rfl ?_
          clear hf; intro a hf
          refine any_take (i := 16) hf rfl (by kernel_rfl) (by kernel_rfl) (by kernel_rfl) (fun _ _ _ h => h) (Wn.none rfl) (rd_assign hf rfl rfl) hT rfl rfl ?_
          clear hf; intro a hf
          refine any_done (by kernel_rfl) ?_
          refine t_normal ?_
          refine c_ret ?_
          refine e_res1 hf.defers rfl (res_tmp hf rfl .nil) ?_
          exact ⟨rfl, hS.sub (by repeat (first | exact Sub.refl | exact Sub.none | exact Sub.behind | (apply Sub.cons; (focus ((repeat (first | exact Sel.head | apply Sel.tail)); done))) | apply Sub.skip))⟩
        · clear hf; intro hc19 a hf
          exact absurd (decide_eq_decide.2 (b32_inj.trans (crc_tells hl ht hd))) hc19

end Go.Proofs.Ytmjfmcgpmlfnbaa
