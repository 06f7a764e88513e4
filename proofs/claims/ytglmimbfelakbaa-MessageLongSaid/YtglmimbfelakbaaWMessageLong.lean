/-
  The statement MessageLong, walked.
  Conditions: none.
-/
import Derived.Test.YtglmimbfelakbaaOwn1
import Derived.Test.YtglmimbfelakbaaREnc1
namespace Go.Proofs.Ytglmimbfelakbaa
open Go Go.Sl
set_option linter.unusedVariables false
set_option linter.unusedSimpArgs false
theorem fn11 : fnB Try.prog 11 = true := by kernel_rfl
theorem fn18 : fnB Try.prog 18 = true := by kernel_rfl
theorem fn9 : fnB Try.prog 9 = true := by kernel_rfl
theorem pl37 : placesO Try.prog 37 = some [(0, 1), (1, 1), (2, 1), (3, 1), (4, 1), (5, 1), (6, 1), (7, 1)] := by kernel_rfl
theorem pl40 : placesO Try.prog 40 = some [(0, 8), (8, 1)] := by kernel_rfl
theorem pl42 : placesO Try.prog 42 = some [(0, 1), (1, 1)] := by kernel_rfl
theorem pl44 : placesO Try.prog 44 = some [(0, 2), (2, 1), (3, 1)] := by kernel_rfl
theorem pl46 : placesO Try.prog 46 = some [(0, 1), (1, 9)] := by kernel_rfl
theorem zr37 : (Try.prog.info? 37).bind (·.zero) = some (.agg #[.int .i64 0, .int .i64 0, .int .i64 0, .int .i64 0, .int .i64 0, .int .i64 0, .int .i64 0, .int .i64 0]) := by kernel_rfl
theorem zr40 : (Try.prog.info? 40).bind (·.zero) = some (.agg #[.int .i64 0, .int .i64 0, .int .i64 0, .int .i64 0, .int .i64 0, .int .i64 0, .int .i64 0, .int .i64 0, .slice none 0 0]) := by kernel_rfl
theorem DecLong_c (n : Nat) (q : Option Addr) (c : Nat) {W : World} {R : List HP} {w : World} (hS : Sat W (R) w) (hb : n > 60000) : Calls Try.prog 18 [.slice q n c].toArray w (Ret fun v w' => v = .tuple #[.agg #[.int .i64 0, .int .i64 0, .int .i64 0, .int .i64 0, .int .i64 0, .string ⟨#[]⟩, .int .i64 0, .slice none 0 0, .slice none 0 0, .slice none 0 0], .int .i64 4] ∧ Sat W R w') := by
  refine fn_start 32 Try.func18 rfl rfl rfl ?_
  intro a hf
  refine c_seq ?_
  refine c_region ?_
  refine step_l (st_alloc hf (Wn.none rfl) hS rfl zr26 (by rfl) rfl rfl ?_)
  clear hf hS; intro b_r a w hf hS
  refine step_l (st_rd hf (Wn.none rfl) (rd_assign hf rfl rfl) hS rfl rfl ?_)
  clear hf; intro a hf
  refine done_l ?_
  refine t_normal ?_
  refine c_seq ?_
  refine c_seq ?_
  refine c_region ?_
  refine step_l (st_rd hf (Wn.none rfl) (rd_move hf rfl rfl) hS rfl rfl ?_)
  clear hf; intro a hf
  refine step_l (st_rd hf (Wn.none rfl) (rd_len hf rfl rfl Try.underlying29) hS rfl rfl ?_)
  clear hf; intro a hf
  refine step_l (st_rdB hf (Wn.none rfl) (rd_gtr hf rfl rfl rfl) hS rfl rfl ?_ ?_)
  · clear hf; intro hc2 a hf
    refine done_l ?_
    refine t_normal ?_
    refine c_true hf rfl ?_
    refine c_seq ?_
    refine c_region ?_
    refine step_l (st_rd hf (Wn.none rfl) (rd_build hf rfl rfl zr26 (by rfl) pl26 .nil) hS rfl rfl ?_)
    clear hf; intro a hf
    refine step_l (st_store hf (Wn.none rfl) hS rfl rfl rfl (by rfl) sz26 (by rfl) (by rfl) (by repeat (first | exact Sel.head | apply Sel.tail)) (by repeat (first | exact Put.nil | apply Put.cons | apply Put.succ)) rfl ?_)
    clear hf hS; intro a w hf hS
    refine step_l (st_rd hf (Wn.none rfl) (rd_assign hf rfl rfl) hS rfl rfl ?_)
    clear hf; intro a hf
    refine done_l ?_
    refine t_normal ?_
    refine c_ret ?_
    refine t_ret ?_
    refine e_resN hf.defers rfl (res_cellN hf rfl ag26 sz26 hS (by repeat (first | exact Sel.head | apply Sel.tail)) (by repeat (first | exact Seg.nil | apply Seg.cons | apply Seg.succ)) (res_tmp hf rfl .nil)) ?_
    refine ⟨?_, hS.sub (by repeat (first | exact Sub.refl | exact Sub.none | exact Sub.behind | (apply Sub.cons; (focus ((repeat (first | exact Sel.head | apply Sel.tail)); done))) | apply Sub.skip))⟩
    clear hf hS
    rfl
  clear hf; intro hc2 a hf
  exact absurd (by omega) hc2

set_option maxRecDepth 100000 in
set_option maxHeartbeats 4000000 in
theorem MessageLong_c (n0 m0 : Int) {W : World} {R : List HP} {w : World} (hS : Sat W (R) w)  : Calls Try.prog 7 [.int .i64 n0, .int .i64 m0].toArray w (Ret fun v w' => v = .bool true ∧ Sat W R w') := by
  refine fn_start 92 Try.func7 rfl rfl rfl ?_
  intro a hf
  refine c_seq ?_
  refine c_region ?_
  refine step_l (st_rd hf (Wn.none rfl) (rd_assign hf rfl rfl) hS rfl rfl ?_)
  clear hf; intro a hf
  refine done_l ?_
  refine t_normal ?_
  refine c_seq ?_
  refine c_region ?_
  refine step_l (st_rd hf (Wn.none rfl) (rd_move hf rfl rfl) hS rfl rfl ?_)
  clear hf; intro a hf
  refine step_l (st_rd hf (Wn.none rfl) (rd_convInt hf rfl rfl Try.underlying3 Try.underlying35 rfl) hS rfl rfl ?_)
  clear hf; intro a hf
  refine step_l (st_rd hf (Wn.none rfl) (rd_rem hf rfl rfl rfl (by first | decide | omega) rfl) hS rfl rfl ?_)
  clear hf; intro a hf
  refine step_l (st_rd hf (Wn.none rfl) (rd_convInt hf rfl rfl Try.underlying35 Try.underlying3 (by first | exact Go.IntWalk.i64_in _ (by omega) | exact rfl)) hS rfl rfl ?_)
  clear hf; intro a hf
  refine step_l (st_rd hf (Wn.none rfl) (rd_add hf rfl rfl rfl (by first | exact Go.IntWalk.i64_in _ (by omega) | exact rfl)) hS rfl rfl ?_)
  clear hf; intro a hf
  refine step_l (st_rd hf (Wn.none rfl) (rd_move hf rfl rfl) hS rfl rfl ?_)
  clear hf; intro a hf
  refine step_l (st_rd hf (Wn.none rfl) (rd_convInt hf rfl rfl Try.underlying3 Try.underlying35 rfl) hS rfl rfl ?_)
  clear hf; intro a hf
  refine step_l (st_rd hf (Wn.none rfl) (rd_rem hf rfl rfl rfl (by first | decide | omega) rfl) hS rfl rfl ?_)
  clear hf; intro a hf
  refine step_l (st_rd hf (Wn.none rfl) (rd_convInt hf rfl rfl Try.underlying35 Try.underlying3 (by first | exact Go.IntWalk.i64_in _ (by omega) | exact rfl)) hS rfl rfl ?_)
  clear hf; intro a hf
  refine step_l (st_rd hf (Wn.none rfl) (rd_add hf rfl rfl rfl (by first | exact Go.IntWalk.i64_in _ (by omega) | exact rfl)) hS rfl rfl ?_)
  clear hf; intro a hf
  refine step_l (st_rd hf (Wn.none rfl) (rd_assign hf rfl rfl) hS rfl rfl ?_)
  clear hf; intro a hf
  refine step_l (st_rd hf (Wn.none rfl) (rd_assign hf rfl rfl) hS rfl rfl ?_)
  clear hf; intro a hf
  refine done_l ?_
  obtain ⟨n, hdn, hxn, hen⟩ := wrap_tmod n0 8 16 (by decide) (by decide); rw [hen] at hf; obtain ⟨sz, hdsz, hxsz, hesz⟩ := wrap_tmod m0 20 180 (by decide) (by decide); rw [hesz] at hf
  refine t_normal ?_
  refine c_seq ?_
  refine c_region ?_
  refine step_l (st_rd hf (Wn.none rfl) (rd_build hf rfl rfl zr26 (by rfl) pl26 (.cons rfl (by first | rfl) (by rfl) (by repeat (first | exact Put.nil | apply Put.cons | apply Put.succ)) (.cons rfl (by first | rfl) (by rfl) (by repeat (first | exact Put.nil | apply Put.cons | apply Put.succ)) .nil))) hS rfl rfl ?_)
  clear hf; intro a hf
  refine step_l (st_alloc hf (Wn.none rfl) hS rfl zr26 (by rfl) rfl rfl ?_)
  clear hf hS; intro b_m a w hf hS
  refine step_l (st_store hf (Wn.none rfl) hS rfl rfl rfl (by rfl) sz26 (by rfl) (by rfl) (by repeat (first | exact Sel.head | apply Sel.tail)) (by repeat (first | exact Put.nil | apply Put.cons | apply Put.succ)) rfl ?_)
  clear hf hS; intro a w hf hS
  refine done_l ?_
  refine t_normal ?_
  refine c_seq ?_
  refine c_seq ?_
  refine c_region ?_
  refine step_l (st_rd hf (Wn.none rfl) (rd_move hf rfl rfl) hS rfl rfl ?_)
  clear hf; intro a hf
  refine step_l (st_rd hf (Wn.none rfl) (rd_move hf rfl rfl) hS rfl rfl ?_)
  clear hf; intro a hf
  refine done_l ?_
  refine t_normal ?_
  refine c_block ?_
  have hk0 := Keep.of hf [(6, 8), (27, 59)] (by repeat (first | exact Keep.nil | apply Keep.drop rfl | apply Keep.take rfl))
  refine c_loopK hk0 (α := Nat × Option Addr × Nat × List EntT) (fun ⟨k, q, c, L⟩ => [(27, .int .i64 (k : Nat))]) (fun ⟨k, q, c, L⟩ w => Sat W (Rw 46 10 q L.length c (L.flatMap entC) :: AllG (fun e : EntT => ValR 44 5 e.2.1.2.1) L :: Blk b_m [.int .i64 1, .int .i64 1, .int .i64 0, .int .i64 0, .int .i64 0, .string ⟨#[]⟩, .int .i64 0, .slice q L.length c, .slice none 0 0, .slice none 0 0] 26 :: R) w ∧ k ≤ n ∧ L.length = k ∧ okL L) (fun ⟨k, q, c, L⟩ => n - k) (0, none, 0, []) ((hf.keep hk0).kb hf 27 rfl (by first | rfl | exact int_eq (by omega))) ⟨((hS.allNil (fun e : EntT => ValR 44 5 e.2.1.2.1)).rwNil 46 10).sub (by repeat (first | exact Sub.refl | exact Sub.none | exact Sub.behind | (apply Sub.cons; (focus ((repeat (first | exact Sel.head | apply Sel.tail)); done))) | apply Sub.skip)), ⟨by omega, rfl, fun e he => by cases he⟩⟩ ?_
  clear hf hS; rintro ⟨k, q, c, L⟩ a w hf ⟨hS, ⟨hk, hlk, hokl⟩⟩; (try dsimp only [List.cons_append, List.nil_append] at hf)
  refine c_seq ?_
  refine c_region ?_
  refine step_l (st_rdB hf (Wn.none rfl) (rd_lss hf rfl rfl rfl) hS rfl rfl ?_ ?_)
  · clear hf; intro hc2 a hf
    refine done_l ?_
    refine t_normal ?_
    refine c_seq ?_
    refine c_true hf rfl ?_
    refine c_skip ?_
    refine t_normal ?_
    refine c_seq ?_
    refine c_block ?_
    refine c_seq ?_
    refine c_region ?_
    refine step_l (st_rd hf (Wn.none rfl) (rd_move hf rfl rfl) hS rfl rfl ?_)
    clear hf; intro a hf
    refine step_l (st_rd hf (Wn.none rfl) (rd_assign hf rfl rfl) hS rfl rfl ?_)
    clear hf; intro a hf
    refine done_l ?_
    refine t_normal ?_
    refine c_seq ?_
    refine c_region ?_
    refine step_l (st_rd hf (Wn.none rfl) (rd_build hf rfl rfl zr37 (by rfl) pl37 (.cons rfl (by first | rfl) (by rfl) (by repeat (first | exact Put.nil | apply Put.cons | apply Put.succ)) .nil)) hS rfl rfl ?_)
    clear hf; intro a hf
    refine step_l (st_rd hf (Wn.none rfl) (rd_build hf rfl rfl zr40 (by rfl) pl40 (.cons rfl (by first | rfl) (by rfl) (by repeat (first | exact Put.nil | apply Put.cons | apply Put.succ)) .nil)) hS rfl rfl ?_)
    clear hf; intro a hf
    refine step_l (st_alloc hf (Wn.none rfl) hS rfl zr40 (by rfl) rfl rfl ?_)
    clear hf hS; intro b_s a w hf hS
    refine step_l (st_store hf (Wn.none rfl) hS rfl rfl rfl (by rfl) sz40 (by rfl) (by rfl) (by repeat (first | exact Sel.head | apply Sel.tail)) (by repeat (first | exact Put.nil | apply Put.cons | apply Put.succ)) rfl ?_)
    clear hf hS; intro a w hf hS
    refine done_l ?_
    refine t_normal ?_
    refine c_seq ?_
    refine c_seq ?_
    refine c_region ?_
    refine step_l (st_rd hf (Wn.none rfl) (rd_move hf rfl rfl) hS rfl rfl ?_)
    clear hf; intro a hf
    refine done_l ?_
    refine t_normal ?_
    refine c_block ?_
    have hk1 := Keep.of hf [(8, 8), (32, 46)] (by repeat (first | exact Keep.nil | apply Keep.drop rfl | apply Keep.take rfl))
    refine c_loopK hk1 (α := Nat × Option Addr × Nat × List ValT) (fun ⟨j, qv, cv, V⟩ => [(32, .int .i64 (j : Nat))]) (fun ⟨j, qv, cv, V⟩ w => Sat W (Rw 44 4 qv V.length cv (V.flatMap valC) :: Rws 5 (V.map (fun v : ValT => v.2.1)) :: Blk b_s [.int .i64 16, .int .i64 0, .int .i64 0, .int .i64 0, .int .i64 0, .int .i64 0, .int .i64 0, .int .i64 0, .slice qv V.length cv] 40 :: Rw 46 10 q L.length c (L.flatMap entC) :: AllG (fun e : EntT => ValR 44 5 e.2.1.2.1) L :: Blk b_m [.int .i64 1, .int .i64 1, .int .i64 0, .int .i64 0, .int .i64 0, .string ⟨#[]⟩, .int .i64 0, .slice q L.length c, .slice none 0 0, .slice none 0 0] 26 :: R) w ∧ j ≤ 16 ∧ V.length = j ∧ ∀ v ∈ V, v.2.1.2.2.length ≤ 200) (fun ⟨j, qv, cv, V⟩ => 16 - j) (0, none, 0, []) ((hf.keep hk1).kb hf 32 rfl (by first | rfl | exact int_eq (by omega))) ⟨((hS.rwsNil 5).rwNil 44 4).sub (by repeat (first | exact Sub.refl | exact Sub.none | exact Sub.behind | (apply Sub.cons; (focus ((repeat (first | exact Sel.head | apply Sel.tail)); done))) | apply Sub.skip)), ⟨by omega, rfl, fun e he => by cases he⟩⟩ ?_
    clear hf hS; rintro ⟨j, qv, cv, V⟩ a w hf ⟨hS, ⟨hj, hlj, hokv⟩⟩; (try dsimp only [List.cons_append, List.nil_append] at hf)
    refine c_seq ?_
    refine c_region ?_
    refine step_l (st_rdB hf (Wn.none rfl) (rd_lss hf rfl rfl rfl) hS rfl rfl ?_ ?_)
    · clear hf; intro hc4 a hf
      refine done_l ?_
      refine t_normal ?_
      refine c_seq ?_
      refine c_true hf rfl ?_
      refine c_skip ?_
      refine t_normal ?_
      refine c_seq ?_
      refine c_block ?_
      refine c_seq ?_
      refine c_region ?_
      refine step_l (st_rd hf (Wn.none rfl) (rd_move hf rfl rfl) hS rfl rfl ?_)
      clear hf; intro a hf
      refine step_l (st_rd hf (Wn.none rfl) (rd_assign hf rfl rfl) hS rfl rfl ?_)
      clear hf; intro a hf
      refine done_l ?_
      refine t_normal ?_
      refine any_begin (S := Sat W (R)) mixed (hS.drew.sub (by repeat (first | exact Sub.refl | exact Sub.none | exact Sub.behind | (apply Sub.cons; (focus ((repeat (first | exact Sel.head | apply Sel.tail)); done))) | apply Sub.skip))) ?_
      have hT : Sat W (R) _ := hS.drew.sub (by repeat (first | exact Sub.refl | exact Sub.none | exact Sub.behind | (apply Sub.cons; (focus ((repeat (first | exact Sel.head | apply Sel.tail)); done))) | apply Sub.skip))
      replace hS := hS.drew
      refine any_take (i := 0) hf rfl (by kernel_rfl) (by kernel_rfl) (by kernel_rfl) (fun _ _ _ h => h) (Wn.none rfl) (rd_fieldAddrB hf rfl rfl fb40_1 rfl) hT rfl rfl ?_
      clear hf; intro a hf
      refine any_take (i := 2) hf rfl (by kernel_rfl) (by kernel_rfl) (by kernel_rfl) (fun _ _ _ h => h) (Wn.none rfl) (rd_move hf rfl rfl) hT rfl rfl ?_
      clear hf; intro a hf
      refine any_take (i := 3) hf rfl (by kernel_rfl) (by kernel_rfl) (by kernel_rfl) (fun _ _ _ h => h) (Wn.none rfl) (rd_add hf rfl rfl rfl (by first | exact Go.IntWalk.i64_in _ (by omega) | exact rfl)) hT rfl rfl ?_
      clear hf; intro a hf
      refine any_take (i := 4) hf rfl (by kernel_rfl) (by kernel_rfl) (by kernel_rfl) (fun _ _ _ h => h) (Wn.none rfl) (rd_build hf rfl rfl zr42 (by rfl) pl42 (.cons rfl (by first | rfl) (by rfl) (by repeat (first | exact Put.nil | apply Put.cons | apply Put.succ)) (.cons rfl (by first | rfl) (by rfl) (by repeat (first | exact Put.nil | apply Put.cons | apply Put.succ)) .nil))) hT rfl rfl ?_
      clear hf; intro a hf
      refine any_take (i := 5) hf rfl (by kernel_rfl) (by kernel_rfl) (by kernel_rfl) (fun _ _ _ h => h) (Wn.none rfl) (rd_move hf rfl rfl) hT rfl rfl ?_
      clear hf; intro a hf
      refine any_two (i := 1) (j := 6) rfl rfl (by kernel_rfl) ?_ ?_
      · skip
        refine st_rd hf (Wn.none rfl) (rd_load1 hf rfl rfl ag38 (by intro _ h; first | exact h.cell (by repeat (first | exact Sel.head | apply Sel.tail)) (by rfl))) hS rfl rfl ?_
        clear hf; intro a hf
        refine ⟨hT, ?_⟩
        refine any_one (i := 6) rfl (by kernel_rfl) (st_make hf (Wn.none rfl) hS rfl rfl rfl Try.underlying29 tyb5 (by first | omega | decide) (by first | (simp only [maxLen]; omega) | decide) rfl rfl ?_)
        clear hf hS; intro b_5 a w hf hS; rw [made_bytes] at hS; generalize b_5 = bd at hf hS
        replace hT := hS.sub' hT (by repeat (first | exact Sub.refl | exact Sub.none | exact Sub.behind | (apply Sub.cons; (focus ((repeat (first | exact Sel.head | apply Sel.tail)); done))) | apply Sub.skip))
        refine ⟨hT, ?_⟩
        refine any_take (i := 7) hf rfl (by kernel_rfl) (by kernel_rfl) (by kernel_rfl) (fun _ _ _ h => h) (Wn.none rfl) (rd_build hf rfl rfl zr44 (by rfl) pl44 (.cons rfl (by first | rfl) (by rfl) (by repeat (first | exact Put.nil | apply Put.cons | apply Put.succ)) (.cons rfl (by first | rfl) (by rfl) (by repeat (first | exact Put.nil | apply Put.cons | apply Put.succ)) .nil))) hT rfl rfl ?_
        clear hf; intro a hf
        refine any_one (i := 8) rfl (by kernel_rfl) (st_buildSlice hf (Wn.none rfl) hS rfl rfl Try.underlying38 sz44 zr44 (by decide) bz44_1 rfl (.cons rfl (by first | rfl) (by rfl) (by repeat (first | exact Put.nil | apply Put.cons | apply Put.succ)) .nil) rfl rfl ?_)
        clear hf hS; intro b_6 a w hf hS
        replace hT := hS.sub' hT (by repeat (first | exact Sub.refl | exact Sub.none | exact Sub.behind | (apply Sub.cons; (focus ((repeat (first | exact Sel.head | apply Sel.tail)); done))) | apply Sub.skip))
        refine ⟨hT, ?_⟩
        refine any_one (i := 9) rfl (by kernel_rfl) (st_append hf (Wn.none rfl) rfl rfl rfl Try.underlying38 tyb44 (by rfl) (by decide) hS (by repeat (first | exact Sel.head | apply Sel.tail)) (by first | exact hS.slOfBlk (by repeat (first | exact Sel.head | apply Sel.tail)) (by rfl) | exact hS.slOfBlkPre (by repeat (first | exact Sel.head | apply Sel.tail)) (bvs_len1 _) | exact hS.slOfRw (by repeat (first | exact Sel.head | apply Sel.tail)) | exact SlAt.nil _ _ _) (by first | rfl | exact bvs_one _ | (simp [Value.oneCell']; done)) (by omega) rfl rfl ?_)
        clear hf hS; intro pA capA a w hf hS hnilA
        replace hT := hS.sub' hT (by repeat (first | exact Sub.refl | exact Sub.none | exact Sub.behind | (apply Sub.cons; (focus ((repeat (first | exact Sel.head | apply Sel.tail)); done))) | apply Sub.skip))
        refine ⟨hT, ?_⟩
        refine any_take (i := 10) hf rfl (by kernel_rfl) (by kernel_rfl) (by kernel_rfl) (fun _ _ _ h => h) (Wn.none rfl) (rd_fieldAddrB hf rfl rfl fb40_1 rfl) hT rfl rfl ?_
        clear hf; intro a hf
        refine any_one (i := 11) rfl (by kernel_rfl) (st_store hf (Wn.none rfl) hS rfl rfl rfl (by rfl) sz38 (by rfl) (by rfl) (by repeat (first | exact Sel.head | apply Sel.tail)) (by repeat (first | exact Put.nil | apply Put.cons | apply Put.succ)) rfl ?_)
        clear hf hS; intro a w hf hS
        replace hT := hS.sub' hT (by repeat (first | exact Sub.refl | exact Sub.none | exact Sub.behind | (apply Sub.cons; (focus ((repeat (first | exact Sel.head | apply Sel.tail)); done))) | apply Sub.skip))
        refine ⟨hT, ?_⟩
        refine any_done (by kernel_rfl) ?_
        refine b_normal ?_
        refine t_normal ?_
        refine c_region ?_
        refine step_l (st_rd hf (Wn.none rfl) (rd_add hf rfl rfl rfl (by first | exact Go.IntWalk.i64_in _ (by omega) | exact rfl)) hS rfl rfl ?_)
        clear hf; intro a hf
        refine step_l (st_rd hf (Wn.none rfl) (rd_move hf rfl rfl) hS rfl rfl ?_)
        clear hf; intro a hf
        refine done_l ?_
        have h1 : Sat W (Rws 5 (V.map (fun v : ValT => v.2.1)) :: Rw 5 1 (some (⟨bd, 0, none⟩ : Addr)) sz sz (bvs (List.replicate sz 0)) :: Rw 44 4 pA (V.length + 1) capA (V.flatMap valC ++ [.int .i64 0, .int .i64 ((j : Int) + 1), .slice (some (⟨bd, 0, none⟩ : Addr)) sz sz, .bool false]) :: Blk b_s [.int .i64 16, .int .i64 0, .int .i64 0, .int .i64 0, .int .i64 0, .int .i64 0, .int .i64 0, .int .i64 0, .slice pA (V.length + 1) capA] 40 :: Rw 46 10 q L.length c (L.flatMap entC) :: AllG (fun e : EntT => ValR 44 5 e.2.1.2.1) L :: Blk b_m [.int .i64 1, .int .i64 1, .int .i64 0, .int .i64 0, .int .i64 0, .string ⟨#[]⟩, .int .i64 0, .slice q L.length c, .slice none 0 0, .slice none 0 0] 26 :: R) w := hS.sub (by repeat (first | exact Sub.refl | exact Sub.none | exact Sub.behind | (apply Sub.cons; (focus ((repeat (first | exact Sel.head | apply Sel.tail)); done))) | apply Sub.skip)); replace h1 := h1.rwsSnoc (by simp); have h2 : Sat W (Rw 44 4 pA (V.length + 1) capA (V.flatMap valC ++ [.int .i64 0, .int .i64 ((j : Int) + 1), .slice (some (⟨bd, 0, none⟩ : Addr)) sz sz, .bool false]) :: Rws 5 (V.map (fun v : ValT => v.2.1) ++ [(some (⟨bd, 0, none⟩ : Addr), sz, List.replicate sz 0)]) :: Blk b_s [.int .i64 16, .int .i64 0, .int .i64 0, .int .i64 0, .int .i64 0, .int .i64 0, .int .i64 0, .int .i64 0, .slice pA (V.length + 1) capA] 40 :: Rw 46 10 q L.length c (L.flatMap entC) :: AllG (fun e : EntT => ValR 44 5 e.2.1.2.1) L :: Blk b_m [.int .i64 1, .int .i64 1, .int .i64 0, .int .i64 0, .int .i64 0, .string ⟨#[]⟩, .int .i64 0, .slice q L.length c, .slice none 0 0, .slice none 0 0] 26 :: R) w := h1.sub (by repeat (first | exact Sub.refl | exact Sub.none | exact Sub.behind | (apply Sub.cons; (focus ((repeat (first | exact Sel.head | apply Sel.tail)); done))) | apply Sub.skip)); replace h2 := h2.rwCast (xs' := (V ++ [((0, (j : Int) + 1, ()), (some (⟨bd, 0, none⟩ : Addr), sz, List.replicate sz 0), false, ())]).flatMap valC) (by simp [valC, dotC, slv]) rfl
        refine t_normal ⟨(j + 1, pA, capA, V ++ [((0, (j : Int) + 1, ()), (some (⟨bd, 0, none⟩ : Addr), sz, List.replicate sz 0), false, ())]), ((hf.back (by repeat (first | exact Behind.refl | refine Behind.skip rfl ?_)) hk1).kb hf 32 rfl (by first | rfl | exact int_eq (by omega))), ⟨(by rw [List.map_append, List.length_append]; exact h2.sub (by repeat (first | exact Sub.refl | exact Sub.none | exact Sub.behind | (apply Sub.cons; (focus ((repeat (first | exact Sel.head | apply Sel.tail)); done))) | apply Sub.skip))), ⟨by omega, by simp [hlj], all_snoc hokv (by show (List.replicate sz (0 : UInt8)).length ≤ 200; rw [List.length_replicate]; omega)⟩⟩, by first | omega | (simp only []; omega)⟩
      · skip
        refine st_make hf (Wn.none rfl) hS rfl rfl rfl Try.underlying29 tyb5 (by first | omega | decide) (by first | (simp only [maxLen]; omega) | decide) rfl rfl ?_
        clear hf hS; intro b_8 a w hf hS; rw [made_bytes] at hS; generalize b_8 = bd at hf hS
        replace hT := hS.sub' hT (by repeat (first | exact Sub.refl | exact Sub.none | exact Sub.behind | (apply Sub.cons; (focus ((repeat (first | exact Sel.head | apply Sel.tail)); done))) | apply Sub.skip))
        refine ⟨hT, ?_⟩
        refine any_take (i := 7) hf rfl (by kernel_rfl) (by kernel_rfl) (by kernel_rfl) (fun _ _ _ h => h) (Wn.none rfl) (rd_build hf rfl rfl zr44 (by rfl) pl44 (.cons rfl (by first | rfl) (by rfl) (by repeat (first | exact Put.nil | apply Put.cons | apply Put.succ)) (.cons rfl (by first | rfl) (by rfl) (by repeat (first | exact Put.nil | apply Put.cons | apply Put.succ)) .nil))) hT rfl rfl ?_
        clear hf; intro a hf
        refine any_two (i := 1) (j := 8) rfl rfl (by kernel_rfl) ?_ ?_
        · skip
          refine st_rd hf (Wn.none rfl) (rd_load1 hf rfl rfl ag38 (by intro _ h; first | exact h.cell (by repeat (first | exact Sel.head | apply Sel.tail)) (by rfl))) hS rfl rfl ?_
          clear hf; intro a hf
          refine ⟨hT, ?_⟩
          refine any_one (i := 8) rfl (by kernel_rfl) (st_buildSlice hf (Wn.none rfl) hS rfl rfl Try.underlying38 sz44 zr44 (by decide) bz44_1 rfl (.cons rfl (by first | rfl) (by rfl) (by repeat (first | exact Put.nil | apply Put.cons | apply Put.succ)) .nil) rfl rfl ?_)
          clear hf hS; intro b_9 a w hf hS
          replace hT := hS.sub' hT (by repeat (first | exact Sub.refl | exact Sub.none | exact Sub.behind | (apply Sub.cons; (focus ((repeat (first | exact Sel.head | apply Sel.tail)); done))) | apply Sub.skip))
          refine ⟨hT, ?_⟩
          refine any_one (i := 9) rfl (by kernel_rfl) (st_append hf (Wn.none rfl) rfl rfl rfl Try.underlying38 tyb44 (by rfl) (by decide) hS (by repeat (first | exact Sel.head | apply Sel.tail)) (by first | exact hS.slOfBlk (by repeat (first | exact Sel.head | apply Sel.tail)) (by rfl) | exact hS.slOfBlkPre (by repeat (first | exact Sel.head | apply Sel.tail)) (bvs_len1 _) | exact hS.slOfRw (by repeat (first | exact Sel.head | apply Sel.tail)) | exact SlAt.nil _ _ _) (by first | rfl | exact bvs_one _ | (simp [Value.oneCell']; done)) (by omega) rfl rfl ?_)
          clear hf hS; intro pA capA a w hf hS hnilA
          replace hT := hS.sub' hT (by repeat (first | exact Sub.refl | exact Sub.none | exact Sub.behind | (apply Sub.cons; (focus ((repeat (first | exact Sel.head | apply Sel.tail)); done))) | apply Sub.skip))
          refine ⟨hT, ?_⟩
          refine any_take (i := 10) hf rfl (by kernel_rfl) (by kernel_rfl) (by kernel_rfl) (fun _ _ _ h => h) (Wn.none rfl) (rd_fieldAddrB hf rfl rfl fb40_1 rfl) hT rfl rfl ?_
          clear hf; intro a hf
          refine any_one (i := 11) rfl (by kernel_rfl) (st_store hf (Wn.none rfl) hS rfl rfl rfl (by rfl) sz38 (by rfl) (by rfl) (by repeat (first | exact Sel.head | apply Sel.tail)) (by repeat (first | exact Put.nil | apply Put.cons | apply Put.succ)) rfl ?_)
          clear hf hS; intro a w hf hS
          replace hT := hS.sub' hT (by repeat (first | exact Sub.refl | exact Sub.none | exact Sub.behind | (apply Sub.cons; (focus ((repeat (first | exact Sel.head | apply Sel.tail)); done))) | apply Sub.skip))
          refine ⟨hT, ?_⟩
          refine any_done (by kernel_rfl) ?_
          refine b_normal ?_
          refine t_normal ?_
          refine c_region ?_
          refine step_l (st_rd hf (Wn.none rfl) (rd_add hf rfl rfl rfl (by first | exact Go.IntWalk.i64_in _ (by omega) | exact rfl)) hS rfl rfl ?_)
          clear hf; intro a hf
          refine step_l (st_rd hf (Wn.none rfl) (rd_move hf rfl rfl) hS rfl rfl ?_)
          clear hf; intro a hf
          refine done_l ?_
          have h1 : Sat W (Rws 5 (V.map (fun v : ValT => v.2.1)) :: Rw 5 1 (some (⟨bd, 0, none⟩ : Addr)) sz sz (bvs (List.replicate sz 0)) :: Rw 44 4 pA (V.length + 1) capA (V.flatMap valC ++ [.int .i64 0, .int .i64 ((j : Int) + 1), .slice (some (⟨bd, 0, none⟩ : Addr)) sz sz, .bool false]) :: Blk b_s [.int .i64 16, .int .i64 0, .int .i64 0, .int .i64 0, .int .i64 0, .int .i64 0, .int .i64 0, .int .i64 0, .slice pA (V.length + 1) capA] 40 :: Rw 46 10 q L.length c (L.flatMap entC) :: AllG (fun e : EntT => ValR 44 5 e.2.1.2.1) L :: Blk b_m [.int .i64 1, .int .i64 1, .int .i64 0, .int .i64 0, .int .i64 0, .string ⟨#[]⟩, .int .i64 0, .slice q L.length c, .slice none 0 0, .slice none 0 0] 26 :: R) w := hS.sub (by repeat (first | exact Sub.refl | exact Sub.none | exact Sub.behind | (apply Sub.cons; (focus ((repeat (first | exact Sel.head | apply Sel.tail)); done))) | apply Sub.skip)); replace h1 := h1.rwsSnoc (by simp); have h2 : Sat W (Rw 44 4 pA (V.length + 1) capA (V.flatMap valC ++ [.int .i64 0, .int .i64 ((j : Int) + 1), .slice (some (⟨bd, 0, none⟩ : Addr)) sz sz, .bool false]) :: Rws 5 (V.map (fun v : ValT => v.2.1) ++ [(some (⟨bd, 0, none⟩ : Addr), sz, List.replicate sz 0)]) :: Blk b_s [.int .i64 16, .int .i64 0, .int .i64 0, .int .i64 0, .int .i64 0, .int .i64 0, .int .i64 0, .int .i64 0, .slice pA (V.length + 1) capA] 40 :: Rw 46 10 q L.length c (L.flatMap entC) :: AllG (fun e : EntT => ValR 44 5 e.2.1.2.1) L :: Blk b_m [.int .i64 1, .int .i64 1, .int .i64 0, .int .i64 0, .int .i64 0, .string ⟨#[]⟩, .int .i64 0, .slice q L.length c, .slice none 0 0, .slice none 0 0] 26 :: R) w := h1.sub (by repeat (first | exact Sub.refl | exact Sub.none | exact Sub.behind | (apply Sub.cons; (focus ((repeat (first | exact Sel.head | apply Sel.tail)); done))) | apply Sub.skip)); replace h2 := h2.rwCast (xs' := (V ++ [((0, (j : Int) + 1, ()), (some (⟨bd, 0, none⟩ : Addr), sz, List.replicate sz 0), false, ())]).flatMap valC) (by simp [valC, dotC, slv]) rfl
          refine t_normal ⟨(j + 1, pA, capA, V ++ [((0, (j : Int) + 1, ()), (some (⟨bd, 0, none⟩ : Addr), sz, List.replicate sz 0), false, ())]), ((hf.back (by repeat (first | exact Behind.refl | refine Behind.skip rfl ?_)) hk1).kb hf 32 rfl (by first | rfl | exact int_eq (by omega))), ⟨(by rw [List.map_append, List.length_append]; exact h2.sub (by repeat (first | exact Sub.refl | exact Sub.none | exact Sub.behind | (apply Sub.cons; (focus ((repeat (first | exact Sel.head | apply Sel.tail)); done))) | apply Sub.skip))), ⟨by omega, by simp [hlj], all_snoc hokv (by show (List.replicate sz (0 : UInt8)).length ≤ 200; rw [List.length_replicate]; omega)⟩⟩, by first | omega | (simp only []; omega)⟩
        · skip
          refine st_buildSlice hf (Wn.none rfl) hS rfl rfl Try.underlying38 sz44 zr44 (by decide) bz44_1 rfl (.cons rfl (by first | rfl) (by rfl) (by repeat (first | exact Put.nil | apply Put.cons | apply Put.succ)) .nil) rfl rfl ?_
          clear hf hS; intro b_11 a w hf hS
          replace hT := hS.sub' hT (by repeat (first | exact Sub.refl | exact Sub.none | exact Sub.behind | (apply Sub.cons; (focus ((repeat (first | exact Sel.head | apply Sel.tail)); done))) | apply Sub.skip))
          refine ⟨hT, ?_⟩
          refine any_one (i := 1) rfl (by kernel_rfl) (st_rd hf (Wn.none rfl) (rd_load1 hf rfl rfl ag38 (by intro _ h; first | exact h.cell (by repeat (first | exact Sel.head | apply Sel.tail)) (by rfl))) hS rfl rfl ?_)
          clear hf; intro a hf
          refine ⟨hT, ?_⟩
          refine any_one (i := 9) rfl (by kernel_rfl) (st_append hf (Wn.none rfl) rfl rfl rfl Try.underlying38 tyb44 (by rfl) (by decide) hS (by repeat (first | exact Sel.head | apply Sel.tail)) (by first | exact hS.slOfBlk (by repeat (first | exact Sel.head | apply Sel.tail)) (by rfl) | exact hS.slOfBlkPre (by repeat (first | exact Sel.head | apply Sel.tail)) (bvs_len1 _) | exact hS.slOfRw (by repeat (first | exact Sel.head | apply Sel.tail)) | exact SlAt.nil _ _ _) (by first | rfl | exact bvs_one _ | (simp [Value.oneCell']; done)) (by omega) rfl rfl ?_)
          clear hf hS; intro pA capA a w hf hS hnilA
          replace hT := hS.sub' hT (by repeat (first | exact Sub.refl | exact Sub.none | exact Sub.behind | (apply Sub.cons; (focus ((repeat (first | exact Sel.head | apply Sel.tail)); done))) | apply Sub.skip))
          refine ⟨hT, ?_⟩
          refine any_take (i := 10) hf rfl (by kernel_rfl) (by kernel_rfl) (by kernel_rfl) (fun _ _ _ h => h) (Wn.none rfl) (rd_fieldAddrB hf rfl rfl fb40_1 rfl) hT rfl rfl ?_
          clear hf; intro a hf
          refine any_one (i := 11) rfl (by kernel_rfl) (st_store hf (Wn.none rfl) hS rfl rfl rfl (by rfl) sz38 (by rfl) (by rfl) (by repeat (first | exact Sel.head | apply Sel.tail)) (by repeat (first | exact Put.nil | apply Put.cons | apply Put.succ)) rfl ?_)
          clear hf hS; intro a w hf hS
          replace hT := hS.sub' hT (by repeat (first | exact Sub.refl | exact Sub.none | exact Sub.behind | (apply Sub.cons; (focus ((repeat (first | exact Sel.head | apply Sel.tail)); done))) | apply Sub.skip))
          refine ⟨hT, ?_⟩
          refine any_done (by kernel_rfl) ?_
          refine b_normal ?_
          refine t_normal ?_
          refine c_region ?_
          refine step_l (st_rd hf (Wn.none rfl) (rd_add hf rfl rfl rfl (by first | exact Go.IntWalk.i64_in _ (by omega) | exact rfl)) hS rfl rfl ?_)
          clear hf; intro a hf
          refine step_l (st_rd hf (Wn.none rfl) (rd_move hf rfl rfl) hS rfl rfl ?_)
          clear hf; intro a hf
          refine done_l ?_
          have h1 : Sat W (Rws 5 (V.map (fun v : ValT => v.2.1)) :: Rw 5 1 (some (⟨bd, 0, none⟩ : Addr)) sz sz (bvs (List.replicate sz 0)) :: Rw 44 4 pA (V.length + 1) capA (V.flatMap valC ++ [.int .i64 0, .int .i64 ((j : Int) + 1), .slice (some (⟨bd, 0, none⟩ : Addr)) sz sz, .bool false]) :: Blk b_s [.int .i64 16, .int .i64 0, .int .i64 0, .int .i64 0, .int .i64 0, .int .i64 0, .int .i64 0, .int .i64 0, .slice pA (V.length + 1) capA] 40 :: Rw 46 10 q L.length c (L.flatMap entC) :: AllG (fun e : EntT => ValR 44 5 e.2.1.2.1) L :: Blk b_m [.int .i64 1, .int .i64 1, .int .i64 0, .int .i64 0, .int .i64 0, .string ⟨#[]⟩, .int .i64 0, .slice q L.length c, .slice none 0 0, .slice none 0 0] 26 :: R) w := hS.sub (by repeat (first | exact Sub.refl | exact Sub.none | exact Sub.behind | (apply Sub.cons; (focus ((repeat (first | exact Sel.head | apply Sel.tail)); done))) | apply Sub.skip)); replace h1 := h1.rwsSnoc (by simp); have h2 : Sat W (Rw 44 4 pA (V.length + 1) capA (V.flatMap valC ++ [.int .i64 0, .int .i64 ((j : Int) + 1), .slice (some (⟨bd, 0, none⟩ : Addr)) sz sz, .bool false]) :: Rws 5 (V.map (fun v : ValT => v.2.1) ++ [(some (⟨bd, 0, none⟩ : Addr), sz, List.replicate sz 0)]) :: Blk b_s [.int .i64 16, .int .i64 0, .int .i64 0, .int .i64 0, .int .i64 0, .int .i64 0, .int .i64 0, .int .i64 0, .slice pA (V.length + 1) capA] 40 :: Rw 46 10 q L.length c (L.flatMap entC) :: AllG (fun e : EntT => ValR 44 5 e.2.1.2.1) L :: Blk b_m [.int .i64 1, .int .i64 1, .int .i64 0, .int .i64 0, .int .i64 0, .string ⟨#[]⟩, .int .i64 0, .slice q L.length c, .slice none 0 0, .slice none 0 0] 26 :: R) w := h1.sub (by repeat (first | exact Sub.refl | exact Sub.none | exact Sub.behind | (apply Sub.cons; (focus ((repeat (first | exact Sel.head | apply Sel.tail)); done))) | apply Sub.skip)); replace h2 := h2.rwCast (xs' := (V ++ [((0, (j : Int) + 1, ()), (some (⟨bd, 0, none⟩ : Addr), sz, List.replicate sz 0), false, ())]).flatMap valC) (by simp [valC, dotC, slv]) rfl
          refine t_normal ⟨(j + 1, pA, capA, V ++ [((0, (j : Int) + 1, ()), (some (⟨bd, 0, none⟩ : Addr), sz, List.replicate sz 0), false, ())]), ((hf.back (by repeat (first | exact Behind.refl | refine Behind.skip rfl ?_)) hk1).kb hf 32 rfl (by first | rfl | exact int_eq (by omega))), ⟨(by rw [List.map_append, List.length_append]; exact h2.sub (by repeat (first | exact Sub.refl | exact Sub.none | exact Sub.behind | (apply Sub.cons; (focus ((repeat (first | exact Sel.head | apply Sel.tail)); done))) | apply Sub.skip))), ⟨by omega, by simp [hlj], all_snoc hokv (by show (List.replicate sz (0 : UInt8)).length ≤ 200; rw [List.length_replicate]; omega)⟩⟩, by first | omega | (simp only []; omega)⟩
    clear hf; intro hc4 a hf
    obtain rfl : j = 16 := by omega
    refine done_l ?_
    refine t_normal ?_
    refine c_seq ?_
    refine c_false hf rfl ?_
    refine c_exit ?_
    refine t_exit ?_
    refine t_exit ?_
    refine b_exit ?_
    refine t_normal ?_
    refine c_region ?_
    refine step_l (st_rd hf (Wn.none rfl) (rd_fieldAddrB hf rfl rfl fb26_7 rfl) hS rfl rfl ?_)
    clear hf; intro a hf
    refine step_l (st_rd hf (Wn.none rfl) (rd_load1 hf rfl rfl ag22 (by intro _ h; first | exact h.cell (by repeat (first | exact Sel.head | apply Sel.tail)) (by rfl))) hS rfl rfl ?_)
    clear hf; intro a hf
    refine step_l (st_rd hf (Wn.none rfl) (rd_move hf rfl rfl) hS rfl rfl ?_)
    clear hf; intro a hf
    refine step_l (st_rd hf (Wn.none rfl) (rd_add hf rfl rfl rfl (by first | exact Go.IntWalk.i64_in _ (by omega) | exact rfl)) hS rfl rfl ?_)
    clear hf; intro a hf
    refine step_l (st_rd hf (Wn.none rfl) (rd_convInt hf rfl rfl Try.underlying3 Try.underlying5 (show IntKind.u8.wrap (97 + (k : Int)) = (((UInt8.ofNat (97 + k)).toNat : Nat) : Int) from by rw [show (97 + (k : Int)) = ((97 + k : Nat) : Int) by omega]; exact n8_wrap _)) hS rfl rfl ?_)
    clear hf; intro a hf
    refine step_l (st_buildSlice hf (Wn.none rfl) hS rfl rfl Try.underlying29 sz5 zr5 (by decide) bz5_1 rfl (.cons rfl (by first | rfl) (by rfl) (by repeat (first | exact Put.nil | apply Put.cons | apply Put.succ)) .nil) rfl rfl ?_)
    clear hf hS; intro b_13 a w hf hS
    refine step_l (st_rd hf (Wn.none rfl) (rd_str hf rfl rfl Try.underlying29 Try.underlying9 Try.underlying5 (by intro _ h; first | exact h.slOfRw (by repeat (first | exact Sel.head | apply Sel.tail)) | exact h.slOfBlkPre (by repeat (first | exact Sel.head | apply Sel.tail)) (bvs_len1 _) | exact (show SlAt _ _ 1 1 (bvs [UInt8.ofNat (97 + k)]) from h.slOfBlk (n := 1) (sz := 1) (cs := bvs [UInt8.ofNat (97 + k)]) (by repeat (first | exact Sel.head | apply Sel.tail)) rfl))) hS rfl rfl ?_)
    clear hf; intro a hf
    refine step_l (st_rd hf (Wn.none rfl) (rd_loadN hf rfl rfl ag40 sz40 (by intro _ h; exact loadN_of h (by repeat (first | exact Sel.head | apply Sel.tail)) (by repeat (first | exact Seg.nil | apply Seg.cons | apply Seg.succ)) )) hS rfl rfl ?_)
    clear hf; intro a hf
    refine step_l (st_rd hf (Wn.none rfl) (rd_build hf rfl rfl zr46 (by rfl) pl46 (.cons rfl (by first | rfl) (by rfl) (by repeat (first | exact Put.nil | apply Put.cons | apply Put.succ)) (.cons rfl (by first | rfl) (by rfl) (by repeat (first | exact Put.nil | apply Put.cons | apply Put.succ)) .nil))) hS rfl rfl ?_)
    clear hf; intro a hf
    refine step_l (st_buildSlice hf (Wn.none rfl) hS rfl rfl Try.underlying22 sz46 zr46 (by decide) bz46_1 rfl (.cons rfl (by first | rfl) (by rfl) (by repeat (first | exact Put.nil | apply Put.cons | apply Put.succ)) .nil) rfl rfl ?_)
    clear hf hS; intro b_14 a w hf hS
    refine step_l (st_append hf (Wn.none rfl) rfl rfl rfl Try.underlying22 tyb46 (by rfl) (by decide) hS (by repeat (first | exact Sel.head | apply Sel.tail)) (by first | exact hS.slOfBlk (by repeat (first | exact Sel.head | apply Sel.tail)) (by rfl) | exact hS.slOfBlkPre (by repeat (first | exact Sel.head | apply Sel.tail)) (bvs_len1 _) | exact hS.slOfRw (by repeat (first | exact Sel.head | apply Sel.tail)) | exact SlAt.nil _ _ _) (by first | rfl | exact bvs_one _ | (simp [Value.oneCell']; done)) (by omega) rfl rfl ?_)
    clear hf hS; intro pA capA a w hf hS hnilA
    refine step_l (st_rd hf (Wn.none rfl) (rd_fieldAddrB hf rfl rfl fb26_7 rfl) hS rfl rfl ?_)
    clear hf; intro a hf
    refine step_l (st_store hf (Wn.none rfl) hS rfl rfl rfl (by rfl) sz22 (by rfl) (by rfl) (by repeat (first | exact Sel.head | apply Sel.tail)) (by repeat (first | exact Put.nil | apply Put.cons | apply Put.succ)) rfl ?_)
    clear hf hS; intro a w hf hS
    refine done_l ?_
    refine b_normal ?_
    refine t_normal ?_
    refine c_region ?_
    refine step_l (st_rd hf (Wn.none rfl) (rd_add hf rfl rfl rfl (by first | exact Go.IntWalk.i64_in _ (by omega) | exact rfl)) hS rfl rfl ?_)
    clear hf; intro a hf
    refine step_l (st_rd hf (Wn.none rfl) (rd_move hf rfl rfl) hS rfl rfl ?_)
    clear hf; intro a hf
    refine done_l ?_
    have h0 : Sat W ([Rw 44 4 qv V.length cv (V.flatMap valC), Rws 5 (V.map (fun v : ValT => v.2.1))] ++ (AllG (fun e : EntT => ValR 44 5 e.2.1.2.1) L :: Rw 46 10 pA (L.length + 1) capA (L.flatMap entC ++ [.string (str [UInt8.ofNat (97 + k)]), .int .i64 16, .int .i64 0, .int .i64 0, .int .i64 0, .int .i64 0, .int .i64 0, .int .i64 0, .int .i64 0, .slice qv V.length cv]) :: Blk b_m [.int .i64 1, .int .i64 1, .int .i64 0, .int .i64 0, .int .i64 0, .string ⟨#[]⟩, .int .i64 0, .slice pA (L.length + 1) capA, .slice none 0 0, .slice none 0 0] 26 :: R)) w := hS.sub (by repeat (first | exact Sub.refl | exact Sub.none | exact Sub.behind | (apply Sub.cons; (focus ((repeat (first | exact Sel.head | apply Sel.tail)); done))) | apply Sub.skip)); have h1 := Sat.all h0; have h1 : Sat W (AllG (fun e : EntT => ValR 44 5 e.2.1.2.1) L :: (fun e : EntT => ValR 44 5 e.2.1.2.1) ([UInt8.ofNat (97 + k)], ([16, 0, 0, 0, 0, 0, 0, 0], (qv, cv, V), ()), ()) :: Rw 46 10 pA (L.length + 1) capA (L.flatMap entC ++ [.string (str [UInt8.ofNat (97 + k)]), .int .i64 16, .int .i64 0, .int .i64 0, .int .i64 0, .int .i64 0, .int .i64 0, .int .i64 0, .int .i64 0, .slice qv V.length cv]) :: Blk b_m [.int .i64 1, .int .i64 1, .int .i64 0, .int .i64 0, .int .i64 0, .string ⟨#[]⟩, .int .i64 0, .slice pA (L.length + 1) capA, .slice none 0 0, .slice none 0 0] 26 :: R) w := h1.sub (.cons (.tail .head) (.cons .head .refl)); replace h1 := h1.allSnoc; have h2 : Sat W (Rw 46 10 pA (L.length + 1) capA (L.flatMap entC ++ [.string (str [UInt8.ofNat (97 + k)]), .int .i64 16, .int .i64 0, .int .i64 0, .int .i64 0, .int .i64 0, .int .i64 0, .int .i64 0, .int .i64 0, .slice qv V.length cv]) :: AllG (fun e : EntT => ValR 44 5 e.2.1.2.1) (L ++ [([UInt8.ofNat (97 + k)], ([16, 0, 0, 0, 0, 0, 0, 0], (qv, cv, V), ()), ())]) :: Blk b_m [.int .i64 1, .int .i64 1, .int .i64 0, .int .i64 0, .int .i64 0, .string ⟨#[]⟩, .int .i64 0, .slice pA (L.length + 1) capA, .slice none 0 0, .slice none 0 0] 26 :: R) w := h1.sub (by repeat (first | exact Sub.refl | exact Sub.none | exact Sub.behind | (apply Sub.cons; (focus ((repeat (first | exact Sel.head | apply Sel.tail)); done))) | apply Sub.skip)); replace h2 := h2.rwCast (xs' := (L ++ [([UInt8.ofNat (97 + k)], ([16, 0, 0, 0, 0, 0, 0, 0], (qv, cv, V), ()), ())]).flatMap entC) (by simp [entC, sibC, i64s, slv]) rfl
    refine t_normal ⟨(k + 1, pA, capA, L ++ [([UInt8.ofNat (97 + k)], ([16, 0, 0, 0, 0, 0, 0, 0], (qv, cv, V), ()), ())]), ((hf.back (by repeat (first | exact Behind.refl | refine Behind.skip rfl ?_)) hk0).kb hf 27 rfl (by first | rfl | exact int_eq (by omega))), ⟨(by rw [List.length_append]; exact h2.sub (by repeat (first | exact Sub.refl | exact Sub.none | exact Sub.behind | (apply Sub.cons; (focus ((repeat (first | exact Sel.head | apply Sel.tail)); done))) | apply Sub.skip))), ⟨by omega, by simp [hlk], okL.snoc (x := ([UInt8.ofNat (97 + k)], ([16, 0, 0, 0, 0, 0, 0, 0], (qv, cv, V), ()), ())) hokl ⟨rfl, (by show V.length ≤ 1000; omega), fun v hv => (by have := hokv v hv; omega)⟩⟩⟩, by first | omega | (simp only []; omega)⟩
  clear hf; intro hc2 a hf
  obtain rfl : k = n := by omega
  refine done_l ?_
  refine t_normal ?_
  refine c_seq ?_
  refine c_false hf rfl ?_
  refine c_exit ?_
  refine t_exit ?_
  refine t_exit ?_
  refine b_exit ?_
  refine t_normal ?_
  refine c_seq ?_
  refine c_region ?_
  refine step_l (st_rd hf (Wn.none rfl) (rd_loadN hf rfl rfl ag26 sz26 (by intro _ h; exact loadN_of h (by repeat (first | exact Sel.head | apply Sel.tail)) (by repeat (first | exact Seg.nil | apply Seg.cons | apply Seg.succ)) )) hS rfl rfl ?_)
  clear hf; intro a hf
  refine step_l (st_call hf (Wn.none rfl) rfl rfl rfl fn10 (Enc_c 1 1 0 0 0 [] 0 L q c [] none 0 [] none 0 hS (fun _ h => h.entL (by repeat (first | exact Sel.head | apply Sel.tail)) (by repeat (first | exact Sel.head | apply Sel.tail)) hokl (by omega)) (fun w _ => DigsAt.nil w) (fun w _ => DotsAt.nil w) (by omega) (by decide) (by decide)) rfl rfl ?_)
  clear hf hS; rintro v a w ⟨qa, capa, rfl, hS⟩ hf
  refine step_l (st_rd hf (Wn.none rfl) (rd_move hf rfl rfl) hS rfl rfl ?_)
  clear hf; intro a hf
  refine step_l (st_rd hf (Wn.none rfl) (rd_extract hf rfl rfl rfl) hS rfl rfl ?_)
  clear hf; intro a hf
  refine step_l (st_rd hf (Wn.none rfl) (rd_extract hf rfl rfl rfl) hS rfl rfl ?_)
  clear hf; intro a hf
  refine step_l (st_rd hf (Wn.none rfl) (rd_assign hf rfl rfl) hS rfl rfl ?_)
  clear hf; intro a hf
  refine step_l (st_rd hf (Wn.none rfl) (rd_assign hf rfl rfl) hS rfl rfl ?_)
  clear hf; intro a hf
  refine done_l ?_
  refine t_normal ?_
  refine c_seq ?_
  refine c_region ?_
  refine step_l (st_rd hf (Wn.none rfl) (rd_loadN hf rfl rfl ag26 sz26 (by intro _ h; exact loadN_of h (by repeat (first | exact Sel.head | apply Sel.tail)) (by repeat (first | exact Seg.nil | apply Seg.cons | apply Seg.succ)) )) hS rfl rfl ?_)
  clear hf; intro a hf
  refine step_l (st_call hf (Wn.none rfl) rfl rfl rfl fn11 (REnc_c 1 1 0 0 0 [] 0 L q c [] none 0 [] none 0 hS (fun _ h => h.entL (by repeat (first | exact Sel.head | apply Sel.tail)) (by repeat (first | exact Sel.head | apply Sel.tail)) hokl (by omega)) (fun w _ => DigsAt.nil w) (fun w _ => DotsAt.nil w) (by omega) (by decide) (by decide)) rfl rfl ?_)
  clear hf hS; rintro v a w ⟨qb, capb, rfl, hS⟩ hf
  refine step_l (st_rd hf (Wn.none rfl) (rd_move hf rfl rfl) hS rfl rfl ?_)
  clear hf; intro a hf
  refine step_l (st_rd hf (Wn.none rfl) (rd_extract hf rfl rfl rfl) hS rfl rfl ?_)
  clear hf; intro a hf
  refine step_l (st_rd hf (Wn.none rfl) (rd_extract hf rfl rfl rfl) hS rfl rfl ?_)
  clear hf; intro a hf
  refine step_l (st_rd hf (Wn.none rfl) (rd_assign hf rfl rfl) hS rfl rfl ?_)
  clear hf; intro a hf
  refine step_l (st_rd hf (Wn.none rfl) (rd_assign hf rfl rfl) hS rfl rfl ?_)
  clear hf; intro a hf
  refine done_l ?_
  refine t_normal ?_
  refine c_seq ?_
  refine c_region ?_
  refine step_l (st_make hf (Wn.none rfl) hS rfl rfl rfl Try.underlying29 tyb5 (by first | omega | decide) (by first | (simp only [maxLen]; omega) | decide) rfl rfl ?_)
  clear hf hS; intro b_16 a w hf hS; rw [made_bytes] at hS; generalize b_16 = bd at hf hS
  refine step_l (st_call hf (Wn.none rfl) rfl rfl rfl fn18 (DecLong_c _ _ _ hS (by decide)) rfl rfl ?_)
  clear hf hS; rintro v a w ⟨rfl, hS⟩ hf
  refine step_l (st_rd hf (Wn.none rfl) (rd_move hf rfl rfl) hS rfl rfl ?_)
  clear hf; intro a hf
  refine step_l (st_rd hf (Wn.none rfl) (rd_extract hf rfl rfl rfl) hS rfl rfl ?_)
  clear hf; intro a hf
  refine step_l (st_rd hf (Wn.none rfl) (rd_extract hf rfl rfl rfl) hS rfl rfl ?_)
  clear hf; intro a hf
  refine step_l (st_alloc hf (Wn.none rfl) hS rfl zr26 (by rfl) rfl rfl ?_)
  clear hf hS; intro b_17 a w hf hS
  refine step_l (st_store hf (Wn.none rfl) hS rfl rfl rfl (by rfl) sz26 (by rfl) (by rfl) (by repeat (first | exact Sel.head | apply Sel.tail)) (by repeat (first | exact Put.nil | apply Put.cons | apply Put.succ)) rfl ?_)
  clear hf hS; intro a w hf hS
  refine step_l (st_rd hf (Wn.none rfl) (rd_assign hf rfl rfl) hS rfl rfl ?_)
  clear hf; intro a hf
  refine done_l ?_
  refine t_normal ?_
  refine c_seq ?_
  refine c_region ?_
  refine step_l (st_rd hf (Wn.none rfl) (rd_move hf rfl rfl) hS rfl rfl ?_)
  clear hf; intro a hf
  refine step_l (st_rd hf (Wn.none rfl) (rd_str hf rfl rfl Try.underlying29 Try.underlying9 Try.underlying5 (by intro _ h; first | exact h.slOfRw (by repeat (first | exact Sel.head | apply Sel.tail)) | exact h.slOfBlkPre (by repeat (first | exact Sel.head | apply Sel.tail)) (bvs_len1 _) | exact (show SlAt _ _ 1 1 (bvs [UInt8.ofNat (97 + k)]) from h.slOfBlk (n := 1) (sz := 1) (cs := bvs [UInt8.ofNat (97 + k)]) (by repeat (first | exact Sel.head | apply Sel.tail)) rfl))) hS rfl rfl ?_)
  clear hf; intro a hf
  refine step_l (st_rd hf (Wn.none rfl) (rd_move hf rfl rfl) hS rfl rfl ?_)
  clear hf; intro a hf
  refine step_l (st_rd hf (Wn.none rfl) (rd_str hf rfl rfl Try.underlying29 Try.underlying9 Try.underlying5 (by intro _ h; first | exact h.slOfRw (by repeat (first | exact Sel.head | apply Sel.tail)) | exact h.slOfBlkPre (by repeat (first | exact Sel.head | apply Sel.tail)) (bvs_len1 _) | exact (show SlAt _ _ 1 1 (bvs [UInt8.ofNat (97 + k)]) from h.slOfBlk (n := 1) (sz := 1) (cs := bvs [UInt8.ofNat (97 + k)]) (by repeat (first | exact Sel.head | apply Sel.tail)) rfl))) hS rfl rfl ?_)
  clear hf; intro a hf
  refine step_l (st_rdB hf (Wn.none rfl) (rd_eqlS hf rfl rfl rfl) hS rfl rfl ?_ ?_)
  · clear hf; intro hc18 a hf
    first
    | (first | exact Bool.noConfusion hc18 | exact absurd rfl hc18; done)
    | (
      refine step_l (st_rd hf (Wn.none rfl) (rd_move hf rfl rfl) hS rfl rfl ?_)
      clear hf; intro a hf
      refine step_l (st_rd hf (Wn.some hf rfl rfl rfl rfl) (rd_move hf rfl rfl) hS rfl rfl ?_)
      clear hf; intro a hf
      refine step_l (st_rd hf (Wn.some hf rfl rfl rfl rfl) (rd_move hf rfl rfl) hS rfl rfl ?_)
      clear hf; intro a hf
      refine step_l (st_rdB hf (Wn.some hf rfl rfl rfl rfl) (rd_eql hf rfl rfl rfl) hS rfl rfl ?_ ?_)
      · clear hf; intro hc19 a hf
        first
        | (first | exact Bool.noConfusion hc19 | exact absurd rfl hc19; done)
        | (
          refine step_l (st_rd hf (Wn.none rfl) (rd_pick_t hf rfl rfl rfl) hS rfl rfl ?_)
          clear hf; intro a hf
          refine step_l (st_rd hf (Wn.none rfl) (rd_move hf rfl rfl) hS rfl rfl ?_)
          clear hf; intro a hf
          refine step_l (st_rd hf (Wn.some hf rfl rfl rfl rfl) (rd_move hf rfl rfl) hS rfl rfl ?_)
          clear hf; intro a hf
          refine step_l (st_rdB hf (Wn.some hf rfl rfl rfl rfl) (rd_eql hf rfl rfl rfl) hS rfl rfl ?_ ?_)
          · clear hf; intro hc20 a hf
            first
            | (first | exact Bool.noConfusion hc20 | exact absurd rfl hc20; done)
            | (
              refine step_l (st_rd hf (Wn.none rfl) (rd_pick_t hf rfl rfl rfl) hS rfl rfl ?_)
              clear hf; intro a hf
              refine step_l (st_rd hf (Wn.none rfl) (rd_move hf rfl rfl) hS rfl rfl ?_)
              clear hf; intro a hf
              refine step_l (st_call hf (Wn.some hf rfl rfl rfl rfl) rfl rfl rfl fn9 (awake_c hS) rfl rfl ?_)
              clear hf hS; rintro v a w ⟨rfl, hS⟩ hf
              refine step_l (st_rd hf (Wn.none rfl) (rd_pick_t hf rfl rfl rfl) hS rfl rfl ?_)
              clear hf; intro a hf
              refine step_l (st_rd hf (Wn.none rfl) (rd_assign hf rfl rfl) hS rfl rfl ?_)
              clear hf; intro a hf
              refine done_l ?_
              refine t_normal ?_
              refine c_ret ?_
              refine e_res1 hf.defers rfl (res_tmp hf rfl .nil) ?_
              exact ⟨rfl, hS.sub (by repeat (first | exact Sub.refl | exact Sub.none | exact Sub.behind | (apply Sub.cons; (focus ((repeat (first | exact Sel.head | apply Sel.tail)); done))) | apply Sub.skip))⟩
              )
          clear hf; intro hc20 a hf
          first
          | (first | exact Bool.noConfusion hc20 | exact absurd rfl hc20; done)
          | (
            refine step_l (st_rd hf (Wn.none rfl) (rd_pick_t hf rfl rfl rfl) hS rfl rfl ?_)
            clear hf; intro a hf
            refine step_l (st_rd hf (Wn.none rfl) (rd_move hf rfl rfl) hS rfl rfl ?_)
            clear hf; intro a hf
            refine step_l (st_skip hf (Wn.some hf rfl rfl rfl rfl) rfl rfl ?_)
            clear hf; intro a hf
            refine step_l (st_rd hf (Wn.none rfl) (rd_pick_f hf rfl rfl rfl) hS rfl rfl ?_)
            clear hf; intro a hf
            refine step_l (st_rd hf (Wn.none rfl) (rd_assign hf rfl rfl) hS rfl rfl ?_)
            clear hf; intro a hf
            refine done_l ?_
            refine t_normal ?_
            refine c_ret ?_
            refine e_res1 hf.defers rfl (res_tmp hf rfl .nil) ?_
            exact ⟨rfl, hS.sub (by repeat (first | exact Sub.refl | exact Sub.none | exact Sub.behind | (apply Sub.cons; (focus ((repeat (first | exact Sel.head | apply Sel.tail)); done))) | apply Sub.skip))⟩
            )
          )
      clear hf; intro hc19 a hf
      first
      | (first | exact Bool.noConfusion hc19 | exact absurd rfl hc19; done)
      | (
        refine step_l (st_rd hf (Wn.none rfl) (rd_pick_t hf rfl rfl rfl) hS rfl rfl ?_)
        clear hf; intro a hf
        refine step_l (st_rd hf (Wn.none rfl) (rd_move hf rfl rfl) hS rfl rfl ?_)
        clear hf; intro a hf
        refine step_l (st_skip hf (Wn.some hf rfl rfl rfl rfl) rfl rfl ?_)
        clear hf; intro a hf
        refine step_l (st_skip hf (Wn.some hf rfl rfl rfl rfl) rfl rfl ?_)
        clear hf; intro a hf
        refine step_l (st_rd hf (Wn.none rfl) (rd_pick_f hf rfl rfl rfl) hS rfl rfl ?_)
        clear hf; intro a hf
        refine step_l (st_rd hf (Wn.none rfl) (rd_move hf rfl rfl) hS rfl rfl ?_)
        clear hf; intro a hf
        refine step_l (st_skip hf (Wn.some hf rfl rfl rfl rfl) rfl rfl ?_)
        clear hf; intro a hf
        refine step_l (st_rd hf (Wn.none rfl) (rd_pick_f hf rfl rfl rfl) hS rfl rfl ?_)
        clear hf; intro a hf
        refine step_l (st_rd hf (Wn.none rfl) (rd_assign hf rfl rfl) hS rfl rfl ?_)
        clear hf; intro a hf
        refine done_l ?_
        refine t_normal ?_
        refine c_ret ?_
        refine e_res1 hf.defers rfl (res_tmp hf rfl .nil) ?_
        exact ⟨rfl, hS.sub (by repeat (first | exact Sub.refl | exact Sub.none | exact Sub.behind | (apply Sub.cons; (focus ((repeat (first | exact Sel.head | apply Sel.tail)); done))) | apply Sub.skip))⟩
        )
      )
  clear hf; intro hc18 a hf
  first
  | (first | exact Bool.noConfusion hc18 | exact absurd rfl hc18; done)
  | (
    refine step_l (st_rd hf (Wn.none rfl) (rd_move hf rfl rfl) hS rfl rfl ?_)
    clear hf; intro a hf
    refine step_l (st_skip hf (Wn.some hf rfl rfl rfl rfl) rfl rfl ?_)
    clear hf; intro a hf
    refine step_l (st_skip hf (Wn.some hf rfl rfl rfl rfl) rfl rfl ?_)
    clear hf; intro a hf
    refine step_l (st_skip hf (Wn.some hf rfl rfl rfl rfl) rfl rfl ?_)
    clear hf; intro a hf
    refine step_l (st_rd hf (Wn.none rfl) (rd_pick_f hf rfl rfl rfl) hS rfl rfl ?_)
    clear hf; intro a hf
    refine step_l (st_rd hf (Wn.none rfl) (rd_move hf rfl rfl) hS rfl rfl ?_)
    clear hf; intro a hf
    refine step_l (st_skip hf (Wn.some hf rfl rfl rfl rfl) rfl rfl ?_)
    clear hf; intro a hf
    refine step_l (st_skip hf (Wn.some hf rfl rfl rfl rfl) rfl rfl ?_)
    clear hf; intro a hf
    refine step_l (st_rd hf (Wn.none rfl) (rd_pick_f hf rfl rfl rfl) hS rfl rfl ?_)
    clear hf; intro a hf
    refine step_l (st_rd hf (Wn.none rfl) (rd_move hf rfl rfl) hS rfl rfl ?_)
    clear hf; intro a hf
    refine step_l (st_skip hf (Wn.some hf rfl rfl rfl rfl) rfl rfl ?_)
    clear hf; intro a hf
    refine step_l (st_rd hf (Wn.none rfl) (rd_pick_f hf rfl rfl rfl) hS rfl rfl ?_)
    clear hf; intro a hf
    refine step_l (st_rd hf (Wn.none rfl) (rd_assign hf rfl rfl) hS rfl rfl ?_)
    clear hf; intro a hf
    refine done_l ?_
    refine t_normal ?_
    refine c_ret ?_
    refine e_res1 hf.defers rfl (res_tmp hf rfl .nil) ?_
    exact ⟨rfl, hS.sub (by repeat (first | exact Sub.refl | exact Sub.none | exact Sub.behind | (apply Sub.cons; (focus ((repeat (first | exact Sel.head | apply Sel.tail)); done))) | apply Sub.skip))⟩
    )

end Go.Proofs.Ytglmimbfelakbaa
