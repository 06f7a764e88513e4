/-
  The functions of package wire that the statement reaches, and of package member over them, walked.
  Conditions: none.
-/
import Derived.Test.YtgmbhbnhfmfidaaMem
import Derived.Test.YtgmbhbnhfmfidaaWr1
import Derived.Test.YtgmbhbnhfmfidaaOp1
import Derived.Test.YtgmbhbnhfmfidaaFl1
namespace Go.Proofs.Ytgmbhbnhfmfidaa
open Go Go.Sl
set_option linter.unusedVariables false
set_option linter.unusedSimpArgs false
theorem ag36 : aggO Try.prog 36 = some false := by kernel_rfl
theorem ag4 : aggO Try.prog 4 = some false := by kernel_rfl
theorem ag5 : aggO Try.prog 5 = some false := by kernel_rfl
theorem ag50 : aggO Try.prog 50 = some false := by kernel_rfl
theorem bz23_1 : ((Array.range (1 * 2)).map (fun j => ((.agg #[.int .i64 0, .int .i64 0] : Value)).cells[j % ((.agg #[.int .i64 0, .int .i64 0] : Value)).cells.size]!)) = ([.int .i64 0, .int .i64 0] : List Value).toArray := by kernel_rfl
theorem bz5_0 : ((Array.range (0 * 1)).map (fun j => ((.int .u8 0 : Value)).cells[j % ((.int .u8 0 : Value)).cells.size]!)) = ([] : List Value).toArray := by kernel_rfl
theorem bz5_1 : ((Array.range (1 * 1)).map (fun j => ((.int .u8 0 : Value)).cells[j % ((.int .u8 0 : Value)).cells.size]!)) = ([.int .u8 0] : List Value).toArray := by kernel_rfl
theorem fb64_0 : fieldB Try.prog 64 0 0 = true := by kernel_rfl
theorem fb64_1 : fieldB Try.prog 64 1 1 = true := by kernel_rfl
theorem fb64_2 : fieldB Try.prog 64 2 2 = true := by kernel_rfl
theorem fb69_0 : fieldB Try.prog 69 0 0 = true := by kernel_rfl
theorem fb69_1 : fieldB Try.prog 69 1 1 = true := by kernel_rfl
theorem fn40 : fnB Try.prog 40 = true := by kernel_rfl
theorem fn41 : fnB Try.prog 41 = true := by kernel_rfl
theorem fn46 : fnB Try.prog 46 = true := by kernel_rfl
theorem fn47 : fnB Try.prog 47 = true := by kernel_rfl
theorem fn48 : fnB Try.prog 48 = true := by kernel_rfl
theorem fn49 : fnB Try.prog 49 = true := by kernel_rfl
theorem fn50 : fnB Try.prog 50 = true := by kernel_rfl
theorem fn51 : fnB Try.prog 51 = true := by kernel_rfl
theorem fn52 : fnB Try.prog 52 = true := by kernel_rfl
theorem fn53 : fnB Try.prog 53 = true := by kernel_rfl
theorem fn54 : fnB Try.prog 54 = true := by kernel_rfl
theorem fn55 : fnB Try.prog 55 = true := by kernel_rfl
theorem pl64 : placesO Try.prog 64 = some [(0, 1), (1, 1), (2, 1)] := by kernel_rfl
theorem pl69 : placesO Try.prog 69 = some [(0, 1), (1, 1)] := by kernel_rfl
theorem sz36 : (Try.prog.info? 36).map (·.size) = some 1 := by kernel_rfl
theorem sz4 : (Try.prog.info? 4).map (·.size) = some 1 := by kernel_rfl
theorem sz5 : (Try.prog.info? 5).map (·.size) = some 1 := by kernel_rfl
theorem sz50 : (Try.prog.info? 50).map (·.size) = some 1 := by kernel_rfl
theorem tyb23 : TyB Try.prog 23 (.agg #[.int .i64 0, .int .i64 0]) 2 16 := by unfold TyB; kernel_rfl
theorem tyb5 : TyB Try.prog 5 (.int .u8 0) 1 1 := by unfold TyB; kernel_rfl
theorem zr5 : (Try.prog.info? 5).bind (·.zero) = some (.int .u8 0) := by kernel_rfl
theorem zr64 : (Try.prog.info? 64).bind (·.zero) = some (.agg #[.slice none 0 0, .int .i64 0, .bool false]) := by kernel_rfl
theorem zr69 : (Try.prog.info? 69).bind (·.zero) = some (.agg #[.slice none 0 0, .int .i64 0]) := by kernel_rfl
theorem Clone_c (bs : List UInt8) (q0 : Option Addr) (n0 cap0 : Nat) {W : World} {R : List HP} {w : World} (hS : Sat W (R) w) (hn0 : n0 = bs.length) (hb : bs.length ≤ 140737488355328) (hv : ∀ w, Sat W R w → SlAt w q0 bs.length 1 (bvs bs)) : Calls Try.prog 48 [.slice q0 n0 cap0].toArray w (Ret fun v w' => ∃ q cap, v = .slice q (bs).length cap ∧ Sat W (Rw 5 1 q (bs).length cap (bvs (bs)) :: R) w') := by
  refine fn_start 8 Try.func48 rfl rfl rfl ?_
  intro a hf
  subst hn0
  refine c_seq ?_
  refine c_region ?_
  refine step_l (st_rd hf (Wn.none rfl) (rd_assign hf rfl rfl) hS rfl rfl ?_)
  clear hf; intro a hf
  refine done_l ?_
  refine t_normal ?_
  refine c_seq ?_
  refine c_seq ?_
  refine c_region ?_
  refine step_l (st_rd hf (Wn.none rfl) (rd_move hf rfl rfl) hS rfl rfl ?_)
  clear hf; intro a hf
  refine step_l (st_rdb hf (Wn.none rfl) (rd_eqlNilS hf rfl rfl rfl Try.underlying36) hS rfl rfl ?_ ?_)
  · clear hf; intro hc1 a hf
    have hz : bs.length = 0 := (hv _ hS).len0 hc1
    refine done_l ?_
    refine t_normal ?_
    refine c_true hf rfl ?_
    refine c_seq ?_
    refine c_region ?_
    refine step_l (st_rd hf (Wn.none rfl) (rd_assign hf rfl rfl) hS rfl rfl ?_)
    clear hf; intro a hf
    refine done_l ?_
    refine t_normal ?_
    refine c_ret ?_
    refine t_ret ?_
    refine e_res1 hf.defers rfl (res_tmp hf rfl .nil) ?_
    have hz2 : bs = [] := List.eq_nil_of_length_eq_zero hz; subst hz2; exact ⟨none, 0, rfl, hS.rwNil _ 1⟩
  · clear hf; intro hc1 a hf
    refine done_l ?_
    refine t_normal ?_
    refine c_false hf rfl ?_
    refine c_skip ?_
    refine t_normal ?_
    refine c_seq ?_
    refine c_region ?_
    refine step_l (st_buildRw hf (Wn.none rfl) hS rfl rfl Try.underlying36 sz5 zr5 (by decide) (by decide) bz5_0 rfl .nil rfl rfl rfl ?_)
    clear hf hS; intro b_2 a w hf hS
    refine step_l (st_rd hf (Wn.none rfl) (rd_move hf rfl rfl) hS rfl rfl ?_)
    clear hf; intro a hf
    refine step_l (st_append hf (Wn.none rfl) rfl rfl rfl Try.underlying36 tyb5 (by rfl) (by decide) hS (by repeat (first | exact Sel.head | apply Sel.tail)) (by first | exact hS.slOfBlk (by repeat (first | exact Sel.head | apply Sel.tail)) (by rfl) | exact hS.slOfBlkPre (by repeat (first | exact Sel.head | apply Sel.tail)) (bvs_len1 _) | exact hS.slOfRw (by repeat (first | exact Sel.head | apply Sel.tail)) | exact SlAt.nil _ _ _ | exact hv _ (hS.sub (by repeat (first | exact Sub.refl | exact Sub.none | exact Sub.behind | (apply Sub.cons; (focus ((repeat (first | exact Sel.head | apply Sel.tail)); done))) | apply Sub.skip)))) (by first | rfl | exact bvs_one _ | (simp [Value.oneCell']; done)) (by omega) rfl rfl ?_)
    clear hf hS; intro pA capA a w hf hS hnilA
    refine step_l (st_rd hf (Wn.none rfl) (rd_assign hf rfl rfl) hS rfl rfl ?_)
    clear hf; intro a hf
    refine done_l ?_
    refine t_normal ?_
    refine c_ret ?_
    refine e_res1 hf.defers rfl (res_tmp hf rfl .nil) ?_
    exact ⟨pA, capA, by rw [Nat.zero_add], (hS.rwCast (xs' := bvs bs) (by simp) (Nat.zero_add _)).sub (by repeat (first | exact Sub.refl | exact Sub.none | exact Sub.behind | (apply Sub.cons; (focus ((repeat (first | exact Sel.head | apply Sel.tail)); done))) | apply Sub.skip))⟩

theorem Wnum_c (n : Nat) {W : World} {R : List HP} {w : World} (hS : Sat W (R) w) (hn : n < 18446744073709551616) : Calls Try.prog 52 [.int .u64 (n : Nat)].toArray w (Ret fun v w' => ∃ q cap, v = .slice q (numB n).length cap ∧ Sat W (Rw 5 1 q (numB n).length cap (bvs (numB n)) :: R) w') := by
  refine fn_start 19 Try.func52 rfl rfl rfl ?_
  intro a hf
  refine c_seq ?_
  refine c_region ?_
  refine step_l (st_rd hf (Wn.none rfl) (rd_assign hf rfl rfl) hS rfl rfl ?_)
  clear hf; intro a hf
  refine done_l ?_
  refine t_normal ?_
  refine c_seq ?_
  refine c_region ?_
  refine step_l (st_rd hf (Wn.none rfl) (rd_assign hf rfl rfl) hS rfl rfl ?_)
  clear hf; intro a hf
  refine done_l ?_
  refine t_normal ?_
  refine c_seq ?_
  refine c_block ?_
  refine c_loop (α := Nat × List UInt8 × Option Addr × Nat × Nat) (fun ⟨m, out, q, len, cap⟩ a w => Fits 19 a [(0, .int .u64 (m : Nat)), (3, .slice q len cap)] ∧ Sat W (Rw 5 1 q len cap (bvs out) :: R) w ∧ len = out.length ∧ m < 18446744073709551616 ∧ numB n = out ++ numB m) (fun ⟨m, out, q, len, cap⟩ => m) (n, [], none, 0, 0) ?_ ?_
  · exact ⟨((hf.k0.kb hf 3 rfl (by rfl)).kb hf 0 rfl (by rfl)), (hS.rwNil 5 1).sub (by repeat (first | exact Sub.refl | exact Sub.none | exact Sub.behind | (apply Sub.cons; (focus ((repeat (first | exact Sel.head | apply Sel.tail)); done))) | apply Sub.skip)), ⟨rfl, hn, rfl⟩⟩
  · clear hf hS; rintro ⟨m, out, q, len, cap⟩ a w ⟨hf, hS, ⟨hlen, hm, hnum⟩⟩
    have hl10 := numB_10 hn; have hlp := numB_pos m; rw [hnum, List.length_append] at hl10
    refine c_seq ?_
    refine c_seq ?_
    refine c_region ?_
    refine step_l (st_rd hf (Wn.none rfl) (rd_move hf rfl rfl) hS rfl rfl ?_)
    clear hf; intro a hf
    refine step_l (st_rdB hf (Wn.none rfl) (rd_geq hf rfl rfl rfl) hS rfl rfl ?_ ?_)
    · clear hf; intro hc1 a hf
      refine done_l ?_
      refine t_normal ?_
      refine c_true hf rfl ?_
      refine c_skip ?_
      refine t_normal ?_
      refine c_block ?_
      refine c_seq ?_
      refine c_region ?_
      refine step_l (st_rd hf (Wn.none rfl) (rd_move hf rfl rfl) hS rfl rfl ?_)
      clear hf; intro a hf
      refine step_l (st_rd hf (Wn.none rfl) (rd_move hf rfl rfl) hS rfl rfl ?_)
      clear hf; intro a hf
      refine step_l (st_rd hf (Wn.none rfl) (rd_convInt hf rfl rfl Try.underlying30 Try.underlying5 (n8_of64 _)) hS rfl rfl ?_)
      clear hf; intro a hf
      refine step_l (st_rd hf (Wn.none rfl) (rd_or hf rfl rfl rfl (or128 _)) hS rfl rfl ?_)
      clear hf; intro a hf
      refine step_l (st_buildSlice hf (Wn.none rfl) hS rfl rfl Try.underlying36 sz5 zr5 (by decide) bz5_1 rfl (.cons rfl (by rfl) (by rfl) (by repeat (first | exact Put.nil | apply Put.cons | apply Put.succ)) .nil) rfl rfl ?_)
      clear hf hS; intro b_2 a w hf hS
      refine step_l (st_append hf (Wn.none rfl) rfl rfl rfl Try.underlying36 tyb5 (by rfl) (by decide) hS (by repeat (first | exact Sel.head | apply Sel.tail)) (by first | exact hS.slOfBlk (by repeat (first | exact Sel.head | apply Sel.tail)) (by rfl) | exact hS.slOfBlkPre (by repeat (first | exact Sel.head | apply Sel.tail)) (bvs_len1 _) | exact hS.slOfRw (by repeat (first | exact Sel.head | apply Sel.tail)) | exact SlAt.nil _ _ _) (by first | rfl | exact bvs_one _ | (simp [Value.oneCell']; done)) (by omega) rfl rfl ?_)
      clear hf hS; intro pA capA a w hf hS hnilA
      refine step_l (st_rd hf (Wn.none rfl) (rd_assign hf rfl rfl) hS rfl rfl ?_)
      clear hf; intro a hf
      refine done_l ?_
      refine t_normal ?_
      refine c_region ?_
      refine step_l (st_rd hf (Wn.none rfl) (rd_move hf rfl rfl) hS rfl rfl ?_)
      clear hf; intro a hf
      refine step_l (st_rd hf (Wn.none rfl) (rd_shr hf rfl rfl rfl (by first | decide | omega) (n64_shr 7 rfl (by decide))) hS rfl rfl ?_)
      clear hf; intro a hf
      refine step_l (st_rd hf (Wn.none rfl) (rd_assign hf rfl rfl) hS rfl rfl ?_)
      clear hf; intro a hf
      refine done_l ?_
      refine b_normal ?_
      refine t_normal ⟨(m / 2 ^ 7, out ++ [UInt8.ofNat (m % 128 + 128)], pA, len + 1, capA), ⟨((hf.k0.kb hf 3 rfl (by rfl)).kb hf 0 rfl (by rfl)), (hS.rwCast (xs' := bvs (out ++ [UInt8.ofNat (m % 128 + 128)])) (by simp) rfl).sub (by repeat (first | exact Sub.refl | exact Sub.none | exact Sub.behind | (apply Sub.cons; (focus ((repeat (first | exact Sel.head | apply Sel.tail)); done))) | apply Sub.skip)), ⟨by simp [hlen], by omega, by rw [hnum, numB_ge (by omega)]; simp⟩⟩, by first | omega | (simp only []; omega)⟩
    · clear hf; intro hc1 a hf
      refine done_l ?_
      refine t_normal ?_
      refine c_false hf rfl ?_
      refine c_exit ?_
      refine t_exit ?_
      refine t_exit ?_
      refine b_exit ?_
      refine t_normal ?_
      refine c_seq ?_
      refine c_region ?_
      refine step_l (st_rd hf (Wn.none rfl) (rd_move hf rfl rfl) hS rfl rfl ?_)
      clear hf; intro a hf
      refine step_l (st_rd hf (Wn.none rfl) (rd_move hf rfl rfl) hS rfl rfl ?_)
      clear hf; intro a hf
      refine step_l (st_rd hf (Wn.none rfl) (rd_convInt hf rfl rfl Try.underlying30 Try.underlying5 (n8_of64 _)) hS rfl rfl ?_)
      clear hf; intro a hf
      refine step_l (st_buildSlice hf (Wn.none rfl) hS rfl rfl Try.underlying36 sz5 zr5 (by decide) bz5_1 rfl (.cons rfl (by rfl) (by rfl) (by repeat (first | exact Put.nil | apply Put.cons | apply Put.succ)) .nil) rfl rfl ?_)
      clear hf hS; intro b_4 a w hf hS
      refine step_l (st_append hf (Wn.none rfl) rfl rfl rfl Try.underlying36 tyb5 (by rfl) (by decide) hS (by repeat (first | exact Sel.head | apply Sel.tail)) (by first | exact hS.slOfBlk (by repeat (first | exact Sel.head | apply Sel.tail)) (by rfl) | exact hS.slOfBlkPre (by repeat (first | exact Sel.head | apply Sel.tail)) (bvs_len1 _) | exact hS.slOfRw (by repeat (first | exact Sel.head | apply Sel.tail)) | exact SlAt.nil _ _ _) (by first | rfl | exact bvs_one _ | (simp [Value.oneCell']; done)) (by omega) rfl rfl ?_)
      clear hf hS; intro pA capA a w hf hS hnilA
      refine step_l (st_rd hf (Wn.none rfl) (rd_assign hf rfl rfl) hS rfl rfl ?_)
      clear hf; intro a hf
      refine done_l ?_
      refine t_normal ?_
      refine c_ret ?_
      refine e_res1 hf.defers rfl (res_tmp hf rfl .nil) ?_
      have hfin : numB n = out ++ [UInt8.ofNat m] := by rw [hnum, numB_lt (by omega)]
      exact ⟨pA, capA, by rw [hfin, hlen]; simp, (hS.rwCast (xs' := bvs (numB n)) (by rw [hfin]; simp) (len' := (numB n).length) (by rw [hfin, hlen]; simp)).sub (by repeat (first | exact Sub.refl | exact Sub.none | exact Sub.behind | (apply Sub.cons; (focus ((repeat (first | exact Sel.head | apply Sel.tail)); done))) | apply Sub.skip))⟩

theorem Wput_c (p : Nat) (most : Int) (s : WS) (b : List UInt8) (qb : Option Addr) (nb cb : Nat) {W : World} {R : List HP} {w : World} (hS : Sat W (WrP 5 64 p most s :: R) w) (hm : 0 ≤ most ∧ most ≤ 9223372036854775807) (hr : most ≤ 140737488355328 ∨ s.1.length + b.length ≤ 140737488355328) (hnb : nb = b.length) (hv : ∀ w, Sat W R w → SlAt w qb b.length 1 (bvs b)) : Calls Try.prog 51 [.pointer (some ⟨p, 0, none⟩), .slice qb nb cb].toArray w (Ret fun v w' => v = .tuple #[] ∧ Sat W (WrP 5 64 p most (wput most s b) :: R) w') := by
  refine fn_start 41 Try.func51 rfl rfl rfl ?_
  intro a hf
  subst hnb; obtain ⟨bs, lg⟩ := s; obtain ⟨q, cap, hS⟩ := wr_open hS; have hL := hS.rwLen (.tail .head); simp only [maxLen] at hL hr; dsimp only at hr hS hL
  refine c_seq ?_
  refine c_seq ?_
  refine any_begin mixed hS.drew ?_
  replace hS := hS.drew
  have hT := hS
  refine any_take (i := 0) hf rfl (by kernel_rfl) (by kernel_rfl) (by kernel_rfl) (fun _ _ _ h => h) (Wn.none rfl) (rd_move hf rfl rfl) hT rfl rfl ?_
  clear hf; intro a hf
  refine any_takeb (i := 1) hf rfl (by kernel_rfl) (by kernel_rfl) (by kernel_rfl) (fun _ _ _ _ h => h) (Wn.none rfl) (rd_eqlNilP hf rfl rfl rfl Try.underlying47) hT rfl rfl ?_ ?_
  · clear hf; intro hc1 a hf
    exact Bool.noConfusion hc1
  · clear hf; intro hc1 a hf
    refine any_take (i := 2) hf rfl (by kernel_rfl) (by kernel_rfl) (by kernel_rfl) (fun _ _ _ h => h) (Wn.none rfl) (rd_move hf rfl rfl) hT rfl rfl ?_
    clear hf; intro a hf
    refine any_take (i := 3) hf rfl (by kernel_rfl) (by kernel_rfl) (by kernel_rfl) (fun _ _ _ h => h) (Wn.some hf rfl rfl rfl rfl) (rd_move hf rfl rfl) hT rfl rfl ?_
    clear hf; intro a hf
    refine any_take (i := 4) hf rfl (by kernel_rfl) (by kernel_rfl) (by kernel_rfl) (fun _ _ _ h => h) (Wn.some hf rfl rfl rfl rfl) (rd_nilCheck hf rfl rfl) hT rfl rfl ?_
    clear hf; intro a hf
    refine any_take (i := 5) hf rfl (by kernel_rfl) (by kernel_rfl) (by kernel_rfl) (fun _ _ _ h => h) (Wn.some hf rfl rfl rfl rfl) (rd_fieldAddrB hf rfl rfl fb64_2 rfl) hT rfl rfl ?_
    clear hf; intro a hf
    refine any_takeb (i := 6) hf rfl (by kernel_rfl) (by kernel_rfl) (by kernel_rfl) (fun _ _ _ _ h => h) (Wn.some hf rfl rfl rfl rfl) (rd_load1 hf rfl rfl ag4 (by intro _ h; first | exact h.cell (by repeat (first | exact Sel.head | apply Sel.tail)) (by rfl))) hT rfl rfl ?_ ?_
    · clear hf; intro hc2 a hf
      refine any_take (i := 7) hf rfl (by kernel_rfl) (by kernel_rfl) (by kernel_rfl) (fun _ _ _ h => h) (Wn.none rfl) (rd_pick_f hf rfl rfl rfl) hT rfl rfl ?_
      clear hf; intro a hf
      refine any_take (i := 8) hf rfl (by kernel_rfl) (by kernel_rfl) (by kernel_rfl) (fun _ _ _ h => h) (Wn.none rfl) (rd_move hf rfl rfl) hT rfl rfl ?_
      clear hf; intro a hf
      refine any_skip (i := 9) hf rfl (by kernel_rfl) (by kernel_rfl) (by kernel_rfl) (fun _ _ _ h => h) (Wn.some hf rfl rfl rfl rfl) hT rfl rfl ?_
      clear hf; intro a hf
      refine any_skip (i := 10) hf rfl (by kernel_rfl) (by kernel_rfl) (by kernel_rfl) (fun _ _ _ h => h) (Wn.some hf rfl rfl rfl rfl) hT rfl rfl ?_
      clear hf; intro a hf
      refine any_skip (i := 11) hf rfl (by kernel_rfl) (by kernel_rfl) (by kernel_rfl) (fun _ _ _ h => h) (Wn.some hf rfl rfl rfl rfl) hT rfl rfl ?_
      clear hf; intro a hf
      refine any_skip (i := 12) hf rfl (by kernel_rfl) (by kernel_rfl) (by kernel_rfl) (fun _ _ _ h => h) (Wn.some hf rfl rfl rfl rfl) hT rfl rfl ?_
      clear hf; intro a hf
      refine any_skip (i := 13) hf rfl (by kernel_rfl) (by kernel_rfl) (by kernel_rfl) (fun _ _ _ h => h) (Wn.some hf rfl rfl rfl rfl) hT rfl rfl ?_
      clear hf; intro a hf
      refine any_skip (i := 14) hf rfl (by kernel_rfl) (by kernel_rfl) (by kernel_rfl) (fun _ _ _ h => h) (Wn.some hf rfl rfl rfl rfl) hT rfl rfl ?_
      clear hf; intro a hf
      refine any_skip (i := 15) hf rfl (by kernel_rfl) (by kernel_rfl) (by kernel_rfl) (fun _ _ _ h => h) (Wn.some hf rfl rfl rfl rfl) hT rfl rfl ?_
      clear hf; intro a hf
      refine any_skip (i := 16) hf rfl (by kernel_rfl) (by kernel_rfl) (by kernel_rfl) (fun _ _ _ h => h) (Wn.some hf rfl rfl rfl rfl) hT rfl rfl ?_
      clear hf; intro a hf
      refine any_skip (i := 17) hf rfl (by kernel_rfl) (by kernel_rfl) (by kernel_rfl) (fun _ _ _ h => h) (Wn.some hf rfl rfl rfl rfl) hT rfl rfl ?_
      clear hf; intro a hf
      refine any_skip (i := 18) hf rfl (by kernel_rfl) (by kernel_rfl) (by kernel_rfl) (fun _ _ _ h => h) (Wn.some hf rfl rfl rfl rfl) hT rfl rfl ?_
      clear hf; intro a hf
      refine any_skip (i := 19) hf rfl (by kernel_rfl) (by kernel_rfl) (by kernel_rfl) (fun _ _ _ h => h) (Wn.some hf rfl rfl rfl rfl) hT rfl rfl ?_
      clear hf; intro a hf
      refine any_skip (i := 20) hf rfl (by kernel_rfl) (by kernel_rfl) (by kernel_rfl) (fun _ _ _ h => h) (Wn.some hf rfl rfl rfl rfl) hT rfl rfl ?_
      clear hf; intro a hf
      refine any_skip (i := 21) hf rfl (by kernel_rfl) (by kernel_rfl) (by kernel_rfl) (fun _ _ _ h => h) (Wn.some hf rfl rfl rfl rfl) hT rfl rfl ?_
      clear hf; intro a hf
      refine any_take (i := 22) hf rfl (by kernel_rfl) (by kernel_rfl) (by kernel_rfl) (fun _ _ _ h => h) (Wn.none rfl) (rd_pick_t hf rfl rfl rfl) hT rfl rfl ?_
      clear hf; intro a hf
      refine any_done (by kernel_rfl) ?_
      refine t_normal ?_
      refine c_true hf rfl ?_
      refine c_seq ?_
      refine c_seq ?_
      refine c_region ?_
      refine step_l (st_rd hf (Wn.none rfl) (rd_move hf rfl rfl) hS rfl rfl ?_)
      clear hf; intro a hf
      refine step_l (st_rdb hf (Wn.none rfl) (rd_neqNilP hf rfl rfl rfl Try.underlying47) hS rfl rfl ?_ ?_)
      · clear hf; intro hc3 a hf
        refine done_l ?_
        refine t_normal ?_
        refine c_true hf rfl ?_
        refine c_region ?_
        refine step_l (st_rd hf (Wn.none rfl) (rd_move hf rfl rfl) hS rfl rfl ?_)
        clear hf; intro a hf
        refine step_l (st_rd hf (Wn.none rfl) (rd_nilCheck hf rfl rfl) hS rfl rfl ?_)
        clear hf; intro a hf
        refine step_l (st_rd hf (Wn.none rfl) (rd_fieldAddrB hf rfl rfl fb64_2 rfl) hS rfl rfl ?_)
        clear hf; intro a hf
        refine step_l (st_store hf (Wn.none rfl) hS rfl rfl rfl (by rfl) sz4 (by rfl) (by rfl) (by repeat (first | exact Sel.head | apply Sel.tail)) (by repeat (first | exact Put.nil | apply Put.cons | apply Put.succ)) rfl ?_)
        clear hf hS; intro a w hf hS
        refine done_l ?_
        refine t_normal ?_
        refine c_ret ?_
        refine t_ret ?_
        refine e_none hf rfl ?_
        exact ⟨rfl, wr_shut (s := wput most (bs, lg) b) hS (by first | rw [wput_bad (by assumption)] | rw [wput_no (by dsimp only; omega)]) (by first | rw [wput_bad (by assumption)] | rw [wput_no (by dsimp only; omega)]) (by first | rw [wput_bad (by assumption)] | rw [wput_no (by dsimp only; omega)])⟩
      · clear hf; intro hc3 a hf
        exact Bool.noConfusion hc3
    · clear hf; intro hc2 a hf
      refine any_take (i := 7) hf rfl (by kernel_rfl) (by kernel_rfl) (by kernel_rfl) (fun _ _ _ h => h) (Wn.none rfl) (rd_pick_f hf rfl rfl rfl) hT rfl rfl ?_
      clear hf; intro a hf
      refine any_take (i := 8) hf rfl (by kernel_rfl) (by kernel_rfl) (by kernel_rfl) (fun _ _ _ h => h) (Wn.none rfl) (rd_move hf rfl rfl) hT rfl rfl ?_
      clear hf; intro a hf
      refine any_take (i := 9) hf rfl (by kernel_rfl) (by kernel_rfl) (by kernel_rfl) (fun _ _ _ h => h) (Wn.some hf rfl rfl rfl rfl) (rd_move hf rfl rfl) hT rfl rfl ?_
      clear hf; intro a hf
      refine any_take (i := 10) hf rfl (by kernel_rfl) (by kernel_rfl) (by kernel_rfl) (fun _ _ _ h => h) (Wn.some hf rfl rfl rfl rfl) (rd_len hf rfl rfl Try.underlying36) hT rfl rfl ?_
      clear hf; intro a hf
      refine any_take (i := 11) hf rfl (by kernel_rfl) (by kernel_rfl) (by kernel_rfl) (fun _ _ _ h => h) (Wn.some hf rfl rfl rfl rfl) (rd_move hf rfl rfl) hT rfl rfl ?_
      clear hf; intro a hf
      refine any_take (i := 12) hf rfl (by kernel_rfl) (by kernel_rfl) (by kernel_rfl) (fun _ _ _ h => h) (Wn.some hf rfl rfl rfl rfl) (rd_nilCheck hf rfl rfl) hT rfl rfl ?_
      clear hf; intro a hf
      refine any_take (i := 13) hf rfl (by kernel_rfl) (by kernel_rfl) (by kernel_rfl) (fun _ _ _ h => h) (Wn.some hf rfl rfl rfl rfl) (rd_fieldAddrB hf rfl rfl fb64_1 rfl) hT rfl rfl ?_
      clear hf; intro a hf
      refine any_take (i := 14) hf rfl (by kernel_rfl) (by kernel_rfl) (by kernel_rfl) (fun _ _ _ h => h) (Wn.some hf rfl rfl rfl rfl) (rd_load1 hf rfl rfl ag3 (by intro _ h; first | exact h.cell (by repeat (first | exact Sel.head | apply Sel.tail)) (by rfl))) hT rfl rfl ?_
      clear hf; intro a hf
      refine any_take (i := 15) hf rfl (by kernel_rfl) (by kernel_rfl) (by kernel_rfl) (fun _ _ _ h => h) (Wn.some hf rfl rfl rfl rfl) (rd_move hf rfl rfl) hT rfl rfl ?_
      clear hf; intro a hf
      refine any_take (i := 16) hf rfl (by kernel_rfl) (by kernel_rfl) (by kernel_rfl) (fun _ _ _ h => h) (Wn.some hf rfl rfl rfl rfl) (rd_nilCheck hf rfl rfl) hT rfl rfl ?_
      clear hf; intro a hf
      refine any_take (i := 17) hf rfl (by kernel_rfl) (by kernel_rfl) (by kernel_rfl) (fun _ _ _ h => h) (Wn.some hf rfl rfl rfl rfl) (rd_fieldAddrB hf rfl rfl fb64_0 rfl) hT rfl rfl ?_
      clear hf; intro a hf
      refine any_take (i := 18) hf rfl (by kernel_rfl) (by kernel_rfl) (by kernel_rfl) (fun _ _ _ h => h) (Wn.some hf rfl rfl rfl rfl) (rd_load1 hf rfl rfl ag36 (by intro _ h; first | exact h.cell (by repeat (first | exact Sel.head | apply Sel.tail)) (by rfl))) hT rfl rfl ?_
      clear hf; intro a hf
      refine any_take (i := 19) hf rfl (by kernel_rfl) (by kernel_rfl) (by kernel_rfl) (fun _ _ _ h => h) (Wn.some hf rfl rfl rfl rfl) (rd_len hf rfl rfl Try.underlying36) hT rfl rfl ?_
      clear hf; intro a hf
      refine any_take (i := 20) hf rfl (by kernel_rfl) (by kernel_rfl) (by kernel_rfl) (fun _ _ _ h => h) (Wn.some hf rfl rfl rfl rfl) (rd_sub hf rfl rfl rfl (by first | exact Go.IntWalk.i64_in _ (by omega) | exact rfl)) hT rfl rfl ?_
      clear hf; intro a hf
      refine any_takeB (i := 21) hf rfl (by kernel_rfl) (by kernel_rfl) (by kernel_rfl) (fun _ _ _ _ h => h) (Wn.some hf rfl rfl rfl rfl) (rd_gtr hf rfl rfl rfl) hT rfl rfl ?_ ?_
      · clear hf; intro hc4 a hf
        refine any_take (i := 22) hf rfl (by kernel_rfl) (by kernel_rfl) (by kernel_rfl) (fun _ _ _ h => h) (Wn.none rfl) (rd_pick_f hf rfl rfl rfl) hT rfl rfl ?_
        clear hf; intro a hf
        refine any_done (by kernel_rfl) ?_
        refine t_normal ?_
        refine c_true hf rfl ?_
        refine c_seq ?_
        refine c_seq ?_
        refine c_region ?_
        refine step_l (st_rd hf (Wn.none rfl) (rd_move hf rfl rfl) hS rfl rfl ?_)
        clear hf; intro a hf
        refine step_l (st_rdb hf (Wn.none rfl) (rd_neqNilP hf rfl rfl rfl Try.underlying47) hS rfl rfl ?_ ?_)
        · clear hf; intro hc5 a hf
          refine done_l ?_
          refine t_normal ?_
          refine c_true hf rfl ?_
          refine c_region ?_
          refine step_l (st_rd hf (Wn.none rfl) (rd_move hf rfl rfl) hS rfl rfl ?_)
          clear hf; intro a hf
          refine step_l (st_rd hf (Wn.none rfl) (rd_nilCheck hf rfl rfl) hS rfl rfl ?_)
          clear hf; intro a hf
          refine step_l (st_rd hf (Wn.none rfl) (rd_fieldAddrB hf rfl rfl fb64_2 rfl) hS rfl rfl ?_)
          clear hf; intro a hf
          refine step_l (st_store hf (Wn.none rfl) hS rfl rfl rfl (by rfl) sz4 (by rfl) (by rfl) (by repeat (first | exact Sel.head | apply Sel.tail)) (by repeat (first | exact Put.nil | apply Put.cons | apply Put.succ)) rfl ?_)
          clear hf hS; intro a w hf hS
          refine done_l ?_
          refine t_normal ?_
          refine c_ret ?_
          refine t_ret ?_
          refine e_none hf rfl ?_
          exact ⟨rfl, wr_shut (s := wput most (bs, lg) b) hS (by first | rw [wput_bad (by assumption)] | rw [wput_no (by dsimp only; omega)]) (by first | rw [wput_bad (by assumption)] | rw [wput_no (by dsimp only; omega)]) (by first | rw [wput_bad (by assumption)] | rw [wput_no (by dsimp only; omega)])⟩
        · clear hf; intro hc5 a hf
          exact Bool.noConfusion hc5
      · clear hf; intro hc4 a hf
        refine any_take (i := 22) hf rfl (by kernel_rfl) (by kernel_rfl) (by kernel_rfl) (fun _ _ _ h => h) (Wn.none rfl) (rd_pick_f hf rfl rfl rfl) hT rfl rfl ?_
        clear hf; intro a hf
        refine any_done (by kernel_rfl) ?_
        refine t_normal ?_
        refine c_false hf rfl ?_
        refine c_skip ?_
        refine t_normal ?_
        refine c_region ?_
        refine step_l (st_rd hf (Wn.none rfl) (rd_move hf rfl rfl) hS rfl rfl ?_)
        clear hf; intro a hf
        refine step_l (st_rd hf (Wn.none rfl) (rd_move hf rfl rfl) hS rfl rfl ?_)
        clear hf; intro a hf
        refine step_l (st_rd hf (Wn.none rfl) (rd_nilCheck hf rfl rfl) hS rfl rfl ?_)
        clear hf; intro a hf
        refine step_l (st_rd hf (Wn.none rfl) (rd_fieldAddrB hf rfl rfl fb64_0 rfl) hS rfl rfl ?_)
        clear hf; intro a hf
        refine step_l (st_rd hf (Wn.none rfl) (rd_load1 hf rfl rfl ag36 (by intro _ h; first | exact h.cell (by repeat (first | exact Sel.head | apply Sel.tail)) (by rfl))) hS rfl rfl ?_)
        clear hf; intro a hf
        refine step_l (st_rd hf (Wn.none rfl) (rd_move hf rfl rfl) hS rfl rfl ?_)
        clear hf; intro a hf
        refine step_l (st_append hf (Wn.none rfl) rfl rfl rfl Try.underlying36 tyb5 (by rfl) (by decide) hS (by repeat (first | exact Sel.head | apply Sel.tail)) (by first | exact hS.slOfBlk (by repeat (first | exact Sel.head | apply Sel.tail)) (by rfl) | exact hS.slOfBlkPre (by repeat (first | exact Sel.head | apply Sel.tail)) (bvs_len1 _) | exact hS.slOfRw (by repeat (first | exact Sel.head | apply Sel.tail)) | exact SlAt.nil _ _ _ | exact hv _ (hS.sub (by repeat (first | exact Sub.refl | exact Sub.none | exact Sub.behind | (apply Sub.cons; (focus ((repeat (first | exact Sel.head | apply Sel.tail)); done))) | apply Sub.skip)))) (by first | rfl | exact bvs_one _ | (simp [Value.oneCell']; done)) (by omega) rfl rfl ?_)
        clear hf hS; intro pA capA a w hf hS hnilA
        refine step_l (st_rd hf (Wn.none rfl) (rd_nilCheck hf rfl rfl) hS rfl rfl ?_)
        clear hf; intro a hf
        refine step_l (st_rd hf (Wn.none rfl) (rd_fieldAddrB hf rfl rfl fb64_0 rfl) hS rfl rfl ?_)
        clear hf; intro a hf
        refine step_l (st_store hf (Wn.none rfl) hS rfl rfl rfl (by rfl) sz36 (by rfl) (by rfl) (by repeat (first | exact Sel.head | apply Sel.tail)) (by repeat (first | exact Put.nil | apply Put.cons | apply Put.succ)) rfl ?_)
        clear hf hS; intro a w hf hS
        refine done_l ?_
        refine e_none' hf rfl ?_
        exact ⟨rfl, wr_shut (s := wput most (bs, lg) b) (q := pA) (cap := capA) hS (by rw [wput_yes (by assumption) (by dsimp only; omega)]; simp) (by rw [wput_yes (by assumption) (by dsimp only; omega)]; simp) (by rw [wput_yes (by assumption) (by dsimp only; omega)]; first | rfl | assumption)⟩

theorem WNum_c (p : Nat) (most : Int) (s : WS) (n : Nat) {W : World} {R : List HP} {w : World} (hS : Sat W (WrP 5 64 p most s :: R) w) (hm : 0 ≤ most ∧ most ≤ 9223372036854775807) (hr : most ≤ 140737488355328 ∨ s.1.length + (numB n).length ≤ 140737488355328) (hn : n < 18446744073709551616) : Calls Try.prog 46 [.pointer (some ⟨p, 0, none⟩), .int .u64 (n : Nat)].toArray w (Ret fun v w' => v = .tuple #[] ∧ Sat W (WrP 5 64 p most (wput most s (numB n)) :: R) w') := by
  refine fn_start 8 Try.func46 rfl rfl rfl ?_
  intro a hf
  refine c_region ?_
  refine step_l (st_rd hf (Wn.none rfl) (rd_move hf rfl rfl) hS rfl rfl ?_)
  clear hf; intro a hf
  refine step_l (st_rd hf (Wn.none rfl) (rd_move hf rfl rfl) hS rfl rfl ?_)
  clear hf; intro a hf
  refine step_l (st_call hf (Wn.none rfl) rfl rfl rfl fn52 (Wnum_c _ hS (by first | assumption | exact zz_lt (by assumption) | omega)) rfl rfl ?_)
  clear hf hS; rintro v a w ⟨qn_1, capn_1, rfl, hS⟩ hf
  refine step_l (st_call hf (Wn.none rfl) rfl rfl rfl fn51 (Wput_c _ _ _ _ _ _ _ (hS.sel (by repeat (first | exact Sel.head | apply Sel.tail))) (by first | assumption | exact ⟨by omega, by omega⟩) (by first | assumption | exact .inl (by omega) | exact .inr (by omega)) rfl (fun _ h => h.slOfRw (by repeat (first | exact Sel.head | apply Sel.tail)))) rfl rfl ?_)
  clear hf hS; rintro v a w ⟨rfl, hS⟩ hf
  refine done_l ?_
  refine e_none' hf rfl ?_
  exact ⟨rfl, hS.sub (by repeat (first | exact Sub.refl | exact Sub.none | exact Sub.behind | (apply Sub.cons; (focus ((repeat (first | exact Sel.head | apply Sel.tail)); done))) | apply Sub.skip))⟩

theorem WInt_c (p : Nat) (most : Int) (s : WS) (n : Int) {W : World} {R : List HP} {w : World} (hS : Sat W (WrP 5 64 p most s :: R) w) (hm : 0 ≤ most ∧ most ≤ 9223372036854775807) (hr : most ≤ 140737488355328 ∨ s.1.length + (numB (zz n)).length ≤ 140737488355328) (hn : -9223372036854775808 ≤ n ∧ n ≤ 9223372036854775807) : Calls Try.prog 47 [.pointer (some ⟨p, 0, none⟩), .int .i64 n].toArray w (Ret fun v w' => v = .tuple #[] ∧ Sat W (WrP 5 64 p most (wput most s (numB (zz n))) :: R) w') := by
  refine fn_start 14 Try.func47 rfl rfl rfl ?_
  intro a hf
  refine c_region ?_
  refine step_l (st_rd hf (Wn.none rfl) (rd_move hf rfl rfl) hS rfl rfl ?_)
  clear hf; intro a hf
  refine step_l (st_rd hf (Wn.none rfl) (rd_move hf rfl rfl) hS rfl rfl ?_)
  clear hf; intro a hf
  refine step_l (st_rd hf (Wn.none rfl) (rd_convInt hf rfl rfl Try.underlying2 Try.underlying30 rfl) hS rfl rfl ?_)
  clear hf; intro a hf
  refine step_l (st_rd hf (Wn.none rfl) (rd_shl hf rfl rfl rfl (by first | decide | omega) rfl) hS rfl rfl ?_)
  clear hf; intro a hf
  refine step_l (st_rd hf (Wn.none rfl) (rd_move hf rfl rfl) hS rfl rfl ?_)
  clear hf; intro a hf
  refine step_l (st_rd hf (Wn.none rfl) (rd_shr hf rfl rfl rfl (by first | decide | omega) rfl) hS rfl rfl ?_)
  clear hf; intro a hf
  refine step_l (st_rd hf (Wn.none rfl) (rd_convInt hf rfl rfl Try.underlying2 Try.underlying30 rfl) hS rfl rfl ?_)
  clear hf; intro a hf
  refine step_l (st_rd hf (Wn.none rfl) (rd_xor hf rfl rfl rfl (zz_val hn)) hS rfl rfl ?_)
  clear hf; intro a hf
  refine step_l (st_call hf (Wn.none rfl) rfl rfl rfl fn52 (Wnum_c _ hS (by first | assumption | exact zz_lt (by assumption) | omega)) rfl rfl ?_)
  clear hf hS; rintro v a w ⟨qn_1, capn_1, rfl, hS⟩ hf
  refine step_l (st_call hf (Wn.none rfl) rfl rfl rfl fn51 (Wput_c _ _ _ _ _ _ _ (hS.sel (by repeat (first | exact Sel.head | apply Sel.tail))) (by first | assumption | exact ⟨by omega, by omega⟩) (by first | assumption | exact .inl (by omega) | exact .inr (by omega)) rfl (fun _ h => h.slOfRw (by repeat (first | exact Sel.head | apply Sel.tail)))) rfl rfl ?_)
  clear hf hS; rintro v a w ⟨rfl, hS⟩ hf
  refine done_l ?_
  refine e_none' hf rfl ?_
  exact ⟨rfl, hS.sub (by repeat (first | exact Sub.refl | exact Sub.none | exact Sub.behind | (apply Sub.cons; (focus ((repeat (first | exact Sel.head | apply Sel.tail)); done))) | apply Sub.skip))⟩

theorem NewWriter_c (most : Int) {W : World} {R : List HP} {w : World} (hS : Sat W (R) w)  : Calls Try.prog 35 [.int .i64 most].toArray w (Ret fun v w' => ∃ p, v = .pointer (some ⟨p, 0, none⟩) ∧ Sat W (WrP 5 64 p (max 0 most) ([], false) :: R) w') := by
  refine fn_start 7 Try.func35 rfl rfl rfl ?_
  intro a hf
  refine c_seq ?_
  refine c_region ?_
  refine step_l (st_rd hf (Wn.none rfl) (rd_assign hf rfl rfl) hS rfl rfl ?_)
  clear hf; intro a hf
  refine done_l ?_
  refine t_normal ?_
  refine c_seq ?_
  refine c_region ?_
  refine step_l (st_rd hf (Wn.none rfl) (rd_move hf rfl rfl) hS rfl rfl ?_)
  clear hf; intro a hf
  refine step_l (st_rd hf (Wn.none rfl) (rd_max hf rfl rfl rfl) hS rfl rfl ?_)
  clear hf; intro a hf
  refine step_l (st_rd hf (Wn.none rfl) (rd_build hf rfl rfl zr64 (by rfl) pl64 (.cons rfl (by rfl) (by rfl) (by repeat (first | exact Put.nil | apply Put.cons | apply Put.succ)) .nil)) hS rfl rfl ?_)
  clear hf; intro a hf
  refine step_l (st_box hf (Wn.none rfl) hS rfl rfl (by rfl) rfl rfl ?_)
  clear hf hS; intro b_1 a w hf hS
  refine step_l (st_rd hf (Wn.none rfl) (rd_assign hf rfl rfl) hS rfl rfl ?_)
  clear hf; intro a hf
  refine done_l ?_
  refine t_normal ?_
  refine c_ret ?_
  refine e_res1 hf.defers rfl (res_tmp hf rfl .nil) ?_
  exact ⟨b_1, rfl, wr_shut (s := ([], false)) (q := none) (n := 0) (cap := 0) ((hS.rwNil 5 1).sub (.cons (.tail .head) (.cons .head .refl))) rfl rfl rfl⟩

theorem Done_c (p : Nat) (most : Int) (s : WS) {W : World} {R : List HP} {w : World} (hS : Sat W (WrP 5 64 p most s :: R) w) (hr : s.1.length ≤ 140737488355328) : Calls Try.prog 37 [.pointer (some ⟨p, 0, none⟩)].toArray w (Ret fun v w' => ∃ q cap, v = .tuple #[.slice q (doneB s).length cap, .int .i64 (doneE s)] ∧ Sat W (Rw 5 1 q (doneB s).length cap (bvs (doneB s)) :: WrP 5 64 p most s :: R) w') := by
  refine fn_start 17 Try.func37 rfl rfl rfl ?_
  intro a hf
  obtain ⟨bs, lg⟩ := s; obtain ⟨q, cap, hS⟩ := wr_open hS; dsimp only at hr hS
  refine c_seq ?_
  refine c_region ?_
  refine step_l (st_rd hf (Wn.none rfl) (rd_assign hf rfl rfl) hS rfl rfl ?_)
  clear hf; intro a hf
  refine step_l (st_rd hf (Wn.none rfl) (rd_assign hf rfl rfl) hS rfl rfl ?_)
  clear hf; intro a hf
  refine done_l ?_
  refine t_normal ?_
  refine c_seq ?_
  refine c_block ?_
  refine c_seq ?_
  refine c_region ?_
  refine step_l (st_rd hf (Wn.none rfl) (rd_move hf rfl rfl) hS rfl rfl ?_)
  clear hf; intro a hf
  refine step_l (st_rdb hf (Wn.none rfl) (rd_eqlNilP hf rfl rfl rfl Try.underlying47) hS rfl rfl ?_ ?_)
  · clear hf; intro hc1 a hf
    exact Bool.noConfusion hc1
  · clear hf; intro hc1 a hf
    refine step_l (st_rd hf (Wn.none rfl) (rd_assign hf rfl rfl) hS rfl rfl ?_)
    clear hf; intro a hf
    refine done_l ?_
    refine t_normal ?_
    refine c_false hf rfl ?_
    refine c_seq ?_
    refine c_region ?_
    refine step_l (st_rd hf (Wn.none rfl) (rd_move hf rfl rfl) hS rfl rfl ?_)
    clear hf; intro a hf
    refine step_l (st_rd hf (Wn.none rfl) (rd_nilCheck hf rfl rfl) hS rfl rfl ?_)
    clear hf; intro a hf
    refine step_l (st_rd hf (Wn.none rfl) (rd_fieldAddrB hf rfl rfl fb64_2 rfl) hS rfl rfl ?_)
    clear hf; intro a hf
    refine step_l (st_rdb hf (Wn.none rfl) (rd_load1 hf rfl rfl ag4 (by intro _ h; first | exact h.cell (by repeat (first | exact Sel.head | apply Sel.tail)) (by rfl))) hS rfl rfl ?_ ?_)
    · clear hf; intro hc2 a hf
      subst hc2
      refine step_l (st_rd hf (Wn.none rfl) (rd_assign hf rfl rfl) hS rfl rfl ?_)
      clear hf; intro a hf
      refine done_l ?_
      refine t_normal ?_
      refine c_true hf rfl ?_
      refine c_seq ?_
      refine c_region ?_
      refine step_l (st_rd hf (Wn.none rfl) (rd_assign hf rfl rfl) hS rfl rfl ?_)
      clear hf; intro a hf
      refine step_l (st_rd hf (Wn.none rfl) (rd_assign hf rfl rfl) hS rfl rfl ?_)
      clear hf; intro a hf
      refine done_l ?_
      refine t_normal ?_
      refine c_ret ?_
      refine b_ret ?_
      refine t_ret ?_
      refine e_resN hf.defers rfl (res_tmp hf rfl (res_tmp hf rfl .nil)) ?_
      exact ⟨none, 0, rfl, (wr_shut (s := (bs, true)) hS rfl rfl rfl).rwNil _ 1⟩
    · clear hf; intro hc2 a hf
      subst hc2
      refine step_l (st_rd hf (Wn.none rfl) (rd_assign hf rfl rfl) hS rfl rfl ?_)
      clear hf; intro a hf
      refine done_l ?_
      refine t_normal ?_
      refine c_false hf rfl ?_
      refine c_skip ?_
      refine b_normal ?_
      refine t_normal ?_
      refine c_seq ?_
      refine c_region ?_
      refine step_l (st_rd hf (Wn.none rfl) (rd_move hf rfl rfl) hS rfl rfl ?_)
      clear hf; intro a hf
      refine step_l (st_rd hf (Wn.none rfl) (rd_nilCheck hf rfl rfl) hS rfl rfl ?_)
      clear hf; intro a hf
      refine step_l (st_rd hf (Wn.none rfl) (rd_fieldAddrB hf rfl rfl fb64_0 rfl) hS rfl rfl ?_)
      clear hf; intro a hf
      refine step_l (st_rd hf (Wn.none rfl) (rd_load1 hf rfl rfl ag36 (by intro _ h; first | exact h.cell (by repeat (first | exact Sel.head | apply Sel.tail)) (by rfl))) hS rfl rfl ?_)
      clear hf; intro a hf
      refine step_l (st_call hf (Wn.none rfl) rfl rfl rfl fn48 (Clone_c bs _ _ _ hS rfl (by omega) (fun _ h => h.slOfRw (by repeat (first | exact Sel.head | apply Sel.tail)))) rfl rfl ?_)
      clear hf hS; rintro v a w ⟨qc_3, capc_3, rfl, hS⟩ hf
      refine step_l (st_rd hf (Wn.none rfl) (rd_assign hf rfl rfl) hS rfl rfl ?_)
      clear hf; intro a hf
      refine step_l (st_rd hf (Wn.none rfl) (rd_assign hf rfl rfl) hS rfl rfl ?_)
      clear hf; intro a hf
      refine done_l ?_
      refine t_normal ?_
      refine c_ret ?_
      refine e_resN hf.defers rfl (res_tmp hf rfl (res_tmp hf rfl .nil)) ?_
      exact ⟨_, _, rfl, (wr_shut (s := (bs, false)) (q := q) (cap := cap) (hS.sub (.cons (.tail .head) (.cons (.tail .head) .refl))) rfl rfl rfl).sub (.cons (.tail .head) .refl)⟩

theorem NewReader_c (bs : List UInt8) (q0 : Option Addr) (n0 cap0 : Nat) {W : World} {R : List HP} {w : World} (hS : Sat W (R) w) (hn0 : n0 = bs.length) (hb : bs.length ≤ 140737488355328) (hv : ∀ w, Sat W R w → SlAt w q0 bs.length 1 (bvs bs)) : Calls Try.prog 38 [.slice q0 n0 cap0].toArray w (Ret fun v w' => ∃ p, v = .pointer (some ⟨p, 0, none⟩) ∧ Sat W (RdP 69 p (bs, 0) :: R) w') := by
  refine fn_start 7 Try.func38 rfl rfl rfl ?_
  intro a hf
  refine c_seq ?_
  refine c_region ?_
  refine step_l (st_rd hf (Wn.none rfl) (rd_assign hf rfl rfl) hS rfl rfl ?_)
  clear hf; intro a hf
  refine done_l ?_
  refine t_normal ?_
  refine c_seq ?_
  refine c_region ?_
  refine step_l (st_rd hf (Wn.none rfl) (rd_move hf rfl rfl) hS rfl rfl ?_)
  clear hf; intro a hf
  refine step_l (st_call hf (Wn.none rfl) rfl rfl rfl fn48 (Clone_c bs _ _ _ hS hn0 (by omega) (fun _ h => hv _ h)) rfl rfl ?_)
  clear hf hS; rintro v a w ⟨qc_1, capc_1, rfl, hS⟩ hf
  refine step_l (st_rd hf (Wn.none rfl) (rd_build hf rfl rfl zr69 (by rfl) pl69 (.cons rfl (by rfl) (by rfl) (by repeat (first | exact Put.nil | apply Put.cons | apply Put.succ)) .nil)) hS rfl rfl ?_)
  clear hf; intro a hf
  refine step_l (st_box hf (Wn.none rfl) hS rfl rfl (by rfl) rfl rfl ?_)
  clear hf hS; intro b_2 a w hf hS
  refine step_l (st_rd hf (Wn.none rfl) (rd_assign hf rfl rfl) hS rfl rfl ?_)
  clear hf; intro a hf
  refine done_l ?_
  refine t_normal ?_
  refine c_ret ?_
  refine e_res1 hf.defers rfl (res_tmp hf rfl .nil) ?_
  have hL := (hS.rwLen (.tail .head)).2.1
  exact ⟨b_2, rfl, rd_shut (s := (bs, 0)) (q := qc_1) (cap := capc_1) ((Sat.vwOfRw (hS.sub (.cons (.tail .head) (.cons .head .refl)))).sub (.cons (.tail .head) (.cons .head .refl))) rfl rfl rfl hL⟩

theorem RWok_c (p : Nat) (s : RS)  {W : World} {R : List HP} {w : World} (hS : Sat W (RdP 69 p (s) :: R) w)  : Calls Try.prog 55 [.pointer (some ⟨p, 0, none⟩)].toArray w (Ret fun v w' => v = .bool (decide (s.2 = 0)) ∧ Sat W (RdP 69 p (s) :: R) w') := by
  refine fn_start 12 Try.func55 rfl rfl rfl ?_
  intro a hf
  obtain ⟨bs, e⟩ := s; obtain ⟨q, cap, hcap, hS⟩ := rd_open hS; dsimp only at hS hcap
  refine c_seq ?_
  refine c_region ?_
  refine step_l (st_rd hf (Wn.none rfl) (rd_assign hf rfl rfl) hS rfl rfl ?_)
  clear hf; intro a hf
  refine done_l ?_
  refine t_normal ?_
  refine c_seq ?_
  refine c_region ?_
  refine step_l (st_rd hf (Wn.none rfl) (rd_move hf rfl rfl) hS rfl rfl ?_)
  clear hf; intro a hf
  refine step_l (st_rdb hf (Wn.none rfl) (rd_neqNilP hf rfl rfl rfl Try.underlying53) hS rfl rfl ?_ ?_)
  · clear hf; intro hc1 a hf
    refine step_l (st_rd hf (Wn.none rfl) (rd_move hf rfl rfl) hS rfl rfl ?_)
    clear hf; intro a hf
    refine step_l (st_rd hf (Wn.some hf rfl rfl rfl rfl) (rd_move hf rfl rfl) hS rfl rfl ?_)
    clear hf; intro a hf
    refine step_l (st_rd hf (Wn.some hf rfl rfl rfl rfl) (rd_nilCheck hf rfl rfl) hS rfl rfl ?_)
    clear hf; intro a hf
    refine step_l (st_rd hf (Wn.some hf rfl rfl rfl rfl) (rd_fieldAddrB hf rfl rfl fb69_1 rfl) hS rfl rfl ?_)
    clear hf; intro a hf
    refine step_l (st_rd hf (Wn.some hf rfl rfl rfl rfl) (rd_load1 hf rfl rfl ag50 (by intro _ h; first | exact h.cell (by repeat (first | exact Sel.head | apply Sel.tail)) (by rfl))) hS rfl rfl ?_)
    clear hf; intro a hf
    refine step_l (st_rd hf (Wn.some hf rfl rfl rfl rfl) (rd_eql hf rfl rfl rfl) hS rfl rfl ?_)
    clear hf; intro a hf
    refine step_l (st_rd hf (Wn.none rfl) (rd_pick_t hf rfl rfl rfl) hS rfl rfl ?_)
    clear hf; intro a hf
    refine step_l (st_rd hf (Wn.none rfl) (rd_assign hf rfl rfl) hS rfl rfl ?_)
    clear hf; intro a hf
    refine done_l ?_
    refine t_normal ?_
    refine c_ret ?_
    refine e_res1 hf.defers rfl (res_tmp hf rfl .nil) ?_
    exact ⟨rfl, rd_shut (s := (bs, e)) hS rfl rfl rfl hcap⟩
  · clear hf; intro hc1 a hf
    exact Bool.noConfusion hc1

theorem RWfail_c (p : Nat) (s : RS) (f : Int) {W : World} {R : List HP} {w : World} (hS : Sat W (RdP 69 p (s) :: R) w)  : Calls Try.prog 54 [.pointer (some ⟨p, 0, none⟩), .int .i64 f].toArray w (Ret fun v w' => v = .tuple #[] ∧ Sat W (RdP 69 p ((([], f) : RS)) :: R) w') := by
  refine fn_start 11 Try.func54 rfl rfl rfl ?_
  intro a hf
  obtain ⟨bs, e⟩ := s; obtain ⟨q, cap, hcap, hS⟩ := rd_open hS; dsimp only at hS hcap
  refine c_region ?_
  refine step_l (st_rd hf (Wn.none rfl) (rd_move hf rfl rfl) hS rfl rfl ?_)
  clear hf; intro a hf
  refine step_l (st_rd hf (Wn.none rfl) (rd_move hf rfl rfl) hS rfl rfl ?_)
  clear hf; intro a hf
  refine step_l (st_rd hf (Wn.none rfl) (rd_move hf rfl rfl) hS rfl rfl ?_)
  clear hf; intro a hf
  refine step_l (st_rd hf (Wn.none rfl) (rd_nilCheck hf rfl rfl) hS rfl rfl ?_)
  clear hf; intro a hf
  refine step_l (st_rd hf (Wn.none rfl) (rd_fieldAddrB hf rfl rfl fb69_1 rfl) hS rfl rfl ?_)
  clear hf; intro a hf
  refine step_l (st_store hf (Wn.none rfl) hS rfl rfl rfl (by rfl) sz50 (by rfl) (by rfl) (by repeat (first | exact Sel.head | apply Sel.tail)) (by repeat (first | exact Put.nil | apply Put.cons | apply Put.succ)) rfl ?_)
  clear hf hS; intro a w hf hS
  refine step_l (st_rd hf (Wn.none rfl) (rd_nilCheck hf rfl rfl) hS rfl rfl ?_)
  clear hf; intro a hf
  refine step_l (st_rd hf (Wn.none rfl) (rd_fieldAddrB hf rfl rfl fb69_0 rfl) hS rfl rfl ?_)
  clear hf; intro a hf
  refine step_l (st_store hf (Wn.none rfl) hS rfl rfl rfl (by rfl) sz36 (by rfl) (by rfl) (by repeat (first | exact Sel.head | apply Sel.tail)) (by repeat (first | exact Put.nil | apply Put.cons | apply Put.succ)) rfl ?_)
  clear hf hS; intro a w hf hS
  refine done_l ?_
  refine e_none' hf rfl ?_
  exact ⟨rfl, rd_shutNil hS rfl⟩

theorem RWbyte_c (p : Nat) (s : RS)  {W : World} {R : List HP} {w : World} (hS : Sat W (RdP 69 p (s) :: R) w)  : Calls Try.prog 53 [.pointer (some ⟨p, 0, none⟩)].toArray w (Ret fun v w' => v = .tuple #[.int .u8 ((bX s).toNat : Nat), .bool (bOk s)] ∧ Sat W (RdP 69 p (bS s) :: R) w') := by
  refine fn_start 31 Try.func53 rfl rfl rfl ?_
  intro a hf
  refine c_seq ?_
  refine c_region ?_
  refine step_l (st_rd hf (Wn.none rfl) (rd_assign hf rfl rfl) hS rfl rfl ?_)
  clear hf; intro a hf
  refine step_l (st_rd hf (Wn.none rfl) (rd_assign hf rfl rfl) hS rfl rfl ?_)
  clear hf; intro a hf
  refine done_l ?_
  refine t_normal ?_
  refine c_seq ?_
  refine c_seq ?_
  refine c_region ?_
  refine step_l (st_rd hf (Wn.none rfl) (rd_move hf rfl rfl) hS rfl rfl ?_)
  clear hf; intro a hf
  refine step_l (st_call hf (Wn.none rfl) rfl rfl rfl fn55 (RWok_c _ _ (hS.sel (by repeat (first | exact Sel.head | apply Sel.tail)))) rfl rfl ?_)
  clear hf hS; rintro v a w ⟨rfl, hS⟩ hf
  first | refine split_dec (d := 6) hf rfl ?_ ?_ | refine split_bool (d := 6) hf rfl ?_ ?_
  · clear hf; intro hc1 hf
    obtain ⟨bs, e⟩ := s; obtain rfl : e = 0 := hc1; obtain ⟨q, cap, hcap, hS⟩ := rd_open hS; dsimp only at hS hcap
    refine step_l (st_rd hf (Wn.none rfl) (rd_not hf rfl rfl) hS rfl rfl ?_)
    clear hf; intro a hf
    refine done_l ?_
    refine t_normal ?_
    refine c_false hf rfl ?_
    refine c_skip ?_
    refine t_normal ?_
    refine c_seq ?_
    refine c_seq ?_
    refine c_region ?_
    refine step_l (st_rd hf (Wn.none rfl) (rd_move hf rfl rfl) hS rfl rfl ?_)
    clear hf; intro a hf
    refine step_l (st_rd hf (Wn.none rfl) (rd_nilCheck hf rfl rfl) hS rfl rfl ?_)
    clear hf; intro a hf
    refine step_l (st_rd hf (Wn.none rfl) (rd_fieldAddrB hf rfl rfl fb69_0 rfl) hS rfl rfl ?_)
    clear hf; intro a hf
    refine step_l (st_rd hf (Wn.none rfl) (rd_load1 hf rfl rfl ag36 (by intro _ h; first | exact h.cell (by repeat (first | exact Sel.head | apply Sel.tail)) (by rfl))) hS rfl rfl ?_)
    clear hf; intro a hf
    refine step_l (st_rd hf (Wn.none rfl) (rd_len hf rfl rfl Try.underlying36) hS rfl rfl ?_)
    clear hf; intro a hf
    refine step_l (st_rdB hf (Wn.none rfl) (rd_eql hf rfl rfl rfl) hS rfl rfl ?_ ?_)
    · clear hf; intro hc2 a hf
      obtain rfl : bs = [] := List.eq_nil_of_length_eq_zero (by omega); replace hS := rd_shut (s := ([], 0)) hS rfl rfl rfl hcap
      refine done_l ?_
      refine t_normal ?_
      refine c_true hf rfl ?_
      refine c_seq ?_
      refine c_region ?_
      refine step_l (st_rd hf (Wn.none rfl) (rd_move hf rfl rfl) hS rfl rfl ?_)
      clear hf; intro a hf
      refine step_l (st_call hf (Wn.none rfl) rfl rfl rfl fn54 (RWfail_c _ _ _ (hS.sel (by repeat (first | exact Sel.head | apply Sel.tail)))) rfl rfl ?_)
      clear hf hS; rintro v a w ⟨rfl, hS⟩ hf
      refine done_l ?_
      refine t_normal ?_
      refine c_seq ?_
      refine c_region ?_
      refine step_l (st_rd hf (Wn.none rfl) (rd_assign hf rfl rfl) hS rfl rfl ?_)
      clear hf; intro a hf
      refine step_l (st_rd hf (Wn.none rfl) (rd_assign hf rfl rfl) hS rfl rfl ?_)
      clear hf; intro a hf
      refine done_l ?_
      refine t_normal ?_
      refine c_ret ?_
      refine t_ret ?_
      refine e_resN hf.defers rfl (res_tmp hf rfl (res_tmp hf rfl .nil)) ?_
      exact ⟨rfl, hS⟩
    · clear hf; intro hc2 a hf
      obtain ⟨x, r, rfl⟩ := List.exists_cons_of_ne_nil (l := bs) (by rintro rfl; exact hc2 rfl); have hxl : (x :: r).length = r.length + 1 := rfl; obtain ⟨ad, rfl⟩ := (hS.vw (.tail .head)).some (by omega)
      refine done_l ?_
      refine t_normal ?_
      refine c_false hf rfl ?_
      refine c_skip ?_
      refine t_normal ?_
      refine c_seq ?_
      refine c_region ?_
      refine step_l (st_rd hf (Wn.none rfl) (rd_move hf rfl rfl) hS rfl rfl ?_)
      clear hf; intro a hf
      refine step_l (st_rd hf (Wn.none rfl) (rd_nilCheck hf rfl rfl) hS rfl rfl ?_)
      clear hf; intro a hf
      refine step_l (st_rd hf (Wn.none rfl) (rd_fieldAddrB hf rfl rfl fb69_0 rfl) hS rfl rfl ?_)
      clear hf; intro a hf
      refine step_l (st_rd hf (Wn.none rfl) (rd_load1 hf rfl rfl ag36 (by intro _ h; first | exact h.cell (by repeat (first | exact Sel.head | apply Sel.tail)) (by rfl))) hS rfl rfl ?_)
      clear hf; intro a hf
      refine step_l (st_rd hf (Wn.none rfl) ((by first | exact rd_indexAddrN1 hf rfl rfl rfl Try.underlying36 sz5 (by omega) | exact rd_indexAddr hf rfl rfl rfl Try.underlying36 sz5 (by first | decide | omega) (by omega))) hS rfl rfl ?_)
      clear hf; intro a hf
      refine step_l (st_rd hf (Wn.none rfl) (rd_load1 hf rfl rfl ag5 (by intro _ h; exact (h.vw (by repeat (first | exact Sel.head | apply Sel.tail))).get (j := 0) rfl)) hS rfl rfl ?_)
      clear hf; intro a hf
      refine step_l (st_rd hf (Wn.none rfl) (rd_assign hf rfl rfl) hS rfl rfl ?_)
      clear hf; intro a hf
      refine done_l ?_
      refine t_normal ?_
      refine c_seq ?_
      refine c_region ?_
      refine step_l (st_rd hf (Wn.none rfl) (rd_move hf rfl rfl) hS rfl rfl ?_)
      clear hf; intro a hf
      refine step_l (st_rd hf (Wn.none rfl) (rd_move hf rfl rfl) hS rfl rfl ?_)
      clear hf; intro a hf
      refine step_l (st_rd hf (Wn.none rfl) (rd_nilCheck hf rfl rfl) hS rfl rfl ?_)
      clear hf; intro a hf
      refine step_l (st_rd hf (Wn.none rfl) (rd_fieldAddrB hf rfl rfl fb69_0 rfl) hS rfl rfl ?_)
      clear hf; intro a hf
      refine step_l (st_rd hf (Wn.none rfl) (rd_load1 hf rfl rfl ag36 (by intro _ h; first | exact h.cell (by repeat (first | exact Sel.head | apply Sel.tail)) (by rfl))) hS rfl rfl ?_)
      clear hf; intro a hf
      refine step_l (st_rd hf (Wn.none rfl) (rd_sliceL hf rfl rfl rfl Try.underlying36 sz5 (by omega) (by omega)) hS rfl rfl ?_)
      clear hf; intro a hf
      refine step_l (st_rd hf (Wn.none rfl) (rd_nilCheck hf rfl rfl) hS rfl rfl ?_)
      clear hf; intro a hf
      refine step_l (st_rd hf (Wn.none rfl) (rd_fieldAddrB hf rfl rfl fb69_0 rfl) hS rfl rfl ?_)
      clear hf; intro a hf
      refine step_l (st_store hf (Wn.none rfl) hS rfl rfl rfl (by rfl) sz36 (by rfl) (by rfl) (by repeat (first | exact Sel.head | apply Sel.tail)) (by repeat (first | exact Put.nil | apply Put.cons | apply Put.succ)) rfl ?_)
      clear hf hS; intro a w hf hS
      refine done_l ?_
      refine t_normal ?_
      refine c_seq ?_
      refine c_region ?_
      refine step_l (st_rd hf (Wn.none rfl) (rd_move hf rfl rfl) hS rfl rfl ?_)
      clear hf; intro a hf
      refine step_l (st_rd hf (Wn.none rfl) (rd_assign hf rfl rfl) hS rfl rfl ?_)
      clear hf; intro a hf
      refine step_l (st_rd hf (Wn.none rfl) (rd_assign hf rfl rfl) hS rfl rfl ?_)
      clear hf; intro a hf
      refine done_l ?_
      refine t_normal ?_
      refine c_ret ?_
      refine e_resN hf.defers rfl (res_tmp hf rfl (res_tmp hf rfl .nil)) ?_
      exact ⟨rfl, rd_shutDrop (bs := x :: r) hS rfl (by omega) hcap rfl⟩
  · clear hf; intro hc1 hf
    refine step_l (st_rd hf (Wn.none rfl) (rd_not hf rfl rfl) hS rfl rfl ?_)
    clear hf; intro a hf
    refine done_l ?_
    refine t_normal ?_
    refine c_true hf rfl ?_
    refine c_seq ?_
    refine c_region ?_
    refine step_l (st_rd hf (Wn.none rfl) (rd_assign hf rfl rfl) hS rfl rfl ?_)
    clear hf; intro a hf
    refine step_l (st_rd hf (Wn.none rfl) (rd_assign hf rfl rfl) hS rfl rfl ?_)
    clear hf; intro a hf
    refine done_l ?_
    refine t_normal ?_
    refine c_ret ?_
    refine t_ret ?_
    refine e_resN hf.defers rfl (res_tmp hf rfl (res_tmp hf rfl .nil)) ?_
    exact ⟨by rw [(b_bad (by assumption)).1, (b_bad (by assumption)).2.1]; rfl, by rw [(b_bad (by assumption)).2.2]; exact hS⟩

theorem RWLeft_c (p : Nat) (s : RS)  {W : World} {R : List HP} {w : World} (hS : Sat W (RdP 69 p (s) :: R) w)  : Calls Try.prog 41 [.pointer (some ⟨p, 0, none⟩)].toArray w (Ret fun v w' => v = .int .i64 (s.1.length : Nat) ∧ Sat W (RdP 69 p (s) :: R) w') := by
  refine fn_start 10 Try.func41 rfl rfl rfl ?_
  intro a hf
  obtain ⟨bs, e⟩ := s; obtain ⟨q, cap, hcap, hS⟩ := rd_open hS; dsimp only at hS hcap
  refine c_seq ?_
  refine c_region ?_
  refine step_l (st_rd hf (Wn.none rfl) (rd_assign hf rfl rfl) hS rfl rfl ?_)
  clear hf; intro a hf
  refine done_l ?_
  refine t_normal ?_
  refine c_seq ?_
  refine c_seq ?_
  refine c_region ?_
  refine step_l (st_rd hf (Wn.none rfl) (rd_move hf rfl rfl) hS rfl rfl ?_)
  clear hf; intro a hf
  refine step_l (st_rdb hf (Wn.none rfl) (rd_eqlNilP hf rfl rfl rfl Try.underlying53) hS rfl rfl ?_ ?_)
  · clear hf; intro hc1 a hf
    exact Bool.noConfusion hc1
  · clear hf; intro hc1 a hf
    refine done_l ?_
    refine t_normal ?_
    refine c_false hf rfl ?_
    refine c_skip ?_
    refine t_normal ?_
    refine c_seq ?_
    refine c_region ?_
    refine step_l (st_rd hf (Wn.none rfl) (rd_move hf rfl rfl) hS rfl rfl ?_)
    clear hf; intro a hf
    refine step_l (st_rd hf (Wn.none rfl) (rd_nilCheck hf rfl rfl) hS rfl rfl ?_)
    clear hf; intro a hf
    refine step_l (st_rd hf (Wn.none rfl) (rd_fieldAddrB hf rfl rfl fb69_0 rfl) hS rfl rfl ?_)
    clear hf; intro a hf
    refine step_l (st_rd hf (Wn.none rfl) (rd_load1 hf rfl rfl ag36 (by intro _ h; first | exact h.cell (by repeat (first | exact Sel.head | apply Sel.tail)) (by rfl))) hS rfl rfl ?_)
    clear hf; intro a hf
    refine step_l (st_rd hf (Wn.none rfl) (rd_len hf rfl rfl Try.underlying36) hS rfl rfl ?_)
    clear hf; intro a hf
    refine step_l (st_rd hf (Wn.none rfl) (rd_assign hf rfl rfl) hS rfl rfl ?_)
    clear hf; intro a hf
    refine done_l ?_
    refine t_normal ?_
    refine c_ret ?_
    refine e_res1 hf.defers rfl (res_tmp hf rfl .nil) ?_
    exact ⟨rfl, rd_shut (s := (bs, e)) hS rfl rfl rfl hcap⟩

theorem RWNum_c (p : Nat) (s : RS)  {W : World} {R : List HP} {w : World} (hS : Sat W (RdP 69 p (s) :: R) w)  : Calls Try.prog 49 [.pointer (some ⟨p, 0, none⟩)].toArray w (Ret fun v w' => v = .int .u64 ((rNum s).1 : Nat) ∧ Sat W (RdP 69 p ((rNum s).2) :: R) w') := by
  refine fn_start 45 Try.func49 rfl rfl rfl ?_
  intro a hf
  refine c_seq ?_
  refine c_region ?_
  refine step_l (st_rd hf (Wn.none rfl) (rd_assign hf rfl rfl) hS rfl rfl ?_)
  clear hf; intro a hf
  refine done_l ?_
  refine t_normal ?_
  refine c_seq ?_
  refine c_region ?_
  refine step_l (st_rd hf (Wn.none rfl) (rd_assign hf rfl rfl) hS rfl rfl ?_)
  clear hf; intro a hf
  refine done_l ?_
  refine t_normal ?_
  refine c_seq ?_
  refine c_seq ?_
  refine c_region ?_
  refine step_l (st_rd hf (Wn.none rfl) (rd_move hf rfl rfl) hS rfl rfl ?_)
  clear hf; intro a hf
  refine done_l ?_
  refine t_normal ?_
  refine c_block ?_
  refine c_loop (α := Nat × Nat × RS) (fun ⟨i, acc, t⟩ a w => Fits 45 a [(0, .pointer (some ⟨p, 0, none⟩)), (3, .int .u64 (acc : Nat)), (7, .int .i64 (i : Nat))] ∧ Sat W (RdP 69 p t :: R) w ∧ rNum s = rNumI i acc t ∧ i ≤ 9 ∧ acc < 2 ^ (7 * i)) (fun ⟨i, acc, t⟩ => 10 - i) (0, 0, s) ?_ ?_
  · exact ⟨(((hf.k0.kb hf 7 rfl (by rfl)).kb hf 3 rfl (by rfl)).kb hf 0 rfl (by rfl)), hS.sub (by repeat (first | exact Sub.refl | exact Sub.none | exact Sub.behind | (apply Sub.cons; (focus ((repeat (first | exact Sel.head | apply Sel.tail)); done))) | apply Sub.skip)), ⟨rfl, by omega, by simp⟩⟩
  · clear hf hS; rintro ⟨i, acc, t⟩ a w ⟨hf, hS, ⟨hrec, hi, hacc⟩⟩
    refine c_seq ?_
    refine c_region ?_
    refine step_l (st_rdB hf (Wn.none rfl) (rd_lss hf rfl rfl rfl) hS rfl rfl ?_ ?_)
    · clear hf; intro hc1 a hf
      refine done_l ?_
      refine t_normal ?_
      refine c_seq ?_
      refine c_true hf rfl ?_
      refine c_skip ?_
      refine t_normal ?_
      refine c_seq ?_
      refine c_block ?_
      refine c_seq ?_
      refine c_region ?_
      refine step_l (st_rd hf (Wn.none rfl) (rd_move hf rfl rfl) hS rfl rfl ?_)
      clear hf; intro a hf
      refine step_l (st_rd hf (Wn.none rfl) (rd_assign hf rfl rfl) hS rfl rfl ?_)
      clear hf; intro a hf
      refine done_l ?_
      refine t_normal ?_
      refine c_seq ?_
      refine c_region ?_
      refine step_l (st_rd hf (Wn.none rfl) (rd_move hf rfl rfl) hS rfl rfl ?_)
      clear hf; intro a hf
      refine step_l (st_call hf (Wn.none rfl) rfl rfl rfl fn53 (RWbyte_c _ _ (hS.sel (by repeat (first | exact Sel.head | apply Sel.tail)))) rfl rfl ?_)
      clear hf hS; rintro v a w ⟨rfl, hS⟩ hf
      refine step_l (st_rd hf (Wn.none rfl) (rd_move hf rfl rfl) hS rfl rfl ?_)
      clear hf; intro a hf
      refine step_l (st_rd hf (Wn.none rfl) (rd_extract hf rfl rfl rfl) hS rfl rfl ?_)
      clear hf; intro a hf
      refine step_l (st_rdb hf (Wn.none rfl) (rd_extract hf rfl rfl rfl) hS rfl rfl ?_ ?_)
      · clear hf; intro hc2 a hf
        obtain ⟨hstep, hz⟩ := bOk_yes i acc hc2; have hx8 := (bX t).toNat_lt
        refine step_l (st_rd hf (Wn.none rfl) (rd_assign hf rfl rfl) hS rfl rfl ?_)
        clear hf; intro a hf
        refine step_l (st_rd hf (Wn.none rfl) (rd_assign hf rfl rfl) hS rfl rfl ?_)
        clear hf; intro a hf
        refine done_l ?_
        refine t_normal ?_
        refine c_seq ?_
        refine c_seq ?_
        refine c_region ?_
        refine step_l (st_rd hf (Wn.none rfl) (rd_move hf rfl rfl) hS rfl rfl ?_)
        clear hf; intro a hf
        refine step_l (st_rd hf (Wn.none rfl) (rd_not hf rfl rfl) hS rfl rfl ?_)
        clear hf; intro a hf
        refine done_l ?_
        refine t_normal ?_
        refine c_false hf rfl ?_
        refine c_skip ?_
        refine t_normal ?_
        refine c_seq ?_
        refine c_seq ?_
        refine c_region ?_
        refine step_l (st_rd hf (Wn.none rfl) (rd_move hf rfl rfl) hS rfl rfl ?_)
        clear hf; intro a hf
        refine step_l (st_rdB hf (Wn.none rfl) (rd_eql hf rfl rfl rfl) hS rfl rfl ?_ ?_)
        · clear hf; intro hc3 a hf
          refine step_l (st_rd hf (Wn.none rfl) (rd_move hf rfl rfl) hS rfl rfl ?_)
          clear hf; intro a hf
          refine step_l (st_rd hf (Wn.some hf rfl rfl rfl rfl) (rd_move hf rfl rfl) hS rfl rfl ?_)
          clear hf; intro a hf
          refine step_l (st_rdB hf (Wn.some hf rfl rfl rfl rfl) (rd_gtr hf rfl rfl rfl) hS rfl rfl ?_ ?_)
          · clear hf; intro hc4 a hf
            refine step_l (st_rd hf (Wn.none rfl) (rd_pick_t hf rfl rfl rfl) hS rfl rfl ?_)
            clear hf; intro a hf
            refine step_l (st_rd hf (Wn.none rfl) (rd_move hf rfl rfl) hS rfl rfl ?_)
            clear hf; intro a hf
            refine step_l (st_skip hf (Wn.some hf rfl rfl rfl rfl) rfl rfl ?_)
            clear hf; intro a hf
            refine step_l (st_skip hf (Wn.some hf rfl rfl rfl rfl) rfl rfl ?_)
            clear hf; intro a hf
            refine step_l (st_skip hf (Wn.some hf rfl rfl rfl rfl) rfl rfl ?_)
            clear hf; intro a hf
            refine step_l (st_skip hf (Wn.undef hf rfl rfl rfl) rfl rfl ?_)
            clear hf; intro a hf
            refine step_l (st_skip hf (Wn.undef hf rfl rfl rfl) rfl rfl ?_)
            clear hf; intro a hf
            refine step_l (st_skip hf (Wn.some hf rfl rfl rfl rfl) rfl rfl ?_)
            clear hf; intro a hf
            refine step_l (st_rd hf (Wn.none rfl) (rd_pick_t hf rfl rfl rfl) hS rfl rfl ?_)
            clear hf; intro a hf
            refine done_l ?_
            refine t_normal ?_
            refine c_true hf rfl ?_
            refine c_seq ?_
            refine c_region ?_
            refine step_l (st_rd hf (Wn.none rfl) (rd_move hf rfl rfl) hS rfl rfl ?_)
            clear hf; intro a hf
            refine step_l (st_call hf (Wn.none rfl) rfl rfl rfl fn54 (RWfail_c _ _ _ (hS.sel (by repeat (first | exact Sel.head | apply Sel.tail)))) rfl rfl ?_)
            clear hf hS; rintro v a w ⟨rfl, hS⟩ hf
            refine done_l ?_
            refine t_normal ?_
            refine c_seq ?_
            refine c_region ?_
            refine step_l (st_rd hf (Wn.none rfl) (rd_assign hf rfl rfl) hS rfl rfl ?_)
            clear hf; intro a hf
            refine done_l ?_
            refine t_normal ?_
            refine c_ret ?_
            refine t_ret ?_
            refine b_ret ?_
            refine t_ret ?_
            refine t_ret ?_
            refine b_ret ?_
            refine t_ret ?_
            refine e_res1 hf.defers rfl (res_tmp hf rfl .nil) ?_
            first | (rw [hrec, hstep, if_pos (by omega)]; exact ⟨rfl, hS⟩) | (rw [hrec, hstep, if_neg (by omega), if_pos (by omega)]; exact ⟨rfl, hS⟩) | (rw [hrec, hstep]; exact ⟨rfl, hS⟩)
          · clear hf; intro hc4 a hf
            refine step_l (st_rd hf (Wn.none rfl) (rd_pick_t hf rfl rfl rfl) hS rfl rfl ?_)
            clear hf; intro a hf
            refine step_l (st_rd hf (Wn.none rfl) (rd_move hf rfl rfl) hS rfl rfl ?_)
            clear hf; intro a hf
            refine step_l (st_rd hf (Wn.some hf rfl rfl rfl rfl) (rd_move hf rfl rfl) hS rfl rfl ?_)
            clear hf; intro a hf
            refine step_l (st_rdB hf (Wn.some hf rfl rfl rfl rfl) (rd_gtr hf rfl rfl rfl) hS rfl rfl ?_ ?_)
            · clear hf; intro hc5 a hf
              refine step_l (st_rd hf (Wn.some hf rfl rfl rfl rfl) (rd_move hf rfl rfl) hS rfl rfl ?_)
              clear hf; intro a hf
              refine step_l (st_rd hf (Wn.some hf rfl rfl rfl rfl) (rd_move hf rfl rfl) hS rfl rfl ?_)
              clear hf; intro a hf
              refine step_l (st_rdB hf (Wn.some hf rfl rfl rfl rfl) (rd_eql hf rfl rfl rfl) hS rfl rfl ?_ ?_)
              · clear hf; intro hc6 a hf
                refine step_l (st_rd hf (Wn.some hf rfl rfl rfl rfl) (rd_pick_t hf rfl rfl rfl) hS rfl rfl ?_)
                clear hf; intro a hf
                refine step_l (st_rd hf (Wn.none rfl) (rd_pick_f hf rfl rfl rfl) hS rfl rfl ?_)
                clear hf; intro a hf
                refine done_l ?_
                refine t_normal ?_
                refine c_true hf rfl ?_
                refine c_seq ?_
                refine c_region ?_
                refine step_l (st_rd hf (Wn.none rfl) (rd_move hf rfl rfl) hS rfl rfl ?_)
                clear hf; intro a hf
                refine step_l (st_call hf (Wn.none rfl) rfl rfl rfl fn54 (RWfail_c _ _ _ (hS.sel (by repeat (first | exact Sel.head | apply Sel.tail)))) rfl rfl ?_)
                clear hf hS; rintro v a w ⟨rfl, hS⟩ hf
                refine done_l ?_
                refine t_normal ?_
                refine c_seq ?_
                refine c_region ?_
                refine step_l (st_rd hf (Wn.none rfl) (rd_assign hf rfl rfl) hS rfl rfl ?_)
                clear hf; intro a hf
                refine done_l ?_
                refine t_normal ?_
                refine c_ret ?_
                refine t_ret ?_
                refine b_ret ?_
                refine t_ret ?_
                refine t_ret ?_
                refine b_ret ?_
                refine t_ret ?_
                refine e_res1 hf.defers rfl (res_tmp hf rfl .nil) ?_
                first | (rw [hrec, hstep, if_pos (by omega)]; exact ⟨rfl, hS⟩) | (rw [hrec, hstep, if_neg (by omega), if_pos (by omega)]; exact ⟨rfl, hS⟩) | (rw [hrec, hstep]; exact ⟨rfl, hS⟩)
              · clear hf; intro hc6 a hf
                refine step_l (st_rd hf (Wn.some hf rfl rfl rfl rfl) (rd_pick_t hf rfl rfl rfl) hS rfl rfl ?_)
                clear hf; intro a hf
                refine step_l (st_rd hf (Wn.none rfl) (rd_pick_f hf rfl rfl rfl) hS rfl rfl ?_)
                clear hf; intro a hf
                refine done_l ?_
                refine t_normal ?_
                refine c_false hf rfl ?_
                refine c_skip ?_
                refine t_normal ?_
                refine c_seq ?_
                refine c_region ?_
                refine step_l (st_rd hf (Wn.none rfl) (rd_move hf rfl rfl) hS rfl rfl ?_)
                clear hf; intro a hf
                refine step_l (st_rd hf (Wn.none rfl) (rd_move hf rfl rfl) hS rfl rfl ?_)
                clear hf; intro a hf
                refine step_l (st_rd hf (Wn.none rfl) (rd_andNot hf rfl rfl rfl (n8_andNot128 _)) hS rfl rfl ?_)
                clear hf; intro a hf
                refine step_l (st_rd hf (Wn.none rfl) (rd_convInt hf rfl rfl Try.underlying5 Try.underlying30 (wrap64 (by omega))) hS rfl rfl ?_)
                clear hf; intro a hf
                refine step_l (st_rd hf (Wn.none rfl) (rd_move hf rfl rfl) hS rfl rfl ?_)
                clear hf; intro a hf
                refine step_l (st_rd hf (Wn.none rfl) (rd_mul hf rfl rfl rfl (by first | exact Go.IntWalk.i64_in _ (by omega) | exact rfl)) hS rfl rfl ?_)
                clear hf; intro a hf
                refine step_l (st_rd hf (Wn.none rfl) (rd_shl hf rfl rfl rfl (by first | decide | omega) (n64_shl (7 * i) (by omega) (by omega) (shl_bound (by omega) (by omega) (by omega)))) hS rfl rfl ?_)
                clear hf; intro a hf
                refine step_l (st_rd hf (Wn.none rfl) (rd_or hf rfl rfl rfl (n64_acc (by omega) (by omega) (by omega) hacc)) hS rfl rfl ?_)
                clear hf; intro a hf
                refine step_l (st_rd hf (Wn.none rfl) (rd_assign hf rfl rfl) hS rfl rfl ?_)
                clear hf; intro a hf
                refine done_l ?_
                refine t_normal ?_
                refine c_seq ?_
                refine c_region ?_
                refine step_l (st_rd hf (Wn.none rfl) (rd_move hf rfl rfl) hS rfl rfl ?_)
                clear hf; intro a hf
                refine step_l (st_rdB hf (Wn.none rfl) (rd_lss hf rfl rfl rfl) hS rfl rfl ?_ ?_)
                · clear hf; intro hc7 a hf
                  refine done_l ?_
                  refine t_normal ?_
                  refine c_true hf rfl ?_
                  refine c_exit ?_
                  refine b_exit' (by decide) ?_
                  refine t_exit ?_
                  refine t_exit ?_
                  refine b_exit ?_
                  refine t_normal ?_
                  refine c_seq ?_
                  refine c_region ?_
                  refine step_l (st_rd hf (Wn.none rfl) (rd_move hf rfl rfl) hS rfl rfl ?_)
                  clear hf; intro a hf
                  refine step_l (st_rd hf (Wn.none rfl) (rd_assign hf rfl rfl) hS rfl rfl ?_)
                  clear hf; intro a hf
                  refine done_l ?_
                  refine t_normal ?_
                  refine c_ret ?_
                  refine e_res1 hf.defers rfl (res_tmp hf rfl .nil) ?_
                  first | (rw [hrec, hstep, if_pos (by omega)]; exact ⟨rfl, hS⟩) | (rw [hrec, hstep, if_neg (by omega), if_pos (by omega)]; exact ⟨rfl, hS⟩) | (rw [hrec, hstep]; exact ⟨rfl, hS⟩)
                · clear hf; intro hc7 a hf
                  refine done_l ?_
                  refine t_normal ?_
                  refine c_false hf rfl ?_
                  refine c_skip ?_
                  refine b_normal ?_
                  refine t_normal ?_
                  refine c_region ?_
                  refine step_l (st_rd hf (Wn.none rfl) (rd_add hf rfl rfl rfl (by first | exact Go.IntWalk.i64_in _ (by omega) | exact rfl)) hS rfl rfl ?_)
                  clear hf; intro a hf
                  refine step_l (st_rd hf (Wn.none rfl) (rd_move hf rfl rfl) hS rfl rfl ?_)
                  clear hf; intro a hf
                  refine done_l ?_
                  refine t_normal ⟨(i + 1, acc + (bX t).toNat % 128 * 2 ^ (7 * i), bS t), ⟨(((hf.k0.kb hf 7 rfl (by exact int_eq (by omega))).kb hf 3 rfl (by rfl)).kb hf 0 rfl (by rfl)), hS.sub (by repeat (first | exact Sub.refl | exact Sub.none | exact Sub.behind | (apply Sub.cons; (focus ((repeat (first | exact Sel.head | apply Sel.tail)); done))) | apply Sub.skip)), ⟨by rw [hrec, hstep, if_neg (by omega), if_neg (by omega)], by omega, acc_step (by omega) hacc⟩⟩, by first | omega | (simp only []; omega)⟩
            · clear hf; intro hc5 a hf
              refine step_l (st_rd hf (Wn.some hf rfl rfl rfl rfl) (rd_move hf rfl rfl) hS rfl rfl ?_)
              clear hf; intro a hf
              refine step_l (st_skip hf (Wn.some hf rfl rfl rfl rfl) rfl rfl ?_)
              clear hf; intro a hf
              refine step_l (st_skip hf (Wn.some hf rfl rfl rfl rfl) rfl rfl ?_)
              clear hf; intro a hf
              refine step_l (st_rd hf (Wn.some hf rfl rfl rfl rfl) (rd_pick_f hf rfl rfl rfl) hS rfl rfl ?_)
              clear hf; intro a hf
              refine step_l (st_rd hf (Wn.none rfl) (rd_pick_f hf rfl rfl rfl) hS rfl rfl ?_)
              clear hf; intro a hf
              refine done_l ?_
              refine t_normal ?_
              refine c_false hf rfl ?_
              refine c_skip ?_
              refine t_normal ?_
              refine c_seq ?_
              refine c_region ?_
              refine step_l (st_rd hf (Wn.none rfl) (rd_move hf rfl rfl) hS rfl rfl ?_)
              clear hf; intro a hf
              refine step_l (st_rd hf (Wn.none rfl) (rd_move hf rfl rfl) hS rfl rfl ?_)
              clear hf; intro a hf
              refine step_l (st_rd hf (Wn.none rfl) (rd_andNot hf rfl rfl rfl (n8_andNot128 _)) hS rfl rfl ?_)
              clear hf; intro a hf
              refine step_l (st_rd hf (Wn.none rfl) (rd_convInt hf rfl rfl Try.underlying5 Try.underlying30 (wrap64 (by omega))) hS rfl rfl ?_)
              clear hf; intro a hf
              refine step_l (st_rd hf (Wn.none rfl) (rd_move hf rfl rfl) hS rfl rfl ?_)
              clear hf; intro a hf
              refine step_l (st_rd hf (Wn.none rfl) (rd_mul hf rfl rfl rfl (by first | exact Go.IntWalk.i64_in _ (by omega) | exact rfl)) hS rfl rfl ?_)
              clear hf; intro a hf
              refine step_l (st_rd hf (Wn.none rfl) (rd_shl hf rfl rfl rfl (by first | decide | omega) (n64_shl (7 * i) (by omega) (by omega) (shl_bound (by omega) (by omega) (by omega)))) hS rfl rfl ?_)
              clear hf; intro a hf
              refine step_l (st_rd hf (Wn.none rfl) (rd_or hf rfl rfl rfl (n64_acc (by omega) (by omega) (by omega) hacc)) hS rfl rfl ?_)
              clear hf; intro a hf
              refine step_l (st_rd hf (Wn.none rfl) (rd_assign hf rfl rfl) hS rfl rfl ?_)
              clear hf; intro a hf
              refine done_l ?_
              refine t_normal ?_
              refine c_seq ?_
              refine c_region ?_
              refine step_l (st_rd hf (Wn.none rfl) (rd_move hf rfl rfl) hS rfl rfl ?_)
              clear hf; intro a hf
              refine step_l (st_rdB hf (Wn.none rfl) (rd_lss hf rfl rfl rfl) hS rfl rfl ?_ ?_)
              · clear hf; intro hc8 a hf
                refine done_l ?_
                refine t_normal ?_
                refine c_true hf rfl ?_
                refine c_exit ?_
                refine b_exit' (by decide) ?_
                refine t_exit ?_
                refine t_exit ?_
                refine b_exit ?_
                refine t_normal ?_
                refine c_seq ?_
                refine c_region ?_
                refine step_l (st_rd hf (Wn.none rfl) (rd_move hf rfl rfl) hS rfl rfl ?_)
                clear hf; intro a hf
                refine step_l (st_rd hf (Wn.none rfl) (rd_assign hf rfl rfl) hS rfl rfl ?_)
                clear hf; intro a hf
                refine done_l ?_
                refine t_normal ?_
                refine c_ret ?_
                refine e_res1 hf.defers rfl (res_tmp hf rfl .nil) ?_
                first | (rw [hrec, hstep, if_pos (by omega)]; exact ⟨rfl, hS⟩) | (rw [hrec, hstep, if_neg (by omega), if_pos (by omega)]; exact ⟨rfl, hS⟩) | (rw [hrec, hstep]; exact ⟨rfl, hS⟩)
              · clear hf; intro hc8 a hf
                refine done_l ?_
                refine t_normal ?_
                refine c_false hf rfl ?_
                refine c_skip ?_
                refine b_normal ?_
                refine t_normal ?_
                refine c_region ?_
                refine step_l (st_rd hf (Wn.none rfl) (rd_add hf rfl rfl rfl (by first | exact Go.IntWalk.i64_in _ (by omega) | exact rfl)) hS rfl rfl ?_)
                clear hf; intro a hf
                refine step_l (st_rd hf (Wn.none rfl) (rd_move hf rfl rfl) hS rfl rfl ?_)
                clear hf; intro a hf
                refine done_l ?_
                refine t_normal ⟨(i + 1, acc + (bX t).toNat % 128 * 2 ^ (7 * i), bS t), ⟨(((hf.k0.kb hf 7 rfl (by exact int_eq (by omega))).kb hf 3 rfl (by rfl)).kb hf 0 rfl (by rfl)), hS.sub (by repeat (first | exact Sub.refl | exact Sub.none | exact Sub.behind | (apply Sub.cons; (focus ((repeat (first | exact Sel.head | apply Sel.tail)); done))) | apply Sub.skip)), ⟨by rw [hrec, hstep, if_neg (by omega), if_neg (by omega)], by omega, acc_step (by omega) hacc⟩⟩, by first | omega | (simp only []; omega)⟩
        · clear hf; intro hc3 a hf
          refine step_l (st_rd hf (Wn.none rfl) (rd_move hf rfl rfl) hS rfl rfl ?_)
          clear hf; intro a hf
          refine step_l (st_skip hf (Wn.some hf rfl rfl rfl rfl) rfl rfl ?_)
          clear hf; intro a hf
          refine step_l (st_skip hf (Wn.some hf rfl rfl rfl rfl) rfl rfl ?_)
          clear hf; intro a hf
          refine step_l (st_rd hf (Wn.none rfl) (rd_pick_f hf rfl rfl rfl) hS rfl rfl ?_)
          clear hf; intro a hf
          refine step_l (st_rd hf (Wn.none rfl) (rd_move hf rfl rfl) hS rfl rfl ?_)
          clear hf; intro a hf
          refine step_l (st_rd hf (Wn.some hf rfl rfl rfl rfl) (rd_move hf rfl rfl) hS rfl rfl ?_)
          clear hf; intro a hf
          refine step_l (st_rdB hf (Wn.some hf rfl rfl rfl rfl) (rd_gtr hf rfl rfl rfl) hS rfl rfl ?_ ?_)
          · clear hf; intro hc9 a hf
            refine step_l (st_rd hf (Wn.some hf rfl rfl rfl rfl) (rd_move hf rfl rfl) hS rfl rfl ?_)
            clear hf; intro a hf
            refine step_l (st_rd hf (Wn.some hf rfl rfl rfl rfl) (rd_move hf rfl rfl) hS rfl rfl ?_)
            clear hf; intro a hf
            refine step_l (st_rdB hf (Wn.some hf rfl rfl rfl rfl) (rd_eql hf rfl rfl rfl) hS rfl rfl ?_ ?_)
            · clear hf; intro hc10 a hf
              refine step_l (st_rd hf (Wn.some hf rfl rfl rfl rfl) (rd_pick_t hf rfl rfl rfl) hS rfl rfl ?_)
              clear hf; intro a hf
              refine step_l (st_rd hf (Wn.none rfl) (rd_pick_f hf rfl rfl rfl) hS rfl rfl ?_)
              clear hf; intro a hf
              refine done_l ?_
              refine t_normal ?_
              refine c_true hf rfl ?_
              refine c_seq ?_
              refine c_region ?_
              refine step_l (st_rd hf (Wn.none rfl) (rd_move hf rfl rfl) hS rfl rfl ?_)
              clear hf; intro a hf
              refine step_l (st_call hf (Wn.none rfl) rfl rfl rfl fn54 (RWfail_c _ _ _ (hS.sel (by repeat (first | exact Sel.head | apply Sel.tail)))) rfl rfl ?_)
              clear hf hS; rintro v a w ⟨rfl, hS⟩ hf
              refine done_l ?_
              refine t_normal ?_
              refine c_seq ?_
              refine c_region ?_
              refine step_l (st_rd hf (Wn.none rfl) (rd_assign hf rfl rfl) hS rfl rfl ?_)
              clear hf; intro a hf
              refine done_l ?_
              refine t_normal ?_
              refine c_ret ?_
              refine t_ret ?_
              refine b_ret ?_
              refine t_ret ?_
              refine t_ret ?_
              refine b_ret ?_
              refine t_ret ?_
              refine e_res1 hf.defers rfl (res_tmp hf rfl .nil) ?_
              first | (rw [hrec, hstep, if_pos (by omega)]; exact ⟨rfl, hS⟩) | (rw [hrec, hstep, if_neg (by omega), if_pos (by omega)]; exact ⟨rfl, hS⟩) | (rw [hrec, hstep]; exact ⟨rfl, hS⟩)
            · clear hf; intro hc10 a hf
              refine step_l (st_rd hf (Wn.some hf rfl rfl rfl rfl) (rd_pick_t hf rfl rfl rfl) hS rfl rfl ?_)
              clear hf; intro a hf
              refine step_l (st_rd hf (Wn.none rfl) (rd_pick_f hf rfl rfl rfl) hS rfl rfl ?_)
              clear hf; intro a hf
              refine done_l ?_
              refine t_normal ?_
              refine c_false hf rfl ?_
              refine c_skip ?_
              refine t_normal ?_
              refine c_seq ?_
              refine c_region ?_
              refine step_l (st_rd hf (Wn.none rfl) (rd_move hf rfl rfl) hS rfl rfl ?_)
              clear hf; intro a hf
              refine step_l (st_rd hf (Wn.none rfl) (rd_move hf rfl rfl) hS rfl rfl ?_)
              clear hf; intro a hf
              refine step_l (st_rd hf (Wn.none rfl) (rd_andNot hf rfl rfl rfl (n8_andNot128 _)) hS rfl rfl ?_)
              clear hf; intro a hf
              refine step_l (st_rd hf (Wn.none rfl) (rd_convInt hf rfl rfl Try.underlying5 Try.underlying30 (wrap64 (by omega))) hS rfl rfl ?_)
              clear hf; intro a hf
              refine step_l (st_rd hf (Wn.none rfl) (rd_move hf rfl rfl) hS rfl rfl ?_)
              clear hf; intro a hf
              refine step_l (st_rd hf (Wn.none rfl) (rd_mul hf rfl rfl rfl (by first | exact Go.IntWalk.i64_in _ (by omega) | exact rfl)) hS rfl rfl ?_)
              clear hf; intro a hf
              refine step_l (st_rd hf (Wn.none rfl) (rd_shl hf rfl rfl rfl (by first | decide | omega) (n64_shl (7 * i) (by omega) (by omega) (shl_bound (by omega) (by omega) (by omega)))) hS rfl rfl ?_)
              clear hf; intro a hf
              refine step_l (st_rd hf (Wn.none rfl) (rd_or hf rfl rfl rfl (n64_acc (by omega) (by omega) (by omega) hacc)) hS rfl rfl ?_)
              clear hf; intro a hf
              refine step_l (st_rd hf (Wn.none rfl) (rd_assign hf rfl rfl) hS rfl rfl ?_)
              clear hf; intro a hf
              refine done_l ?_
              refine t_normal ?_
              refine c_seq ?_
              refine c_region ?_
              refine step_l (st_rd hf (Wn.none rfl) (rd_move hf rfl rfl) hS rfl rfl ?_)
              clear hf; intro a hf
              refine step_l (st_rdB hf (Wn.none rfl) (rd_lss hf rfl rfl rfl) hS rfl rfl ?_ ?_)
              · clear hf; intro hc11 a hf
                refine done_l ?_
                refine t_normal ?_
                refine c_true hf rfl ?_
                refine c_exit ?_
                refine b_exit' (by decide) ?_
                refine t_exit ?_
                refine t_exit ?_
                refine b_exit ?_
                refine t_normal ?_
                refine c_seq ?_
                refine c_region ?_
                refine step_l (st_rd hf (Wn.none rfl) (rd_move hf rfl rfl) hS rfl rfl ?_)
                clear hf; intro a hf
                refine step_l (st_rd hf (Wn.none rfl) (rd_assign hf rfl rfl) hS rfl rfl ?_)
                clear hf; intro a hf
                refine done_l ?_
                refine t_normal ?_
                refine c_ret ?_
                refine e_res1 hf.defers rfl (res_tmp hf rfl .nil) ?_
                first | (rw [hrec, hstep, if_pos (by omega)]; exact ⟨rfl, hS⟩) | (rw [hrec, hstep, if_neg (by omega), if_pos (by omega)]; exact ⟨rfl, hS⟩) | (rw [hrec, hstep]; exact ⟨rfl, hS⟩)
              · clear hf; intro hc11 a hf
                refine done_l ?_
                refine t_normal ?_
                refine c_false hf rfl ?_
                refine c_skip ?_
                refine b_normal ?_
                refine t_normal ?_
                refine c_region ?_
                refine step_l (st_rd hf (Wn.none rfl) (rd_add hf rfl rfl rfl (by first | exact Go.IntWalk.i64_in _ (by omega) | exact rfl)) hS rfl rfl ?_)
                clear hf; intro a hf
                refine step_l (st_rd hf (Wn.none rfl) (rd_move hf rfl rfl) hS rfl rfl ?_)
                clear hf; intro a hf
                refine done_l ?_
                refine t_normal ⟨(i + 1, acc + (bX t).toNat % 128 * 2 ^ (7 * i), bS t), ⟨(((hf.k0.kb hf 7 rfl (by exact int_eq (by omega))).kb hf 3 rfl (by rfl)).kb hf 0 rfl (by rfl)), hS.sub (by repeat (first | exact Sub.refl | exact Sub.none | exact Sub.behind | (apply Sub.cons; (focus ((repeat (first | exact Sel.head | apply Sel.tail)); done))) | apply Sub.skip)), ⟨by rw [hrec, hstep, if_neg (by omega), if_neg (by omega)], by omega, acc_step (by omega) hacc⟩⟩, by first | omega | (simp only []; omega)⟩
          · clear hf; intro hc9 a hf
            refine step_l (st_rd hf (Wn.some hf rfl rfl rfl rfl) (rd_move hf rfl rfl) hS rfl rfl ?_)
            clear hf; intro a hf
            refine step_l (st_skip hf (Wn.some hf rfl rfl rfl rfl) rfl rfl ?_)
            clear hf; intro a hf
            refine step_l (st_skip hf (Wn.some hf rfl rfl rfl rfl) rfl rfl ?_)
            clear hf; intro a hf
            refine step_l (st_rd hf (Wn.some hf rfl rfl rfl rfl) (rd_pick_f hf rfl rfl rfl) hS rfl rfl ?_)
            clear hf; intro a hf
            refine step_l (st_rd hf (Wn.none rfl) (rd_pick_f hf rfl rfl rfl) hS rfl rfl ?_)
            clear hf; intro a hf
            refine done_l ?_
            refine t_normal ?_
            refine c_false hf rfl ?_
            refine c_skip ?_
            refine t_normal ?_
            refine c_seq ?_
            refine c_region ?_
            refine step_l (st_rd hf (Wn.none rfl) (rd_move hf rfl rfl) hS rfl rfl ?_)
            clear hf; intro a hf
            refine step_l (st_rd hf (Wn.none rfl) (rd_move hf rfl rfl) hS rfl rfl ?_)
            clear hf; intro a hf
            refine step_l (st_rd hf (Wn.none rfl) (rd_andNot hf rfl rfl rfl (n8_andNot128 _)) hS rfl rfl ?_)
            clear hf; intro a hf
            refine step_l (st_rd hf (Wn.none rfl) (rd_convInt hf rfl rfl Try.underlying5 Try.underlying30 (wrap64 (by omega))) hS rfl rfl ?_)
            clear hf; intro a hf
            refine step_l (st_rd hf (Wn.none rfl) (rd_move hf rfl rfl) hS rfl rfl ?_)
            clear hf; intro a hf
            refine step_l (st_rd hf (Wn.none rfl) (rd_mul hf rfl rfl rfl (by first | exact Go.IntWalk.i64_in _ (by omega) | exact rfl)) hS rfl rfl ?_)
            clear hf; intro a hf
            refine step_l (st_rd hf (Wn.none rfl) (rd_shl hf rfl rfl rfl (by first | decide | omega) (n64_shl (7 * i) (by omega) (by omega) (shl_bound (by omega) (by omega) (by omega)))) hS rfl rfl ?_)
            clear hf; intro a hf
            refine step_l (st_rd hf (Wn.none rfl) (rd_or hf rfl rfl rfl (n64_acc (by omega) (by omega) (by omega) hacc)) hS rfl rfl ?_)
            clear hf; intro a hf
            refine step_l (st_rd hf (Wn.none rfl) (rd_assign hf rfl rfl) hS rfl rfl ?_)
            clear hf; intro a hf
            refine done_l ?_
            refine t_normal ?_
            refine c_seq ?_
            refine c_region ?_
            refine step_l (st_rd hf (Wn.none rfl) (rd_move hf rfl rfl) hS rfl rfl ?_)
            clear hf; intro a hf
            refine step_l (st_rdB hf (Wn.none rfl) (rd_lss hf rfl rfl rfl) hS rfl rfl ?_ ?_)
            · clear hf; intro hc12 a hf
              refine done_l ?_
              refine t_normal ?_
              refine c_true hf rfl ?_
              refine c_exit ?_
              refine b_exit' (by decide) ?_
              refine t_exit ?_
              refine t_exit ?_
              refine b_exit ?_
              refine t_normal ?_
              refine c_seq ?_
              refine c_region ?_
              refine step_l (st_rd hf (Wn.none rfl) (rd_move hf rfl rfl) hS rfl rfl ?_)
              clear hf; intro a hf
              refine step_l (st_rd hf (Wn.none rfl) (rd_assign hf rfl rfl) hS rfl rfl ?_)
              clear hf; intro a hf
              refine done_l ?_
              refine t_normal ?_
              refine c_ret ?_
              refine e_res1 hf.defers rfl (res_tmp hf rfl .nil) ?_
              first | (rw [hrec, hstep, if_pos (by omega)]; exact ⟨rfl, hS⟩) | (rw [hrec, hstep, if_neg (by omega), if_pos (by omega)]; exact ⟨rfl, hS⟩) | (rw [hrec, hstep]; exact ⟨rfl, hS⟩)
            · clear hf; intro hc12 a hf
              refine done_l ?_
              refine t_normal ?_
              refine c_false hf rfl ?_
              refine c_skip ?_
              refine b_normal ?_
              refine t_normal ?_
              refine c_region ?_
              refine step_l (st_rd hf (Wn.none rfl) (rd_add hf rfl rfl rfl (by first | exact Go.IntWalk.i64_in _ (by omega) | exact rfl)) hS rfl rfl ?_)
              clear hf; intro a hf
              refine step_l (st_rd hf (Wn.none rfl) (rd_move hf rfl rfl) hS rfl rfl ?_)
              clear hf; intro a hf
              refine done_l ?_
              refine t_normal ⟨(i + 1, acc + (bX t).toNat % 128 * 2 ^ (7 * i), bS t), ⟨(((hf.k0.kb hf 7 rfl (by exact int_eq (by omega))).kb hf 3 rfl (by rfl)).kb hf 0 rfl (by rfl)), hS.sub (by repeat (first | exact Sub.refl | exact Sub.none | exact Sub.behind | (apply Sub.cons; (focus ((repeat (first | exact Sel.head | apply Sel.tail)); done))) | apply Sub.skip)), ⟨by rw [hrec, hstep, if_neg (by omega), if_neg (by omega)], by omega, acc_step (by omega) hacc⟩⟩, by first | omega | (simp only []; omega)⟩
      · clear hf; intro hc2 a hf
        have hstep := bOk_no (i := i) (acc := acc) hc2
        refine step_l (st_rd hf (Wn.none rfl) (rd_assign hf rfl rfl) hS rfl rfl ?_)
        clear hf; intro a hf
        refine step_l (st_rd hf (Wn.none rfl) (rd_assign hf rfl rfl) hS rfl rfl ?_)
        clear hf; intro a hf
        refine done_l ?_
        refine t_normal ?_
        refine c_seq ?_
        refine c_seq ?_
        refine c_region ?_
        refine step_l (st_rd hf (Wn.none rfl) (rd_move hf rfl rfl) hS rfl rfl ?_)
        clear hf; intro a hf
        refine step_l (st_rd hf (Wn.none rfl) (rd_not hf rfl rfl) hS rfl rfl ?_)
        clear hf; intro a hf
        refine done_l ?_
        refine t_normal ?_
        refine c_true hf rfl ?_
        refine c_seq ?_
        refine c_region ?_
        refine step_l (st_rd hf (Wn.none rfl) (rd_assign hf rfl rfl) hS rfl rfl ?_)
        clear hf; intro a hf
        refine done_l ?_
        refine t_normal ?_
        refine c_ret ?_
        refine t_ret ?_
        refine b_ret ?_
        refine t_ret ?_
        refine t_ret ?_
        refine b_ret ?_
        refine t_ret ?_
        refine e_res1 hf.defers rfl (res_tmp hf rfl .nil) ?_
        first | (rw [hrec, hstep, if_pos (by omega)]; exact ⟨rfl, hS⟩) | (rw [hrec, hstep, if_neg (by omega), if_pos (by omega)]; exact ⟨rfl, hS⟩) | (rw [hrec, hstep]; exact ⟨rfl, hS⟩)
    · clear hf; intro hc1 a hf
      exact absurd hc1 (by omega)

theorem RWInt_c (p : Nat) (s : RS)  {W : World} {R : List HP} {w : World} (hS : Sat W (RdP 69 p (s) :: R) w)  : Calls Try.prog 50 [.pointer (some ⟨p, 0, none⟩)].toArray w (Ret fun v w' => v = .int .i64 (rInt s).1 ∧ Sat W (RdP 69 p ((rInt s).2) :: R) w') := by
  refine fn_start 14 Try.func50 rfl rfl rfl ?_
  intro a hf
  refine c_seq ?_
  refine c_region ?_
  refine step_l (st_rd hf (Wn.none rfl) (rd_assign hf rfl rfl) hS rfl rfl ?_)
  clear hf; intro a hf
  refine done_l ?_
  refine t_normal ?_
  refine c_seq ?_
  refine c_region ?_
  refine step_l (st_rd hf (Wn.none rfl) (rd_move hf rfl rfl) hS rfl rfl ?_)
  clear hf; intro a hf
  refine step_l (st_call hf (Wn.none rfl) rfl rfl rfl fn49 (RWNum_c _ _ (hS.sel (by repeat (first | exact Sel.head | apply Sel.tail)))) rfl rfl ?_)
  clear hf hS; rintro v a w ⟨rfl, hS⟩ hf
  refine step_l (st_rd hf (Wn.none rfl) (rd_assign hf rfl rfl) hS rfl rfl ?_)
  clear hf; intro a hf
  refine done_l ?_
  refine t_normal ?_
  refine c_seq ?_
  refine c_region ?_
  refine step_l (st_rd hf (Wn.none rfl) (rd_move hf rfl rfl) hS rfl rfl ?_)
  clear hf; intro a hf
  refine step_l (st_rd hf (Wn.none rfl) (rd_shr hf rfl rfl rfl (by first | decide | omega) (n64_shr 1 rfl (by decide))) hS rfl rfl ?_)
  clear hf; intro a hf
  refine step_l (st_rd hf (Wn.none rfl) (rd_convInt hf rfl rfl Try.underlying30 Try.underlying2 rfl) hS rfl rfl ?_)
  clear hf; intro a hf
  refine step_l (st_rd hf (Wn.none rfl) (rd_move hf rfl rfl) hS rfl rfl ?_)
  clear hf; intro a hf
  refine step_l (st_rd hf (Wn.none rfl) (rd_and hf rfl rfl rfl (n64_and (q := 1) (rNum_lt s) (by decide))) hS rfl rfl ?_)
  clear hf; intro a hf
  refine step_l (st_rd hf (Wn.none rfl) (rd_convInt hf rfl rfl Try.underlying30 Try.underlying2 rfl) hS rfl rfl ?_)
  clear hf; intro a hf
  refine step_l (st_rd hf (Wn.none rfl) (rd_neg hf rfl rfl (by first | exact Go.IntWalk.i64_in _ (by omega) | exact rfl)) hS rfl rfl ?_)
  clear hf; intro a hf
  refine step_l (st_rd hf (Wn.none rfl) (rd_xor hf rfl rfl rfl (unzz_val (rNum_lt s))) hS rfl rfl ?_)
  clear hf; intro a hf
  refine step_l (st_rd hf (Wn.none rfl) (rd_assign hf rfl rfl) hS rfl rfl ?_)
  clear hf; intro a hf
  refine done_l ?_
  refine t_normal ?_
  refine c_ret ?_
  refine e_res1 hf.defers rfl (res_tmp hf rfl .nil) ?_
  exact ⟨rfl, hS⟩

theorem RWEnd_c (p : Nat) (s : RS)  {W : World} {R : List HP} {w : World} (hS : Sat W (RdP 69 p (s) :: R) w)  : Calls Try.prog 40 [.pointer (some ⟨p, 0, none⟩)].toArray w (Ret fun v w' => v = .int .i64 (rEnd s) ∧ Sat W (RdP 69 p (s) :: R) w') := by
  refine fn_start 24 Try.func40 rfl rfl rfl ?_
  intro a hf
  obtain ⟨bs, e⟩ := s; obtain ⟨q, cap, hcap, hS⟩ := rd_open hS; dsimp only at hS hcap
  refine c_seq ?_
  refine c_region ?_
  refine step_l (st_rd hf (Wn.none rfl) (rd_assign hf rfl rfl) hS rfl rfl ?_)
  clear hf; intro a hf
  refine done_l ?_
  refine t_normal ?_
  refine c_seq ?_
  refine c_block ?_
  refine c_seq ?_
  refine c_region ?_
  refine step_l (st_rd hf (Wn.none rfl) (rd_move hf rfl rfl) hS rfl rfl ?_)
  clear hf; intro a hf
  refine step_l (st_rdb hf (Wn.none rfl) (rd_eqlNilP hf rfl rfl rfl Try.underlying53) hS rfl rfl ?_ ?_)
  · clear hf; intro hc1 a hf
    exact Bool.noConfusion hc1
  · clear hf; intro hc1 a hf
    refine step_l (st_rd hf (Wn.none rfl) (rd_assign hf rfl rfl) hS rfl rfl ?_)
    clear hf; intro a hf
    refine done_l ?_
    refine t_normal ?_
    refine c_false hf rfl ?_
    refine c_seq ?_
    refine c_region ?_
    refine step_l (st_rd hf (Wn.none rfl) (rd_move hf rfl rfl) hS rfl rfl ?_)
    clear hf; intro a hf
    refine step_l (st_rd hf (Wn.none rfl) (rd_nilCheck hf rfl rfl) hS rfl rfl ?_)
    clear hf; intro a hf
    refine step_l (st_rd hf (Wn.none rfl) (rd_fieldAddrB hf rfl rfl fb69_1 rfl) hS rfl rfl ?_)
    clear hf; intro a hf
    refine step_l (st_rd hf (Wn.none rfl) (rd_load1 hf rfl rfl ag50 (by intro _ h; first | exact h.cell (by repeat (first | exact Sel.head | apply Sel.tail)) (by rfl))) hS rfl rfl ?_)
    clear hf; intro a hf
    refine step_l (st_rdB hf (Wn.none rfl) (rd_eql hf rfl rfl rfl) hS rfl rfl ?_ ?_)
    · clear hf; intro hc2 a hf
      refine step_l (st_rd hf (Wn.none rfl) (rd_move hf rfl rfl) hS rfl rfl ?_)
      clear hf; intro a hf
      refine step_l (st_rd hf (Wn.some hf rfl rfl rfl rfl) (rd_move hf rfl rfl) hS rfl rfl ?_)
      clear hf; intro a hf
      refine step_l (st_rd hf (Wn.some hf rfl rfl rfl rfl) (rd_nilCheck hf rfl rfl) hS rfl rfl ?_)
      clear hf; intro a hf
      refine step_l (st_rd hf (Wn.some hf rfl rfl rfl rfl) (rd_fieldAddrB hf rfl rfl fb69_0 rfl) hS rfl rfl ?_)
      clear hf; intro a hf
      refine step_l (st_rd hf (Wn.some hf rfl rfl rfl rfl) (rd_load1 hf rfl rfl ag36 (by intro _ h; first | exact h.cell (by repeat (first | exact Sel.head | apply Sel.tail)) (by rfl))) hS rfl rfl ?_)
      clear hf; intro a hf
      refine step_l (st_rd hf (Wn.some hf rfl rfl rfl rfl) (rd_len hf rfl rfl Try.underlying36) hS rfl rfl ?_)
      clear hf; intro a hf
      refine step_l (st_rdB hf (Wn.some hf rfl rfl rfl rfl) (rd_gtr hf rfl rfl rfl) hS rfl rfl ?_ ?_)
      · clear hf; intro hc3 a hf
        refine step_l (st_rd hf (Wn.none rfl) (rd_pick_t hf rfl rfl rfl) hS rfl rfl ?_)
        clear hf; intro a hf
        refine step_l (st_rd hf (Wn.none rfl) (rd_assign hf rfl rfl) hS rfl rfl ?_)
        clear hf; intro a hf
        refine done_l ?_
        refine t_normal ?_
        refine c_true hf rfl ?_
        refine c_seq ?_
        refine c_region ?_
        refine step_l (st_rd hf (Wn.none rfl) (rd_assign hf rfl rfl) hS rfl rfl ?_)
        clear hf; intro a hf
        refine done_l ?_
        refine t_normal ?_
        refine c_ret ?_
        refine b_ret ?_
        refine t_ret ?_
        refine e_res1 hf.defers rfl (res_tmp hf rfl .nil) ?_
        exact ⟨int_eq (by unfold rEnd; dsimp only; omega), rd_shut (s := (bs, e)) hS rfl rfl rfl hcap⟩
      · clear hf; intro hc3 a hf
        refine step_l (st_rd hf (Wn.none rfl) (rd_pick_t hf rfl rfl rfl) hS rfl rfl ?_)
        clear hf; intro a hf
        refine step_l (st_rd hf (Wn.none rfl) (rd_assign hf rfl rfl) hS rfl rfl ?_)
        clear hf; intro a hf
        refine done_l ?_
        refine t_normal ?_
        refine c_false hf rfl ?_
        refine c_skip ?_
        refine b_normal ?_
        refine t_normal ?_
        refine c_seq ?_
        refine c_region ?_
        refine step_l (st_rd hf (Wn.none rfl) (rd_move hf rfl rfl) hS rfl rfl ?_)
        clear hf; intro a hf
        refine step_l (st_rd hf (Wn.none rfl) (rd_nilCheck hf rfl rfl) hS rfl rfl ?_)
        clear hf; intro a hf
        refine step_l (st_rd hf (Wn.none rfl) (rd_fieldAddrB hf rfl rfl fb69_1 rfl) hS rfl rfl ?_)
        clear hf; intro a hf
        refine step_l (st_rd hf (Wn.none rfl) (rd_load1 hf rfl rfl ag50 (by intro _ h; first | exact h.cell (by repeat (first | exact Sel.head | apply Sel.tail)) (by rfl))) hS rfl rfl ?_)
        clear hf; intro a hf
        refine step_l (st_rd hf (Wn.none rfl) (rd_assign hf rfl rfl) hS rfl rfl ?_)
        clear hf; intro a hf
        refine done_l ?_
        refine t_normal ?_
        refine c_ret ?_
        refine e_res1 hf.defers rfl (res_tmp hf rfl .nil) ?_
        exact ⟨int_eq (by unfold rEnd; dsimp only; omega), rd_shut (s := (bs, e)) hS rfl rfl rfl hcap⟩
    · clear hf; intro hc2 a hf
      refine step_l (st_rd hf (Wn.none rfl) (rd_move hf rfl rfl) hS rfl rfl ?_)
      clear hf; intro a hf
      refine step_l (st_skip hf (Wn.some hf rfl rfl rfl rfl) rfl rfl ?_)
      clear hf; intro a hf
      refine step_l (st_skip hf (Wn.some hf rfl rfl rfl rfl) rfl rfl ?_)
      clear hf; intro a hf
      refine step_l (st_skip hf (Wn.some hf rfl rfl rfl rfl) rfl rfl ?_)
      clear hf; intro a hf
      refine step_l (st_skip hf (Wn.some hf rfl rfl rfl rfl) rfl rfl ?_)
      clear hf; intro a hf
      refine step_l (st_skip hf (Wn.some hf rfl rfl rfl rfl) rfl rfl ?_)
      clear hf; intro a hf
      refine step_l (st_skip hf (Wn.some hf rfl rfl rfl rfl) rfl rfl ?_)
      clear hf; intro a hf
      refine step_l (st_rd hf (Wn.none rfl) (rd_pick_f hf rfl rfl rfl) hS rfl rfl ?_)
      clear hf; intro a hf
      refine step_l (st_rd hf (Wn.none rfl) (rd_assign hf rfl rfl) hS rfl rfl ?_)
      clear hf; intro a hf
      refine done_l ?_
      refine t_normal ?_
      refine c_false hf rfl ?_
      refine c_skip ?_
      refine b_normal ?_
      refine t_normal ?_
      refine c_seq ?_
      refine c_region ?_
      refine step_l (st_rd hf (Wn.none rfl) (rd_move hf rfl rfl) hS rfl rfl ?_)
      clear hf; intro a hf
      refine step_l (st_rd hf (Wn.none rfl) (rd_nilCheck hf rfl rfl) hS rfl rfl ?_)
      clear hf; intro a hf
      refine step_l (st_rd hf (Wn.none rfl) (rd_fieldAddrB hf rfl rfl fb69_1 rfl) hS rfl rfl ?_)
      clear hf; intro a hf
      refine step_l (st_rd hf (Wn.none rfl) (rd_load1 hf rfl rfl ag50 (by intro _ h; first | exact h.cell (by repeat (first | exact Sel.head | apply Sel.tail)) (by rfl))) hS rfl rfl ?_)
      clear hf; intro a hf
      refine step_l (st_rd hf (Wn.none rfl) (rd_assign hf rfl rfl) hS rfl rfl ?_)
      clear hf; intro a hf
      refine done_l ?_
      refine t_normal ?_
      refine c_ret ?_
      refine e_res1 hf.defers rfl (res_tmp hf rfl .nil) ?_
      exact ⟨int_eq (by unfold rEnd; dsimp only; omega), rd_shut (s := (bs, e)) hS rfl rfl rfl hcap⟩

def u64N (n : Int) : Nat := (n % 18446744073709551616).toNat
theorem u64N_lt (n : Int) : u64N n < 18446744073709551616 := by unfold u64N; omega
theorem u64N_val (n : Int) : IntKind.u64.wrap n = ((u64N n : Nat) : Int) := by rw [wrapP]; unfold u64N; omega
def memS (s : RS) : Int := min ((rNum s).1 : Int) 3
def memI (s : RS) : Int := (rInt (rNum s).2).1
def memE (s : RS) : RS := (rInt (rNum s).2).2
def memBad (s : RS) : Prop := (¬ rEnd (memE s) = 0 ∧ (memE s).1.length = 0) ∨ ¬ mayP (memS s) (memI s)
instance (s : RS) : Decidable (memBad s) := by unfold memBad; infer_instance
def mS (s : RS) : Int := if memBad s then 0 else memS s
def mI (s : RS) : Int := if memBad s then 0 else memI s
def mOk (s : RS) : Bool := decide (¬ memBad s)
theorem m_bad {s : RS} (h : memBad s) : mS s = 0 ∧ mI s = 0 ∧ mOk s = false := ⟨if_pos h, if_pos h, decide_eq_false (fun k => k h)⟩
theorem m_ok {s : RS} (h : ¬ memBad s) : mS s = memS s ∧ mI s = memI s ∧ mOk s = true := ⟨if_neg h, if_neg h, decide_eq_true h⟩
theorem mOk_no {s : RS} (h : mOk s = false) : mS s = 0 ∧ mI s = 0 := by
  have hb : memBad s := Classical.byContradiction fun k => by rw [(m_ok k).2.2] at h; cases h
  exact ⟨(m_bad hb).1, (m_bad hb).2.1⟩
theorem mem_inv {bs : List UInt8} (h : mOk (bs, 0) = true) : ∃ (n : Nat) (i : Int) (rest : List UInt8), bs = numB n ++ numB (zz i) ++ rest ∧ mayP n i ∧ mS (bs, 0) = n ∧ mI (bs, 0) = i ∧ memE (bs, 0) = (rest, 0) := by
  have hb : ¬ memBad (bs, 0) := fun k => by rw [(m_bad k).2.2] at h; cases h
  have h2 : mayP (memS (bs, 0)) (memI (bs, 0)) := Classical.byContradiction fun k => hb (.inr k)
  have h1 : ¬ (¬ rEnd (memE (bs, 0)) = 0 ∧ (memE (bs, 0)).1.length = 0) := fun k => hb (.inl k)
  have hz1 := (rNum_adv (bs, 0) (fun k => absurd rfl k))
  have hz2 := (rNum_adv (rNum (bs, 0)).2 hz1.2)
  have hE : (memE (bs, 0)).2 = 0 := by
    by_cases h3 : (memE (bs, 0)).2 = 0
    · exact h3
    · have h4 : (memE (bs, 0)).1.length = 0 := hz2.2 h3
      exact absurd ⟨fun k => h3 (by rw [rEnd_0 k]), h4⟩ h1
  obtain ⟨e1, e2⟩ := rInt_inv (s := (rNum (bs, 0)).2) hE
  obtain ⟨_, e3⟩ := rNum_inv (s := (bs, 0)) e1
  have hm : memS (bs, 0) = ((rNum (bs, 0)).1 : Int) := by unfold mayP at h2; unfold memS at h2 ⊢; omega
  refine ⟨(rNum (bs, 0)).1, memI (bs, 0), (memE (bs, 0)).1, ?_, hm ▸ h2, (m_ok hb).1.trans hm, (m_ok hb).2.1, Prod.ext rfl hE⟩
  rw [List.append_assoc]
  have e4 : (rNum (bs, 0)).2.1 = numB (zz (memI (bs, 0))) ++ (memE (bs, 0)).1 := e2
  rw [← e4]
  exact e3
theorem mem_own {st inc : Int} (hs : -9223372036854775808 ≤ st ∧ st ≤ 9223372036854775807) (hi : -9223372036854775808 ≤ inc ∧ inc ≤ 9223372036854775807) : memE (numB (u64N st) ++ numB (zz inc), 0) = ([], 0) ∧ mOk (numB (u64N st) ++ numB (zz inc), 0) = decide (mayP st inc) ∧ (mayP st inc → mS (numB (u64N st) ++ numB (zz inc), 0) = st ∧ mI (numB (u64N st) ++ numB (zz inc), 0) = inc) := by
  have e1 : rNum (numB (u64N st) ++ numB (zz inc), 0) = (u64N st, numB (zz inc), 0) := rNum_numB _ (u64N_lt st)
  have e2 : rInt (numB (zz inc), 0) = (inc, [], 0) := by have := rInt_numB (n := inc) [] hi; simpa using this
  have hE : memE (numB (u64N st) ++ numB (zz inc), 0) = ([], 0) := by unfold memE; rw [e1, e2]
  have hI : memI (numB (u64N st) ++ numB (zz inc), 0) = inc := by unfold memI; rw [e1, e2]
  have hS : memS (numB (u64N st) ++ numB (zz inc), 0) = min (u64N st : Int) 3 := by unfold memS; rw [e1]
  have hb : memBad (numB (u64N st) ++ numB (zz inc), 0) ↔ ¬ mayP st inc := by
    unfold memBad
    rw [hE, hI, hS]
    constructor
    · rintro (⟨h1, _⟩ | h1)
      · exact absurd rfl h1
      · intro h2; apply h1; unfold mayP u64N at *; omega
    · intro h1; refine .inr fun h2 => h1 ?_; unfold mayP u64N at *; omega
  refine ⟨hE, ?_, fun h => ?_⟩
  · unfold mOk; exact decide_eq_decide.2 (by rw [hb]; exact Decidable.not_not)
  · have h3 := m_ok (fun k => (hb.1 k) h)
    rw [h3.1, h3.2.1, hI, hS]
    refine ⟨?_, rfl⟩
    unfold mayP at h; unfold u64N; omega

theorem mWrite_c (p : Nat) (most : Int) (s : WS) (st inc : Int) {W : World} {R : List HP} {w : World} (hS : Sat W (WrP 5 64 p most s :: R) w) (hm : 0 ≤ most ∧ most ≤ 140737488355328) (hi : -9223372036854775808 ≤ inc ∧ inc ≤ 9223372036854775807) : Calls Try.prog 36 [.pointer (some ⟨p, 0, none⟩), .agg #[.int .i64 st, .int .i64 inc]].toArray w (Ret fun v w' => v = .tuple #[] ∧ Sat W (WrP 5 64 p most (wput most (wput most s (numB (u64N st))) (numB (zz inc))) :: R) w') := by
  refine fn_start 13 Try.func36 rfl rfl rfl ?_
  intro a hf
  refine c_seq ?_
  refine c_region ?_
  refine step_l (st_box hf (Wn.none rfl) hS rfl rfl (by rfl) rfl rfl ?_)
  clear hf hS; intro b_1 a w hf hS
  refine done_l ?_
  refine t_normal ?_
  refine c_seq ?_
  refine c_region ?_
  refine step_l (st_rd hf (Wn.none rfl) (rd_move hf rfl rfl) hS rfl rfl ?_)
  clear hf; intro a hf
  refine step_l (st_rd hf (Wn.none rfl) (rd_fieldAddrB hf rfl rfl fb23_0 rfl) hS rfl rfl ?_)
  clear hf; intro a hf
  refine step_l (st_rd hf (Wn.none rfl) (rd_load1 hf rfl rfl ag3 (by intro _ h; first | exact h.cell (by repeat (first | exact Sel.head | apply Sel.tail)) (by rfl))) hS rfl rfl ?_)
  clear hf; intro a hf
  refine step_l (st_rd hf (Wn.none rfl) (rd_convInt hf rfl rfl Try.underlying3 Try.underlying30 (u64N_val _)) hS rfl rfl ?_)
  clear hf; intro a hf
  refine step_l (st_call hf (Wn.none rfl) rfl rfl rfl fn46 (WNum_c _ _ _ _ (hS.sel (by repeat (first | exact Sel.head | apply Sel.tail))) (by omega) (.inl (by omega)) (u64N_lt _)) rfl rfl ?_)
  clear hf hS; rintro v a w ⟨rfl, hS⟩ hf
  refine done_l ?_
  refine t_normal ?_
  refine c_region ?_
  refine step_l (st_rd hf (Wn.none rfl) (rd_move hf rfl rfl) hS rfl rfl ?_)
  clear hf; intro a hf
  refine step_l (st_rd hf (Wn.none rfl) (rd_fieldAddrB hf rfl rfl fb23_1 rfl) hS rfl rfl ?_)
  clear hf; intro a hf
  refine step_l (st_rd hf (Wn.none rfl) (rd_load1 hf rfl rfl ag2 (by intro _ h; first | exact h.cell (by repeat (first | exact Sel.head | apply Sel.tail)) (by rfl))) hS rfl rfl ?_)
  clear hf; intro a hf
  refine step_l (st_call hf (Wn.none rfl) rfl rfl rfl fn47 (WInt_c _ _ _ _ (hS.sel (by repeat (first | exact Sel.head | apply Sel.tail))) (by omega) (.inl (by omega)) hi) rfl rfl ?_)
  clear hf hS; rintro v a w ⟨rfl, hS⟩ hf
  refine done_l ?_
  refine e_none' hf rfl ?_
  exact ⟨rfl, hS.sub (by repeat (first | exact Sub.refl | exact Sub.none | exact Sub.behind | (apply Sub.cons; (focus ((repeat (first | exact Sel.head | apply Sel.tail)); done))) | apply Sub.skip))⟩

theorem mRead_c (p : Nat) (s : RS) {W : World} {R : List HP} {w : World} (hS : Sat W (RdP 69 p s :: R) w)  : Calls Try.prog 39 [.pointer (some ⟨p, 0, none⟩)].toArray w (Ret fun v w' => v = .tuple #[.agg #[.int .i64 (mS s), .int .i64 (mI s)], .bool (mOk s)] ∧ Sat W (RdP 69 p (memE s) :: R) w') := by
  refine fn_start 29 Try.func39 rfl rfl rfl ?_
  intro a hf
  refine c_seq ?_
  refine c_region ?_
  refine step_l (st_alloc hf (Wn.none rfl) hS rfl zr23 (by rfl) rfl rfl ?_)
  clear hf hS; intro b_1 a w hf hS
  refine step_l (st_rd hf (Wn.none rfl) (rd_assign hf rfl rfl) hS rfl rfl ?_)
  clear hf; intro a hf
  refine done_l ?_
  refine t_normal ?_
  refine c_seq ?_
  refine c_region ?_
  refine step_l (st_rd hf (Wn.none rfl) (rd_move hf rfl rfl) hS rfl rfl ?_)
  clear hf; intro a hf
  refine step_l (st_call hf (Wn.none rfl) rfl rfl rfl fn49 (RWNum_c _ _ (hS.sel (by repeat (first | exact Sel.head | apply Sel.tail)))) rfl rfl ?_)
  clear hf hS; rintro v a w ⟨rfl, hS⟩ hf; have hn64 := rNum_lt s
  refine step_l (st_rd hf (Wn.none rfl) (rd_assign hf rfl rfl) hS rfl rfl ?_)
  clear hf; intro a hf
  refine done_l ?_
  refine t_normal ?_
  refine c_seq ?_
  refine c_region ?_
  refine step_l (st_rd hf (Wn.none rfl) (rd_move hf rfl rfl) hS rfl rfl ?_)
  clear hf; intro a hf
  refine step_l (st_rd hf (Wn.none rfl) (rd_min hf rfl rfl rfl) hS rfl rfl ?_)
  clear hf; intro a hf
  refine step_l (st_rd hf (Wn.none rfl) (rd_convInt hf rfl rfl Try.underlying30 Try.underlying3 (Go.IntWalk.i64_in _ (by omega))) hS rfl rfl ?_)
  clear hf; intro a hf
  refine step_l (st_rd hf (Wn.none rfl) (rd_move hf rfl rfl) hS rfl rfl ?_)
  clear hf; intro a hf
  refine step_l (st_call hf (Wn.none rfl) rfl rfl rfl fn50 (RWInt_c _ _ (hS.sel (by repeat (first | exact Sel.head | apply Sel.tail)))) rfl rfl ?_)
  clear hf hS; rintro v a w ⟨rfl, hS⟩ hf; change Sat W (RdP 69 p (memE s) :: _) _ at hS
  refine step_l (st_rd hf (Wn.none rfl) (rd_build hf rfl rfl zr23 (by rfl) pl23 (.cons rfl (by rfl) (by rfl) (by repeat (first | exact Put.nil | apply Put.cons | apply Put.succ)) (.cons rfl (by rfl) (by rfl) (by repeat (first | exact Put.nil | apply Put.cons | apply Put.succ)) .nil))) hS rfl rfl ?_)
  clear hf; intro a hf
  refine step_l (st_alloc hf (Wn.none rfl) hS rfl zr23 (by rfl) rfl rfl ?_)
  clear hf hS; intro b_2 a w hf hS
  refine step_l (st_store hf (Wn.none rfl) hS rfl rfl rfl (by rfl) sz23 (by rfl) (by rfl) (by repeat (first | exact Sel.head | apply Sel.tail)) (by repeat (first | exact Put.nil | apply Put.cons | apply Put.succ)) rfl ?_)
  clear hf hS; intro a w hf hS
  refine done_l ?_
  refine t_normal ?_
  refine c_seq ?_
  refine c_seq ?_
  refine c_region ?_
  refine step_l (st_rd hf (Wn.none rfl) (rd_move hf rfl rfl) hS rfl rfl ?_)
  clear hf; intro a hf
  refine step_l (st_call hf (Wn.none rfl) rfl rfl rfl fn40 (RWEnd_c _ _ (hS.sel (by repeat (first | exact Sel.head | apply Sel.tail)))) rfl rfl ?_)
  clear hf hS; rintro v a w ⟨rfl, hS⟩ hf
  refine step_l (st_rdB hf (Wn.none rfl) (rd_neq hf rfl rfl rfl) hS rfl rfl ?_ ?_)
  · clear hf; intro hc3 a hf
    first
    | (exact absurd (by assumption) hc3; done)
    | (
      refine step_l (st_rd hf (Wn.none rfl) (rd_move hf rfl rfl) hS rfl rfl ?_)
      clear hf; intro a hf
      refine step_l (st_rd hf (Wn.some hf rfl rfl rfl rfl) (rd_move hf rfl rfl) hS rfl rfl ?_)
      clear hf; intro a hf
      refine step_l (st_call hf (Wn.some hf rfl rfl rfl rfl) rfl rfl rfl fn41 (RWLeft_c _ _ (hS.sel (by repeat (first | exact Sel.head | apply Sel.tail)))) rfl rfl ?_)
      clear hf hS; rintro v a w ⟨rfl, hS⟩ hf
      refine step_l (st_rdB hf (Wn.some hf rfl rfl rfl rfl) (rd_eql hf rfl rfl rfl) hS rfl rfl ?_ ?_)
      · clear hf; intro hc4 a hf
        first
        | (exact absurd (by assumption) hc4; done)
        | (
          refine step_l (st_rd hf (Wn.none rfl) (rd_pick_t hf rfl rfl rfl) hS rfl rfl ?_)
          clear hf; intro a hf
          refine step_l (st_rd hf (Wn.none rfl) (rd_move hf rfl rfl) hS rfl rfl ?_)
          clear hf; intro a hf
          refine step_l (st_skip hf (Wn.some hf rfl rfl rfl rfl) rfl rfl ?_)
          clear hf; intro a hf
          refine step_l (st_skip hf (Wn.some hf rfl rfl rfl rfl) rfl rfl ?_)
          clear hf; intro a hf
          refine step_l (st_skip hf (Wn.some hf rfl rfl rfl rfl) rfl rfl ?_)
          clear hf; intro a hf
          refine step_l (st_rd hf (Wn.none rfl) (rd_pick_t hf rfl rfl rfl) hS rfl rfl ?_)
          clear hf; intro a hf
          refine done_l ?_
          refine t_normal ?_
          refine c_true hf rfl ?_
          refine c_seq ?_
          refine c_region ?_
          refine step_l (st_rd hf (Wn.none rfl) (rd_build hf rfl rfl zr23 (by rfl) pl23 .nil) hS rfl rfl ?_)
          clear hf; intro a hf
          refine step_l (st_store hf (Wn.none rfl) hS rfl rfl rfl (by rfl) sz23 (by rfl) (by rfl) (by repeat (first | exact Sel.head | apply Sel.tail)) (by repeat (first | exact Put.nil | apply Put.cons | apply Put.succ)) rfl ?_)
          clear hf hS; intro a w hf hS
          refine step_l (st_rd hf (Wn.none rfl) (rd_assign hf rfl rfl) hS rfl rfl ?_)
          clear hf; intro a hf
          refine done_l ?_
          refine t_normal ?_
          refine c_ret ?_
          refine t_ret ?_
          refine e_resN hf.defers rfl (res_cellN hf rfl ag23 sz23 hS (by repeat (first | exact Sel.head | apply Sel.tail)) (by repeat (first | exact Seg.nil | apply Seg.cons | apply Seg.succ)) (res_tmp hf rfl .nil)) ?_
          first | (have hb : memBad s := (by unfold memBad memS memI; first | exact .inl ⟨by assumption, by omega⟩ | exact .inr (by assumption)); rw [(m_bad hb).1, (m_bad hb).2.1, (m_bad hb).2.2]; exact ⟨rfl, hS.sub (by repeat (first | exact Sub.refl | exact Sub.none | exact Sub.behind | (apply Sub.cons; (focus ((repeat (first | exact Sel.head | apply Sel.tail)); done))) | apply Sub.skip))⟩) | (have hb : ¬ memBad s := (by unfold memBad memS memI; exact fun h => h.elim (fun h1 => by first | exact absurd (by assumption) h1.1 | omega) (fun h1 => h1 (by assumption))); rw [(m_ok hb).1, (m_ok hb).2.1, (m_ok hb).2.2]; exact ⟨rfl, hS.sub (by repeat (first | exact Sub.refl | exact Sub.none | exact Sub.behind | (apply Sub.cons; (focus ((repeat (first | exact Sel.head | apply Sel.tail)); done))) | apply Sub.skip))⟩)
          )
      · clear hf; intro hc4 a hf
        first
        | (exact absurd (by assumption) hc4; done)
        | (
          refine step_l (st_rd hf (Wn.none rfl) (rd_pick_t hf rfl rfl rfl) hS rfl rfl ?_)
          clear hf; intro a hf
          refine step_l (st_rd hf (Wn.none rfl) (rd_move hf rfl rfl) hS rfl rfl ?_)
          clear hf; intro a hf
          refine step_l (st_rd hf (Wn.some hf rfl rfl rfl rfl) (rd_loadN hf rfl rfl ag23 sz23 (by intro _ h; exact loadN_of h (by repeat (first | exact Sel.head | apply Sel.tail)) (by repeat (first | exact Seg.nil | apply Seg.cons | apply Seg.succ)) )) hS rfl rfl ?_)
          clear hf; intro a hf
          refine step_l (st_call hf (Wn.some hf rfl rfl rfl rfl) rfl rfl rfl fn14 (May_c _ _ hS) rfl rfl ?_)
          clear hf hS; rintro v a w ⟨rfl, hS⟩ hf
          first | refine split_dec (d := 24) hf rfl ?_ ?_ | refine split_bool (d := 24) hf rfl ?_ ?_
          · clear hf; intro hc5 hf
            first
            | (exact absurd (by assumption) hc5; done)
            | (
              refine step_l (st_rd hf (Wn.some hf rfl rfl rfl rfl) (rd_not hf rfl rfl) hS rfl rfl ?_)
              clear hf; intro a hf
              refine step_l (st_rd hf (Wn.none rfl) (rd_pick_f hf rfl rfl rfl) hS rfl rfl ?_)
              clear hf; intro a hf
              refine done_l ?_
              refine t_normal ?_
              refine c_false hf rfl ?_
              refine c_skip ?_
              refine t_normal ?_
              refine c_seq ?_
              refine c_region ?_
              refine step_l (st_rd hf (Wn.none rfl) (rd_loadN hf rfl rfl ag23 sz23 (by intro _ h; exact loadN_of h (by repeat (first | exact Sel.head | apply Sel.tail)) (by repeat (first | exact Seg.nil | apply Seg.cons | apply Seg.succ)) )) hS rfl rfl ?_)
              clear hf; intro a hf
              refine step_l (st_store hf (Wn.none rfl) hS rfl rfl rfl (by rfl) sz23 (by rfl) (by rfl) (by repeat (first | exact Sel.head | apply Sel.tail)) (by repeat (first | exact Put.nil | apply Put.cons | apply Put.succ)) rfl ?_)
              clear hf hS; intro a w hf hS
              refine step_l (st_rd hf (Wn.none rfl) (rd_assign hf rfl rfl) hS rfl rfl ?_)
              clear hf; intro a hf
              refine done_l ?_
              refine t_normal ?_
              refine c_ret ?_
              refine e_resN hf.defers rfl (res_cellN hf rfl ag23 sz23 hS (by repeat (first | exact Sel.head | apply Sel.tail)) (by repeat (first | exact Seg.nil | apply Seg.cons | apply Seg.succ)) (res_tmp hf rfl .nil)) ?_
              first | (have hb : memBad s := (by unfold memBad memS memI; first | exact .inl ⟨by assumption, by omega⟩ | exact .inr (by assumption)); rw [(m_bad hb).1, (m_bad hb).2.1, (m_bad hb).2.2]; exact ⟨rfl, hS.sub (by repeat (first | exact Sub.refl | exact Sub.none | exact Sub.behind | (apply Sub.cons; (focus ((repeat (first | exact Sel.head | apply Sel.tail)); done))) | apply Sub.skip))⟩) | (have hb : ¬ memBad s := (by unfold memBad memS memI; exact fun h => h.elim (fun h1 => by first | exact absurd (by assumption) h1.1 | omega) (fun h1 => h1 (by assumption))); rw [(m_ok hb).1, (m_ok hb).2.1, (m_ok hb).2.2]; exact ⟨rfl, hS.sub (by repeat (first | exact Sub.refl | exact Sub.none | exact Sub.behind | (apply Sub.cons; (focus ((repeat (first | exact Sel.head | apply Sel.tail)); done))) | apply Sub.skip))⟩)
              )
          · clear hf; intro hc5 hf
            first
            | (exact absurd (by assumption) hc5; done)
            | (
              refine step_l (st_rd hf (Wn.some hf rfl rfl rfl rfl) (rd_not hf rfl rfl) hS rfl rfl ?_)
              clear hf; intro a hf
              refine step_l (st_rd hf (Wn.none rfl) (rd_pick_f hf rfl rfl rfl) hS rfl rfl ?_)
              clear hf; intro a hf
              refine done_l ?_
              refine t_normal ?_
              refine c_true hf rfl ?_
              refine c_seq ?_
              refine c_region ?_
              refine step_l (st_rd hf (Wn.none rfl) (rd_build hf rfl rfl zr23 (by rfl) pl23 .nil) hS rfl rfl ?_)
              clear hf; intro a hf
              refine step_l (st_store hf (Wn.none rfl) hS rfl rfl rfl (by rfl) sz23 (by rfl) (by rfl) (by repeat (first | exact Sel.head | apply Sel.tail)) (by repeat (first | exact Put.nil | apply Put.cons | apply Put.succ)) rfl ?_)
              clear hf hS; intro a w hf hS
              refine step_l (st_rd hf (Wn.none rfl) (rd_assign hf rfl rfl) hS rfl rfl ?_)
              clear hf; intro a hf
              refine done_l ?_
              refine t_normal ?_
              refine c_ret ?_
              refine t_ret ?_
              refine e_resN hf.defers rfl (res_cellN hf rfl ag23 sz23 hS (by repeat (first | exact Sel.head | apply Sel.tail)) (by repeat (first | exact Seg.nil | apply Seg.cons | apply Seg.succ)) (res_tmp hf rfl .nil)) ?_
              first | (have hb : memBad s := (by unfold memBad memS memI; first | exact .inl ⟨by assumption, by omega⟩ | exact .inr (by assumption)); rw [(m_bad hb).1, (m_bad hb).2.1, (m_bad hb).2.2]; exact ⟨rfl, hS.sub (by repeat (first | exact Sub.refl | exact Sub.none | exact Sub.behind | (apply Sub.cons; (focus ((repeat (first | exact Sel.head | apply Sel.tail)); done))) | apply Sub.skip))⟩) | (have hb : ¬ memBad s := (by unfold memBad memS memI; exact fun h => h.elim (fun h1 => by first | exact absurd (by assumption) h1.1 | omega) (fun h1 => h1 (by assumption))); rw [(m_ok hb).1, (m_ok hb).2.1, (m_ok hb).2.2]; exact ⟨rfl, hS.sub (by repeat (first | exact Sub.refl | exact Sub.none | exact Sub.behind | (apply Sub.cons; (focus ((repeat (first | exact Sel.head | apply Sel.tail)); done))) | apply Sub.skip))⟩)
              )
          )
      )
  · clear hf; intro hc3 a hf
    first
    | (exact absurd (by assumption) hc3; done)
    | (
      refine step_l (st_rd hf (Wn.none rfl) (rd_move hf rfl rfl) hS rfl rfl ?_)
      clear hf; intro a hf
      refine step_l (st_skip hf (Wn.some hf rfl rfl rfl rfl) rfl rfl ?_)
      clear hf; intro a hf
      refine step_l (st_skip hf (Wn.some hf rfl rfl rfl rfl) rfl rfl ?_)
      clear hf; intro a hf
      refine step_l (st_skip hf (Wn.some hf rfl rfl rfl rfl) rfl rfl ?_)
      clear hf; intro a hf
      refine step_l (st_rd hf (Wn.none rfl) (rd_pick_f hf rfl rfl rfl) hS rfl rfl ?_)
      clear hf; intro a hf
      refine step_l (st_rd hf (Wn.none rfl) (rd_move hf rfl rfl) hS rfl rfl ?_)
      clear hf; intro a hf
      refine step_l (st_rd hf (Wn.some hf rfl rfl rfl rfl) (rd_loadN hf rfl rfl ag23 sz23 (by intro _ h; exact loadN_of h (by repeat (first | exact Sel.head | apply Sel.tail)) (by repeat (first | exact Seg.nil | apply Seg.cons | apply Seg.succ)) )) hS rfl rfl ?_)
      clear hf; intro a hf
      refine step_l (st_call hf (Wn.some hf rfl rfl rfl rfl) rfl rfl rfl fn14 (May_c _ _ hS) rfl rfl ?_)
      clear hf hS; rintro v a w ⟨rfl, hS⟩ hf
      first | refine split_dec (d := 24) hf rfl ?_ ?_ | refine split_bool (d := 24) hf rfl ?_ ?_
      · clear hf; intro hc6 hf
        first
        | (exact absurd (by assumption) hc6; done)
        | (
          refine step_l (st_rd hf (Wn.some hf rfl rfl rfl rfl) (rd_not hf rfl rfl) hS rfl rfl ?_)
          clear hf; intro a hf
          refine step_l (st_rd hf (Wn.none rfl) (rd_pick_f hf rfl rfl rfl) hS rfl rfl ?_)
          clear hf; intro a hf
          refine done_l ?_
          refine t_normal ?_
          refine c_false hf rfl ?_
          refine c_skip ?_
          refine t_normal ?_
          refine c_seq ?_
          refine c_region ?_
          refine step_l (st_rd hf (Wn.none rfl) (rd_loadN hf rfl rfl ag23 sz23 (by intro _ h; exact loadN_of h (by repeat (first | exact Sel.head | apply Sel.tail)) (by repeat (first | exact Seg.nil | apply Seg.cons | apply Seg.succ)) )) hS rfl rfl ?_)
          clear hf; intro a hf
          refine step_l (st_store hf (Wn.none rfl) hS rfl rfl rfl (by rfl) sz23 (by rfl) (by rfl) (by repeat (first | exact Sel.head | apply Sel.tail)) (by repeat (first | exact Put.nil | apply Put.cons | apply Put.succ)) rfl ?_)
          clear hf hS; intro a w hf hS
          refine step_l (st_rd hf (Wn.none rfl) (rd_assign hf rfl rfl) hS rfl rfl ?_)
          clear hf; intro a hf
          refine done_l ?_
          refine t_normal ?_
          refine c_ret ?_
          refine e_resN hf.defers rfl (res_cellN hf rfl ag23 sz23 hS (by repeat (first | exact Sel.head | apply Sel.tail)) (by repeat (first | exact Seg.nil | apply Seg.cons | apply Seg.succ)) (res_tmp hf rfl .nil)) ?_
          first | (have hb : memBad s := (by unfold memBad memS memI; first | exact .inl ⟨by assumption, by omega⟩ | exact .inr (by assumption)); rw [(m_bad hb).1, (m_bad hb).2.1, (m_bad hb).2.2]; exact ⟨rfl, hS.sub (by repeat (first | exact Sub.refl | exact Sub.none | exact Sub.behind | (apply Sub.cons; (focus ((repeat (first | exact Sel.head | apply Sel.tail)); done))) | apply Sub.skip))⟩) | (have hb : ¬ memBad s := (by unfold memBad memS memI; exact fun h => h.elim (fun h1 => by first | exact absurd (by assumption) h1.1 | omega) (fun h1 => h1 (by assumption))); rw [(m_ok hb).1, (m_ok hb).2.1, (m_ok hb).2.2]; exact ⟨rfl, hS.sub (by repeat (first | exact Sub.refl | exact Sub.none | exact Sub.behind | (apply Sub.cons; (focus ((repeat (first | exact Sel.head | apply Sel.tail)); done))) | apply Sub.skip))⟩)
          )
      · clear hf; intro hc6 hf
        first
        | (exact absurd (by assumption) hc6; done)
        | (
          refine step_l (st_rd hf (Wn.some hf rfl rfl rfl rfl) (rd_not hf rfl rfl) hS rfl rfl ?_)
          clear hf; intro a hf
          refine step_l (st_rd hf (Wn.none rfl) (rd_pick_f hf rfl rfl rfl) hS rfl rfl ?_)
          clear hf; intro a hf
          refine done_l ?_
          refine t_normal ?_
          refine c_true hf rfl ?_
          refine c_seq ?_
          refine c_region ?_
          refine step_l (st_rd hf (Wn.none rfl) (rd_build hf rfl rfl zr23 (by rfl) pl23 .nil) hS rfl rfl ?_)
          clear hf; intro a hf
          refine step_l (st_store hf (Wn.none rfl) hS rfl rfl rfl (by rfl) sz23 (by rfl) (by rfl) (by repeat (first | exact Sel.head | apply Sel.tail)) (by repeat (first | exact Put.nil | apply Put.cons | apply Put.succ)) rfl ?_)
          clear hf hS; intro a w hf hS
          refine step_l (st_rd hf (Wn.none rfl) (rd_assign hf rfl rfl) hS rfl rfl ?_)
          clear hf; intro a hf
          refine done_l ?_
          refine t_normal ?_
          refine c_ret ?_
          refine t_ret ?_
          refine e_resN hf.defers rfl (res_cellN hf rfl ag23 sz23 hS (by repeat (first | exact Sel.head | apply Sel.tail)) (by repeat (first | exact Seg.nil | apply Seg.cons | apply Seg.succ)) (res_tmp hf rfl .nil)) ?_
          first | (have hb : memBad s := (by unfold memBad memS memI; first | exact .inl ⟨by assumption, by omega⟩ | exact .inr (by assumption)); rw [(m_bad hb).1, (m_bad hb).2.1, (m_bad hb).2.2]; exact ⟨rfl, hS.sub (by repeat (first | exact Sub.refl | exact Sub.none | exact Sub.behind | (apply Sub.cons; (focus ((repeat (first | exact Sel.head | apply Sel.tail)); done))) | apply Sub.skip))⟩) | (have hb : ¬ memBad s := (by unfold memBad memS memI; exact fun h => h.elim (fun h1 => by first | exact absurd (by assumption) h1.1 | omega) (fun h1 => h1 (by assumption))); rw [(m_ok hb).1, (m_ok hb).2.1, (m_ok hb).2.2]; exact ⟨rfl, hS.sub (by repeat (first | exact Sub.refl | exact Sub.none | exact Sub.behind | (apply Sub.cons; (focus ((repeat (first | exact Sel.head | apply Sel.tail)); done))) | apply Sub.skip))⟩)
          )
      )

end Go.Proofs.Ytgmbhbnhfmfidaa
