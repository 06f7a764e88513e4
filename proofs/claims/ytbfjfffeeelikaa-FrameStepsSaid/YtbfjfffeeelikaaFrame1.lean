/-
  The functions of package frame, walked.
  Conditions: none.
-/
import Derived.Test.YtbfjfffeeelikaaLazy1
import Derived.Test.YtbfjfffeeelikaaFr1
import Derived.Test.YtbfjfffeeelikaaFs1
namespace Go.Proofs.Ytbfjfffeeelikaa
open Go Go.Sl
set_option linter.unusedVariables false
set_option linter.unusedSimpArgs false
theorem ag22 : aggO Try.prog 22 = some false := by kernel_rfl
theorem ag47 : aggO Try.prog 47 = some false := by kernel_rfl
theorem ag49 : aggO Try.prog 49 = some true := by kernel_rfl
theorem bz22_1 : ((Array.range (1 * 1)).map (fun j => ((.slice none 0 0 : Value)).cells[j % ((.slice none 0 0 : Value)).cells.size]!)) = ([.slice none 0 0] : List Value).toArray := by kernel_rfl
theorem bz22_4 : ((Array.range (4 * 1)).map (fun j => ((.slice none 0 0 : Value)).cells[j % ((.slice none 0 0 : Value)).cells.size]!)) = ([.slice none 0 0, .slice none 0 0, .slice none 0 0, .slice none 0 0] : List Value).toArray := by kernel_rfl
theorem bz5_0 : ((Array.range (0 * 1)).map (fun j => ((.int .u8 0 : Value)).cells[j % ((.int .u8 0 : Value)).cells.size]!)) = ([] : List Value).toArray := by kernel_rfl
theorem bz5_4 : ((Array.range (4 * 1)).map (fun j => ((.int .u8 0 : Value)).cells[j % ((.int .u8 0 : Value)).cells.size]!)) = ([.int .u8 0, .int .u8 0, .int .u8 0, .int .u8 0] : List Value).toArray := by kernel_rfl
theorem fb49_0 : fieldB Try.prog 49 0 0 = true := by kernel_rfl
theorem fn15 : fnB Try.prog 15 = true := by kernel_rfl
theorem fn20 : fnB Try.prog 20 = true := by kernel_rfl
theorem fn21 : fnB Try.prog 21 = true := by kernel_rfl
theorem fn22 : fnB Try.prog 22 = true := by kernel_rfl
theorem fn23 : fnB Try.prog 23 = true := by kernel_rfl
theorem fn24 : fnB Try.prog 24 = true := by kernel_rfl
theorem fn25 : fnB Try.prog 25 = true := by kernel_rfl
theorem fn26 : fnB Try.prog 26 = true := by kernel_rfl
theorem fn27 : fnB Try.prog 27 = true := by kernel_rfl
theorem fn28 : fnB Try.prog 28 = true := by kernel_rfl
theorem fn29 : fnB Try.prog 29 = true := by kernel_rfl
theorem fn30 : fnB Try.prog 30 = true := by kernel_rfl
theorem fn33 : fnB Try.prog 33 = true := by kernel_rfl
theorem fn34 : fnB Try.prog 34 = true := by kernel_rfl
theorem pl49 : placesO Try.prog 49 = some [(0, 1)] := by kernel_rfl
theorem sz22 : (Try.prog.info? 22).map (·.size) = some 1 := by kernel_rfl
theorem sz49 : (Try.prog.info? 49).map (·.size) = some 1 := by kernel_rfl
theorem tyb22 : TyB Try.prog 22 (.slice none 0 0) 1 24 := by unfold TyB; kernel_rfl
theorem tyb5 : TyB Try.prog 5 (.int .u8 0) 1 1 := by unfold TyB; kernel_rfl
theorem zr22 : (Try.prog.info? 22).bind (·.zero) = some (.slice none 0 0) := by kernel_rfl
theorem zr49 : (Try.prog.info? 49).bind (·.zero) = some (.agg #[.pointer none]) := by kernel_rfl
theorem zr5 : (Try.prog.info? 5).bind (·.zero) = some (.int .u8 0) := by kernel_rfl
theorem Clone_c (bs : List UInt8) (q0 : Option Addr) (n0 cap0 : Nat) {W : World} {R : List HP} {w : World} (hS : Sat W (R) w) (hn0 : n0 = bs.length) (hb : bs.length ≤ 140737488355328) (hv : ∀ w, Sat W R w → SlAt w q0 bs.length 1 (bvs bs)) : Calls Try.prog 34 [.slice q0 n0 cap0].toArray w (Ret fun v w' => ∃ q cap, v = .slice q (bs).length cap ∧ Sat W (Rw 5 1 q (bs).length cap (bvs (bs)) :: R) w') := by
  refine fn_start 8 Try.func34 rfl rfl rfl ?_
  intro a hf
  subst hn0
  refine c_seq ?_
  refine c_region ?_
  refine step_l (st_rd hf (Wn.none rfl) (rd_assign hf rfl rfl) hS rfl rfl ?_)
  clear hf; intro a hf
  refine done_l ?_
  refine t_normal ?_
  refine c_seq ?_
  refine c_seq ?_
  refine c_region ?_
  refine step_l (st_rd hf (Wn.none rfl) (rd_move hf rfl rfl) hS rfl rfl ?_)
  clear hf; intro a hf
  refine step_l (st_rdb hf (Wn.none rfl) (rd_eqlNilS hf rfl rfl rfl Try.underlying22) hS rfl rfl ?_ ?_)
  · clear hf; intro hc1 a hf
    have hz : bs.length = 0 := (hv _ hS).len0 hc1
    refine done_l ?_
    refine t_normal ?_
    refine c_true hf rfl ?_
    refine c_seq ?_
    refine c_region ?_
    refine step_l (st_rd hf (Wn.none rfl) (rd_assign hf rfl rfl) hS rfl rfl ?_)
    clear hf; intro a hf
    refine done_l ?_
    refine t_normal ?_
    refine c_ret ?_
    refine t_ret ?_
    refine e_res1 hf.defers rfl (res_tmp hf rfl .nil) ?_
    have hz2 : bs = [] := List.eq_nil_of_length_eq_zero hz; subst hz2; exact ⟨none, 0, rfl, hS.rwNil _ 1⟩
  · clear hf; intro hc1 a hf
    refine done_l ?_
    refine t_normal ?_
    refine c_false hf rfl ?_
    refine c_skip ?_
    refine t_normal ?_
    refine c_seq ?_
    refine c_region ?_
    refine step_l (st_buildRw hf (Wn.none rfl) hS rfl rfl Try.underlying22 sz5 zr5 (by decide) (by decide) bz5_0 rfl .nil rfl rfl rfl ?_)
    clear hf hS; intro b_2 a w hf hS
    refine step_l (st_rd hf (Wn.none rfl) (rd_move hf rfl rfl) hS rfl rfl ?_)
    clear hf; intro a hf
    refine step_l (st_append hf (Wn.none rfl) rfl rfl rfl Try.underlying22 tyb5 (by rfl) (by decide) hS (by repeat (first | exact Sel.head | apply Sel.tail)) (by first | exact hS.slOfBlk (by repeat (first | exact Sel.head | apply Sel.tail)) (by rfl) | exact hS.slOfBlkPre (by repeat (first | exact Sel.head | apply Sel.tail)) (bvs_len1 _) | exact hS.slOfRw (by repeat (first | exact Sel.head | apply Sel.tail)) | exact SlAt.nil _ _ _ | exact hv _ (hS.sub (by repeat (first | exact Sub.refl | exact Sub.none | exact Sub.behind | (apply Sub.cons; (focus ((repeat (first | exact Sel.head | apply Sel.tail)); done))) | apply Sub.skip)))) (by first | rfl | exact bvs_one _ | (simp [Value.oneCell']; done)) (by omega) rfl rfl ?_)
    clear hf hS; intro pA capA a w hf hS hnilA
    refine step_l (st_rd hf (Wn.none rfl) (rd_assign hf rfl rfl) hS rfl rfl ?_)
    clear hf; intro a hf
    refine done_l ?_
    refine t_normal ?_
    refine c_ret ?_
    refine e_res1 hf.defers rfl (res_tmp hf rfl .nil) ?_
    exact ⟨pA, capA, by rw [Nat.zero_add], (hS.rwCast (xs' := bvs bs) (by simp) (Nat.zero_add _)).sub (by repeat (first | exact Sub.refl | exact Sub.none | exact Sub.behind | (apply Sub.cons; (focus ((repeat (first | exact Sel.head | apply Sel.tail)); done))) | apply Sub.skip))⟩

theorem Fword_c (c : B32) {W : World} {R : List HP} {w : World} (hS : Sat W (R) w)  : Calls Try.prog 21 [u32v c].toArray w (Ret fun v w' => ∃ q cap, v = .slice q 4 cap ∧ Sat W (Rw 5 1 q 4 cap (bvs (w32 c)) :: R) w') := by
  refine fn_start 15 Try.func21 rfl rfl rfl ?_
  intro a hf
  refine c_seq ?_
  refine c_region ?_
  refine step_l (st_rd hf (Wn.none rfl) (rd_assign hf rfl rfl) hS rfl rfl ?_)
  clear hf; intro a hf
  refine done_l ?_
  refine t_normal ?_
  refine c_seq ?_
  refine c_region ?_
  refine step_l (st_rd hf (Wn.none rfl) (rd_move hf rfl rfl) hS rfl rfl ?_)
  clear hf; intro a hf
  refine step_l (st_rd hf (Wn.none rfl) (rd_shr hf rfl rfl rfl (by first | decide | omega) (n32_shr _ 24 rfl (by decide))) hS rfl rfl ?_)
  clear hf; intro a hf
  refine step_l (st_rd hf (Wn.none rfl) (rd_convInt hf rfl rfl Try.underlying46 Try.underlying5 (n8_of32 _)) hS rfl rfl ?_)
  clear hf; intro a hf
  refine step_l (st_rd hf (Wn.none rfl) (rd_move hf rfl rfl) hS rfl rfl ?_)
  clear hf; intro a hf
  refine step_l (st_rd hf (Wn.none rfl) (rd_shr hf rfl rfl rfl (by first | decide | omega) (n32_shr _ 16 rfl (by decide))) hS rfl rfl ?_)
  clear hf; intro a hf
  refine step_l (st_rd hf (Wn.none rfl) (rd_convInt hf rfl rfl Try.underlying46 Try.underlying5 (n8_of32 _)) hS rfl rfl ?_)
  clear hf; intro a hf
  refine step_l (st_rd hf (Wn.none rfl) (rd_move hf rfl rfl) hS rfl rfl ?_)
  clear hf; intro a hf
  refine step_l (st_rd hf (Wn.none rfl) (rd_shr hf rfl rfl rfl (by first | decide | omega) (n32_shr _ 8 rfl (by decide))) hS rfl rfl ?_)
  clear hf; intro a hf
  refine step_l (st_rd hf (Wn.none rfl) (rd_convInt hf rfl rfl Try.underlying46 Try.underlying5 (n8_of32 _)) hS rfl rfl ?_)
  clear hf; intro a hf
  refine step_l (st_rd hf (Wn.none rfl) (rd_move hf rfl rfl) hS rfl rfl ?_)
  clear hf; intro a hf
  refine step_l (st_rd hf (Wn.none rfl) (rd_convInt hf rfl rfl Try.underlying46 Try.underlying5 (n8_of32 _)) hS rfl rfl ?_)
  clear hf; intro a hf
  refine step_l (st_buildRw hf (Wn.none rfl) hS rfl rfl Try.underlying22 sz5 zr5 (by decide) (by decide) bz5_4 rfl (.cons rfl (by first | rfl) (by rfl) (by repeat (first | exact Put.nil | apply Put.cons | apply Put.succ)) (.cons rfl (by first | rfl) (by rfl) (by repeat (first | exact Put.nil | apply Put.cons | apply Put.succ)) (.cons rfl (by first | rfl) (by rfl) (by repeat (first | exact Put.nil | apply Put.cons | apply Put.succ)) (.cons rfl (by first | rfl) (by rfl) (by repeat (first | exact Put.nil | apply Put.cons | apply Put.succ)) .nil)))) rfl rfl rfl ?_)
  clear hf hS; intro b_1 a w hf hS
  refine step_l (st_rd hf (Wn.none rfl) (rd_assign hf rfl rfl) hS rfl rfl ?_)
  clear hf; intro a hf
  refine done_l ?_
  refine t_normal ?_
  refine c_ret ?_
  refine e_res1 hf.defers rfl (res_tmp hf rfl .nil) ?_
  exact ⟨_, _, rfl, (hS.rwCast (xs' := bvs (w32 c)) rfl rfl).sub (by repeat (first | exact Sub.refl | exact Sub.none | exact Sub.behind | (apply Sub.cons; (focus ((repeat (first | exact Sel.head | apply Sel.tail)); done))) | apply Sub.skip))⟩

theorem Ru32_c (c : B32) {W : World} {R : List HP} {w : World} (hS : Sat W (R) w)  : Calls Try.prog 24 [u32v c].toArray w (Ret fun v w' => ∃ q cap, v = .slice q 4 cap ∧ Sat W (Rw 5 1 q 4 cap (bvs (w32 c)) :: R) w') := by
  refine fn_start 15 Try.func24 rfl rfl rfl ?_
  intro a hf
  refine c_seq ?_
  refine c_region ?_
  refine step_l (st_rd hf (Wn.none rfl) (rd_assign hf rfl rfl) hS rfl rfl ?_)
  clear hf; intro a hf
  refine done_l ?_
  refine t_normal ?_
  refine c_seq ?_
  refine c_region ?_
  refine step_l (st_rd hf (Wn.none rfl) (rd_move hf rfl rfl) hS rfl rfl ?_)
  clear hf; intro a hf
  refine step_l (st_rd hf (Wn.none rfl) (rd_shr hf rfl rfl rfl (by first | decide | omega) (n32_shr _ 24 rfl (by decide))) hS rfl rfl ?_)
  clear hf; intro a hf
  refine step_l (st_rd hf (Wn.none rfl) (rd_convInt hf rfl rfl Try.underlying46 Try.underlying5 (n8_of32 _)) hS rfl rfl ?_)
  clear hf; intro a hf
  refine step_l (st_rd hf (Wn.none rfl) (rd_move hf rfl rfl) hS rfl rfl ?_)
  clear hf; intro a hf
  refine step_l (st_rd hf (Wn.none rfl) (rd_shr hf rfl rfl rfl (by first | decide | omega) (n32_shr _ 16 rfl (by decide))) hS rfl rfl ?_)
  clear hf; intro a hf
  refine step_l (st_rd hf (Wn.none rfl) (rd_convInt hf rfl rfl Try.underlying46 Try.underlying5 (n8_of32 _)) hS rfl rfl ?_)
  clear hf; intro a hf
  refine step_l (st_rd hf (Wn.none rfl) (rd_move hf rfl rfl) hS rfl rfl ?_)
  clear hf; intro a hf
  refine step_l (st_rd hf (Wn.none rfl) (rd_shr hf rfl rfl rfl (by first | decide | omega) (n32_shr _ 8 rfl (by decide))) hS rfl rfl ?_)
  clear hf; intro a hf
  refine step_l (st_rd hf (Wn.none rfl) (rd_convInt hf rfl rfl Try.underlying46 Try.underlying5 (n8_of32 _)) hS rfl rfl ?_)
  clear hf; intro a hf
  refine step_l (st_rd hf (Wn.none rfl) (rd_move hf rfl rfl) hS rfl rfl ?_)
  clear hf; intro a hf
  refine step_l (st_rd hf (Wn.none rfl) (rd_convInt hf rfl rfl Try.underlying46 Try.underlying5 (n8_of32 _)) hS rfl rfl ?_)
  clear hf; intro a hf
  refine step_l (st_buildRw hf (Wn.none rfl) hS rfl rfl Try.underlying22 sz5 zr5 (by decide) (by decide) bz5_4 rfl (.cons rfl (by first | rfl) (by rfl) (by repeat (first | exact Put.nil | apply Put.cons | apply Put.succ)) (.cons rfl (by first | rfl) (by rfl) (by repeat (first | exact Put.nil | apply Put.cons | apply Put.succ)) (.cons rfl (by first | rfl) (by rfl) (by repeat (first | exact Put.nil | apply Put.cons | apply Put.succ)) (.cons rfl (by first | rfl) (by rfl) (by repeat (first | exact Put.nil | apply Put.cons | apply Put.succ)) .nil)))) rfl rfl rfl ?_)
  clear hf hS; intro b_1 a w hf hS
  refine step_l (st_rd hf (Wn.none rfl) (rd_assign hf rfl rfl) hS rfl rfl ?_)
  clear hf; intro a hf
  refine done_l ?_
  refine t_normal ?_
  refine c_ret ?_
  refine e_res1 hf.defers rfl (res_tmp hf rfl .nil) ?_
  exact ⟨_, _, rfl, (hS.rwCast (xs' := bvs (w32 c)) rfl rfl).sub (by repeat (first | exact Sub.refl | exact Sub.none | exact Sub.behind | (apply Sub.cons; (focus ((repeat (first | exact Sel.head | apply Sel.tail)); done))) | apply Sub.skip))⟩

theorem Fnumber_c (b : List UInt8) (qb : Option Addr) (nb cb : Nat) {W : World} {R : List HP} {w : World} (hS : Sat W (R) w) (hnb : nb = b.length) (hb : b.length ≤ 140737488355328) (hvb : ∀ w, Sat W R w → SlAt w qb b.length 1 (bvs b)) (h4 : 4 ≤ b.length) : Calls Try.prog 33 [.slice qb nb cb].toArray w (Ret fun v w' => v = u32v (num32 b) ∧ Sat W R w') := by
  refine fn_start 25 Try.func33 rfl rfl rfl ?_
  intro a hf
  subst hnb; obtain ⟨x0, hg0⟩ := get_of_lt (l := b) (k := 0) (by omega) rfl; obtain ⟨x1, hg1⟩ := get_of_lt (l := b) (k := 1) (by omega) rfl; obtain ⟨x2, hg2⟩ := get_of_lt (l := b) (k := 2) (by omega) rfl; obtain ⟨x3, hg3⟩ := get_of_lt (l := b) (k := 3) (by omega) rfl; obtain ⟨adb, rfl⟩ := (hvb _ hS).some (by omega)
  refine c_seq ?_
  refine c_region ?_
  refine step_l (st_rd hf (Wn.none rfl) (rd_assign hf rfl rfl) hS rfl rfl ?_)
  clear hf; intro a hf
  refine done_l ?_
  refine t_normal ?_
  refine c_seq ?_
  refine any_begin mixed hS.drew ?_
  replace hS := hS.drew
  have hT := hS
  refine any_take (i := 0) hf rfl (by kernel_rfl) (by kernel_rfl) (by kernel_rfl) (fun _ _ _ h => h) (Wn.none rfl) (rd_move hf rfl rfl) hT rfl rfl ?_
  clear hf; intro a hf
  refine any_take (i := 1) hf rfl (by kernel_rfl) (by kernel_rfl) (by kernel_rfl) (fun _ _ _ h => h) (Wn.none rfl) ((by first | exact rd_indexAddrN1 hf rfl rfl rfl Try.underlying22 sz5 (by omega) | exact rd_indexAddr hf rfl rfl rfl Try.underlying22 sz5 (by first | decide | omega) (by omega))) hT rfl rfl ?_
  clear hf; intro a hf
  refine any_take (i := 2) hf rfl (by kernel_rfl) (by kernel_rfl) (by kernel_rfl) (fun _ _ _ h => h) (Wn.none rfl) (rd_load1 hf rfl rfl ag5 (by intro _ h; exact (hvb _ (h.sub (by repeat (first | exact Sub.refl | exact Sub.none | exact Sub.behind | (apply Sub.cons; (focus ((repeat (first | exact Sel.head | apply Sel.tail)); done))) | apply Sub.skip)))).get (bvs_get hg0))) hT rfl rfl ?_
  clear hf; intro a hf
  refine any_take (i := 3) hf rfl (by kernel_rfl) (by kernel_rfl) (by kernel_rfl) (fun _ _ _ h => h) (Wn.none rfl) (rd_convInt hf rfl rfl Try.underlying5 Try.underlying46 (n32_conv8' _)) hT rfl rfl ?_
  clear hf; intro a hf
  refine any_take (i := 4) hf rfl (by kernel_rfl) (by kernel_rfl) (by kernel_rfl) (fun _ _ _ h => h) (Wn.none rfl) (rd_shl hf rfl rfl rfl (by first | decide | omega) (n32_shl _ 24 rfl (by decide))) hT rfl rfl ?_
  clear hf; intro a hf
  refine any_take (i := 5) hf rfl (by kernel_rfl) (by kernel_rfl) (by kernel_rfl) (fun _ _ _ h => h) (Wn.none rfl) (rd_move hf rfl rfl) hT rfl rfl ?_
  clear hf; intro a hf
  refine any_take (i := 6) hf rfl (by kernel_rfl) (by kernel_rfl) (by kernel_rfl) (fun _ _ _ h => h) (Wn.none rfl) ((by first | exact rd_indexAddrN1 hf rfl rfl rfl Try.underlying22 sz5 (by omega) | exact rd_indexAddr hf rfl rfl rfl Try.underlying22 sz5 (by first | decide | omega) (by omega))) hT rfl rfl ?_
  clear hf; intro a hf
  refine any_take (i := 7) hf rfl (by kernel_rfl) (by kernel_rfl) (by kernel_rfl) (fun _ _ _ h => h) (Wn.none rfl) (rd_load1 hf rfl rfl ag5 (by intro _ h; exact (hvb _ (h.sub (by repeat (first | exact Sub.refl | exact Sub.none | exact Sub.behind | (apply Sub.cons; (focus ((repeat (first | exact Sel.head | apply Sel.tail)); done))) | apply Sub.skip)))).get (bvs_get hg1))) hT rfl rfl ?_
  clear hf; intro a hf
  refine any_take (i := 8) hf rfl (by kernel_rfl) (by kernel_rfl) (by kernel_rfl) (fun _ _ _ h => h) (Wn.none rfl) (rd_convInt hf rfl rfl Try.underlying5 Try.underlying46 (n32_conv8' _)) hT rfl rfl ?_
  clear hf; intro a hf
  refine any_take (i := 9) hf rfl (by kernel_rfl) (by kernel_rfl) (by kernel_rfl) (fun _ _ _ h => h) (Wn.none rfl) (rd_shl hf rfl rfl rfl (by first | decide | omega) (n32_shl _ 16 rfl (by decide))) hT rfl rfl ?_
  clear hf; intro a hf
  refine any_take (i := 10) hf rfl (by kernel_rfl) (by kernel_rfl) (by kernel_rfl) (fun _ _ _ h => h) (Wn.none rfl) (rd_or hf rfl rfl rfl (n32_or _ _)) hT rfl rfl ?_
  clear hf; intro a hf
  refine any_take (i := 11) hf rfl (by kernel_rfl) (by kernel_rfl) (by kernel_rfl) (fun _ _ _ h => h) (Wn.none rfl) (rd_move hf rfl rfl) hT rfl rfl ?_
  clear hf; intro a hf
  refine any_take (i := 12) hf rfl (by kernel_rfl) (by kernel_rfl) (by kernel_rfl) (fun _ _ _ h => h) (Wn.none rfl) ((by first | exact rd_indexAddrN1 hf rfl rfl rfl Try.underlying22 sz5 (by omega) | exact rd_indexAddr hf rfl rfl rfl Try.underlying22 sz5 (by first | decide | omega) (by omega))) hT rfl rfl ?_
  clear hf; intro a hf
  refine any_take (i := 13) hf rfl (by kernel_rfl) (by kernel_rfl) (by kernel_rfl) (fun _ _ _ h => h) (Wn.none rfl) (rd_load1 hf rfl rfl ag5 (by intro _ h; exact (hvb _ (h.sub (by repeat (first | exact Sub.refl | exact Sub.none | exact Sub.behind | (apply Sub.cons; (focus ((repeat (first | exact Sel.head | apply Sel.tail)); done))) | apply Sub.skip)))).get (bvs_get hg2))) hT rfl rfl ?_
  clear hf; intro a hf
  refine any_take (i := 14) hf rfl (by kernel_rfl) (by kernel_rfl) (by kernel_rfl) (fun _ _ _ h => h) (Wn.none rfl) (rd_convInt hf rfl rfl Try.underlying5 Try.underlying46 (n32_conv8' _)) hT rfl rfl ?_
  clear hf; intro a hf
  refine any_take (i := 15) hf rfl (by kernel_rfl) (by kernel_rfl) (by kernel_rfl) (fun _ _ _ h => h) (Wn.none rfl) (rd_shl hf rfl rfl rfl (by first | decide | omega) (n32_shl _ 8 rfl (by decide))) hT rfl rfl ?_
  clear hf; intro a hf
  refine any_take (i := 16) hf rfl (by kernel_rfl) (by kernel_rfl) (by kernel_rfl) (fun _ _ _ h => h) (Wn.none rfl) (rd_or hf rfl rfl rfl (n32_or _ _)) hT rfl rfl ?_
  clear hf; intro a hf
  refine any_take (i := 17) hf rfl (by kernel_rfl) (by kernel_rfl) (by kernel_rfl) (fun _ _ _ h => h) (Wn.none rfl) (rd_move hf rfl rfl) hT rfl rfl ?_
  clear hf; intro a hf
  refine any_take (i := 18) hf rfl (by kernel_rfl) (by kernel_rfl) (by kernel_rfl) (fun _ _ _ h => h) (Wn.none rfl) ((by first | exact rd_indexAddrN1 hf rfl rfl rfl Try.underlying22 sz5 (by omega) | exact rd_indexAddr hf rfl rfl rfl Try.underlying22 sz5 (by first | decide | omega) (by omega))) hT rfl rfl ?_
  clear hf; intro a hf
  refine any_take (i := 19) hf rfl (by kernel_rfl) (by kernel_rfl) (by kernel_rfl) (fun _ _ _ h => h) (Wn.none rfl) (rd_load1 hf rfl rfl ag5 (by intro _ h; exact (hvb _ (h.sub (by repeat (first | exact Sub.refl | exact Sub.none | exact Sub.behind | (apply Sub.cons; (focus ((repeat (first | exact Sel.head | apply Sel.tail)); done))) | apply Sub.skip)))).get (bvs_get hg3))) hT rfl rfl ?_
  clear hf; intro a hf
  refine any_take (i := 20) hf rfl (by kernel_rfl) (by kernel_rfl) (by kernel_rfl) (fun _ _ _ h => h) (Wn.none rfl) (rd_convInt hf rfl rfl Try.underlying5 Try.underlying46 (n32_conv8' _)) hT rfl rfl ?_
  clear hf; intro a hf
  refine any_take (i := 21) hf rfl (by kernel_rfl) (by kernel_rfl) (by kernel_rfl) (fun _ _ _ h => h) (Wn.none rfl) (rd_or hf rfl rfl rfl (n32_or _ _)) hT rfl rfl ?_
  clear hf; intro a hf
  refine any_take (i := 22) hf rfl (by kernel_rfl) (by kernel_rfl) (by kernel_rfl) (fun _ _ _ h => h) (Wn.none rfl) (rd_assign hf rfl rfl) hT rfl rfl ?_
  clear hf; intro a hf
  refine any_done (by kernel_rfl) ?_
  refine t_normal ?_
  refine c_ret ?_
  refine e_res1 hf.defers rfl (res_tmp hf rfl .nil) ?_
  exact ⟨by rw [num32_at hg0 hg1 hg2 hg3]; rfl, hS.sub (by repeat (first | exact Sub.refl | exact Sub.none | exact Sub.behind | (apply Sub.cons; (focus ((repeat (first | exact Sel.head | apply Sel.tail)); done))) | apply Sub.skip))⟩

theorem Rnum_c (b : List UInt8) (qb : Option Addr) (nb cb : Nat) {W : World} {R : List HP} {w : World} (hS : Sat W (R) w) (hnb : nb = b.length) (hb : b.length ≤ 140737488355328) (hvb : ∀ w, Sat W R w → SlAt w qb b.length 1 (bvs b)) (h4 : 4 ≤ b.length) : Calls Try.prog 27 [.slice qb nb cb].toArray w (Ret fun v w' => v = u32v (num32 b) ∧ Sat W R w') := by
  refine fn_start 25 Try.func27 rfl rfl rfl ?_
  intro a hf
  subst hnb; obtain ⟨x0, hg0⟩ := get_of_lt (l := b) (k := 0) (by omega) rfl; obtain ⟨x1, hg1⟩ := get_of_lt (l := b) (k := 1) (by omega) rfl; obtain ⟨x2, hg2⟩ := get_of_lt (l := b) (k := 2) (by omega) rfl; obtain ⟨x3, hg3⟩ := get_of_lt (l := b) (k := 3) (by omega) rfl; obtain ⟨adb, rfl⟩ := (hvb _ hS).some (by omega)
  refine c_seq ?_
  refine c_region ?_
  refine step_l (st_rd hf (Wn.none rfl) (rd_assign hf rfl rfl) hS rfl rfl ?_)
  clear hf; intro a hf
  refine done_l ?_
  refine t_normal ?_
  refine c_seq ?_
  refine any_begin mixed hS.drew ?_
  replace hS := hS.drew
  have hT := hS
  refine any_take (i := 0) hf rfl (by kernel_rfl) (by kernel_rfl) (by kernel_rfl) (fun _ _ _ h => h) (Wn.none rfl) (rd_move hf rfl rfl) hT rfl rfl ?_
  clear hf; intro a hf
  refine any_take (i := 1) hf rfl (by kernel_rfl) (by kernel_rfl) (by kernel_rfl) (fun _ _ _ h => h) (Wn.none rfl) ((by first | exact rd_indexAddrN1 hf rfl rfl rfl Try.underlying22 sz5 (by omega) | exact rd_indexAddr hf rfl rfl rfl Try.underlying22 sz5 (by first | decide | omega) (by omega))) hT rfl rfl ?_
  clear hf; intro a hf
  refine any_take (i := 2) hf rfl (by kernel_rfl) (by kernel_rfl) (by kernel_rfl) (fun _ _ _ h => h) (Wn.none rfl) (rd_load1 hf rfl rfl ag5 (by intro _ h; exact (hvb _ (h.sub (by repeat (first | exact Sub.refl | exact Sub.none | exact Sub.behind | (apply Sub.cons; (focus ((repeat (first | exact Sel.head | apply Sel.tail)); done))) | apply Sub.skip)))).get (bvs_get hg0))) hT rfl rfl ?_
  clear hf; intro a hf
  refine any_take (i := 3) hf rfl (by kernel_rfl) (by kernel_rfl) (by kernel_rfl) (fun _ _ _ h => h) (Wn.none rfl) (rd_convInt hf rfl rfl Try.underlying5 Try.underlying46 (n32_conv8' _)) hT rfl rfl ?_
  clear hf; intro a hf
  refine any_take (i := 4) hf rfl (by kernel_rfl) (by kernel_rfl) (by kernel_rfl) (fun _ _ _ h => h) (Wn.none rfl) (rd_shl hf rfl rfl rfl (by first | decide | omega) (n32_shl _ 24 rfl (by decide))) hT rfl rfl ?_
  clear hf; intro a hf
  refine any_take (i := 5) hf rfl (by kernel_rfl) (by kernel_rfl) (by kernel_rfl) (fun _ _ _ h => h) (Wn.none rfl) (rd_move hf rfl rfl) hT rfl rfl ?_
  clear hf; intro a hf
  refine any_take (i := 6) hf rfl (by kernel_rfl) (by kernel_rfl) (by kernel_rfl) (fun _ _ _ h => h) (Wn.none rfl) ((by first | exact rd_indexAddrN1 hf rfl rfl rfl Try.underlying22 sz5 (by omega) | exact rd_indexAddr hf rfl rfl rfl Try.underlying22 sz5 (by first | decide | omega) (by omega))) hT rfl rfl ?_
  clear hf; intro a hf
  refine any_take (i := 7) hf rfl (by kernel_rfl) (by kernel_rfl) (by kernel_rfl) (fun _ _ _ h => h) (Wn.none rfl) (rd_load1 hf rfl rfl ag5 (by intro _ h; exact (hvb _ (h.sub (by repeat (first | exact Sub.refl | exact Sub.none | exact Sub.behind | (apply Sub.cons; (focus ((repeat (first | exact Sel.head | apply Sel.tail)); done))) | apply Sub.skip)))).get (bvs_get hg1))) hT rfl rfl ?_
  clear hf; intro a hf
  refine any_take (i := 8) hf rfl (by kernel_rfl) (by kernel_rfl) (by kernel_rfl) (fun _ _ _ h => h) (Wn.none rfl) (rd_convInt hf rfl rfl Try.underlying5 Try.underlying46 (n32_conv8' _)) hT rfl rfl ?_
  clear hf; intro a hf
  refine any_take (i := 9) hf rfl (by kernel_rfl) (by kernel_rfl) (by kernel_rfl) (fun _ _ _ h => h) (Wn.none rfl) (rd_shl hf rfl rfl rfl (by first | decide | omega) (n32_shl _ 16 rfl (by decide))) hT rfl rfl ?_
  clear hf; intro a hf
  refine any_take (i := 10) hf rfl (by kernel_rfl) (by kernel_rfl) (by kernel_rfl) (fun _ _ _ h => h) (Wn.none rfl) (rd_or hf rfl rfl rfl (n32_or _ _)) hT rfl rfl ?_
  clear hf; intro a hf
  refine any_take (i := 11) hf rfl (by kernel_rfl) (by kernel_rfl) (by kernel_rfl) (fun _ _ _ h => h) (Wn.none rfl) (rd_move hf rfl rfl) hT rfl rfl ?_
  clear hf; intro a hf
  refine any_take (i := 12) hf rfl (by kernel_rfl) (by kernel_rfl) (by kernel_rfl) (fun _ _ _ h => h) (Wn.none rfl) ((by first | exact rd_indexAddrN1 hf rfl rfl rfl Try.underlying22 sz5 (by omega) | exact rd_indexAddr hf rfl rfl rfl Try.underlying22 sz5 (by first | decide | omega) (by omega))) hT rfl rfl ?_
  clear hf; intro a hf
  refine any_take (i := 13) hf rfl (by kernel_rfl) (by kernel_rfl) (by kernel_rfl) (fun _ _ _ h => h) (Wn.none rfl) (rd_load1 hf rfl rfl ag5 (by intro _ h; exact (hvb _ (h.sub (by repeat (first | exact Sub.refl | exact Sub.none | exact Sub.behind | (apply Sub.cons; (focus ((repeat (first | exact Sel.head | apply Sel.tail)); done))) | apply Sub.skip)))).get (bvs_get hg2))) hT rfl rfl ?_
  clear hf; intro a hf
  refine any_take (i := 14) hf rfl (by kernel_rfl) (by kernel_rfl) (by kernel_rfl) (fun _ _ _ h => h) (Wn.none rfl) (rd_convInt hf rfl rfl Try.underlying5 Try.underlying46 (n32_conv8' _)) hT rfl rfl ?_
  clear hf; intro a hf
  refine any_take (i := 15) hf rfl (by kernel_rfl) (by kernel_rfl) (by kernel_rfl) (fun _ _ _ h => h) (Wn.none rfl) (rd_shl hf rfl rfl rfl (by first | decide | omega) (n32_shl _ 8 rfl (by decide))) hT rfl rfl ?_
  clear hf; intro a hf
  refine any_take (i := 16) hf rfl (by kernel_rfl) (by kernel_rfl) (by kernel_rfl) (fun _ _ _ h => h) (Wn.none rfl) (rd_or hf rfl rfl rfl (n32_or _ _)) hT rfl rfl ?_
  clear hf; intro a hf
  refine any_take (i := 17) hf rfl (by kernel_rfl) (by kernel_rfl) (by kernel_rfl) (fun _ _ _ h => h) (Wn.none rfl) (rd_move hf rfl rfl) hT rfl rfl ?_
  clear hf; intro a hf
  refine any_take (i := 18) hf rfl (by kernel_rfl) (by kernel_rfl) (by kernel_rfl) (fun _ _ _ h => h) (Wn.none rfl) ((by first | exact rd_indexAddrN1 hf rfl rfl rfl Try.underlying22 sz5 (by omega) | exact rd_indexAddr hf rfl rfl rfl Try.underlying22 sz5 (by first | decide | omega) (by omega))) hT rfl rfl ?_
  clear hf; intro a hf
  refine any_take (i := 19) hf rfl (by kernel_rfl) (by kernel_rfl) (by kernel_rfl) (fun _ _ _ h => h) (Wn.none rfl) (rd_load1 hf rfl rfl ag5 (by intro _ h; exact (hvb _ (h.sub (by repeat (first | exact Sub.refl | exact Sub.none | exact Sub.behind | (apply Sub.cons; (focus ((repeat (first | exact Sel.head | apply Sel.tail)); done))) | apply Sub.skip)))).get (bvs_get hg3))) hT rfl rfl ?_
  clear hf; intro a hf
  refine any_take (i := 20) hf rfl (by kernel_rfl) (by kernel_rfl) (by kernel_rfl) (fun _ _ _ h => h) (Wn.none rfl) (rd_convInt hf rfl rfl Try.underlying5 Try.underlying46 (n32_conv8' _)) hT rfl rfl ?_
  clear hf; intro a hf
  refine any_take (i := 21) hf rfl (by kernel_rfl) (by kernel_rfl) (by kernel_rfl) (fun _ _ _ h => h) (Wn.none rfl) (rd_or hf rfl rfl rfl (n32_or _ _)) hT rfl rfl ?_
  clear hf; intro a hf
  refine any_take (i := 22) hf rfl (by kernel_rfl) (by kernel_rfl) (by kernel_rfl) (fun _ _ _ h => h) (Wn.none rfl) (rd_assign hf rfl rfl) hT rfl rfl ?_
  clear hf; intro a hf
  refine any_done (by kernel_rfl) ?_
  refine t_normal ?_
  refine c_ret ?_
  refine e_res1 hf.defers rfl (res_tmp hf rfl .nil) ?_
  exact ⟨by rw [num32_at hg0 hg1 hg2 hg3]; rfl, hS.sub (by repeat (first | exact Sub.refl | exact Sub.none | exact Sub.behind | (apply Sub.cons; (focus ((repeat (first | exact Sel.head | apply Sel.tail)); done))) | apply Sub.skip))⟩

theorem Grow_c (n : Nat) {W : World} {R : List HP} {w : World} (hS : Sat W (R) w) (hn : n ≤ 281474976710656) : Calls Try.prog 28 [.slice none 0 0, .int .i64 (n : Nat)].toArray w (Ret fun v w' => ∃ q cap, v = .slice q 0 cap ∧ n ≤ cap ∧ Sat W (Rw 5 1 q 0 cap [] :: R) w') := by
  refine fn_start 27 Try.func28 rfl rfl rfl ?_
  intro a hf
  refine c_seq ?_
  refine c_region ?_
  refine step_l (st_rd hf (Wn.none rfl) (rd_assign hf rfl rfl) hS rfl rfl ?_)
  clear hf; intro a hf
  refine done_l ?_
  refine t_normal ?_
  refine c_seq ?_
  refine c_seq ?_
  refine c_region ?_
  refine step_l (st_rd hf (Wn.none rfl) (rd_move hf rfl rfl) hS rfl rfl ?_)
  clear hf; intro a hf
  refine step_l (st_rdB hf (Wn.none rfl) (rd_lss hf rfl rfl rfl) hS rfl rfl ?_ ?_)
  · clear hf; intro hc1 a hf
    exact absurd hc1 (by omega)
  · clear hf; intro hc1 a hf
    refine done_l ?_
    refine t_normal ?_
    refine c_false hf rfl ?_
    refine c_skip ?_
    refine t_normal ?_
    refine c_seq ?_
    refine c_seq ?_
    refine c_region ?_
    refine step_l (st_rd hf (Wn.none rfl) (rd_move hf rfl rfl) hS rfl rfl ?_)
    clear hf; intro a hf
    refine step_l (st_rd hf (Wn.none rfl) (rd_move hf rfl rfl) hS rfl rfl ?_)
    clear hf; intro a hf
    refine step_l (st_rd hf (Wn.none rfl) (rd_cap hf rfl rfl Try.underlying22) hS rfl rfl ?_)
    clear hf; intro a hf
    refine step_l (st_rd hf (Wn.none rfl) (rd_move hf rfl rfl) hS rfl rfl ?_)
    clear hf; intro a hf
    refine step_l (st_rd hf (Wn.none rfl) (rd_len hf rfl rfl Try.underlying22) hS rfl rfl ?_)
    clear hf; intro a hf
    refine step_l (st_rd hf (Wn.none rfl) (rd_sub hf rfl rfl rfl (show IntKind.i64.wrap (((0 : Nat) : Int) - ((0 : Nat) : Int)) = 0 from by decide)) hS rfl rfl ?_)
    clear hf; intro a hf
    refine step_l (st_rd hf (Wn.none rfl) (rd_sub hf rfl rfl rfl (show IntKind.i64.wrap ((n : Int) - 0) = (n : Int) from (by rw [Int.sub_zero]; exact Go.IntWalk.i64_in _ (by omega)))) hS rfl rfl ?_)
    clear hf; intro a hf
    refine step_l (st_rd hf (Wn.none rfl) (rd_assign hf rfl rfl) hS rfl rfl ?_)
    clear hf; intro a hf
    refine done_l ?_
    refine t_normal ?_
    refine c_seq ?_
    refine c_region ?_
    refine step_l (st_rd hf (Wn.none rfl) (rd_move hf rfl rfl) hS rfl rfl ?_)
    clear hf; intro a hf
    refine step_l (st_rdB hf (Wn.none rfl) (rd_gtr hf rfl rfl rfl) hS rfl rfl ?_ ?_)
    · clear hf; intro hc2 a hf
      refine done_l ?_
      refine t_normal ?_
      refine c_true hf rfl ?_
      refine c_region ?_
      refine step_l (st_rd hf (Wn.none rfl) (rd_move hf rfl rfl) hS rfl rfl ?_)
      clear hf; intro a hf
      refine step_l (st_rd hf (Wn.none rfl) (rd_move hf rfl rfl) hS rfl rfl ?_)
      clear hf; intro a hf
      refine step_l (st_rd hf (Wn.none rfl) (rd_cap hf rfl rfl Try.underlying22) hS rfl rfl ?_)
      clear hf; intro a hf
      refine step_l (st_rd hf (Wn.none rfl) (rd_sliceH hf rfl rfl rfl Try.underlying22 sz5 (by omega) (by omega)) hS rfl rfl ?_)
      clear hf; intro a hf
      refine step_l (st_rd hf (Wn.none rfl) (rd_move hf rfl rfl) hS rfl rfl ?_)
      clear hf; intro a hf
      refine step_l (st_appendN hf (Wn.none rfl) rfl rfl rfl Try.underlying22 Try.underlying3 tyb5 (by rfl) (by decide) hS (by omega) (by omega) rfl rfl ?_)
      clear hf hS; intro pA capA a w hf hS
      refine step_l (st_rd hf (Wn.none rfl) (rd_move hf rfl rfl) hS rfl rfl ?_)
      clear hf; intro a hf
      refine step_l (st_rd hf (Wn.none rfl) (rd_len hf rfl rfl Try.underlying22) hS rfl rfl ?_)
      clear hf; intro a hf
      refine step_l (st_rd hf (Wn.none rfl) (rd_sliceH hf rfl rfl rfl Try.underlying22 sz5 (by omega) (by omega)) hS rfl rfl ?_)
      clear hf; intro a hf
      refine step_l (st_rd hf (Wn.none rfl) (rd_assign hf rfl rfl) hS rfl rfl ?_)
      clear hf; intro a hf
      refine done_l ?_
      refine t_normal ?_
      refine c_seq ?_
      refine c_region ?_
      refine step_l (st_rd hf (Wn.none rfl) (rd_move hf rfl rfl) hS rfl rfl ?_)
      clear hf; intro a hf
      refine step_l (st_rd hf (Wn.none rfl) (rd_assign hf rfl rfl) hS rfl rfl ?_)
      clear hf; intro a hf
      refine done_l ?_
      refine t_normal ?_
      refine c_ret ?_
      refine e_res1 hf.defers rfl (res_tmp hf rfl .nil) ?_
      have hlc := hS.rwLen .head; exact ⟨pA, capA, rfl, hlc.2.1, ((hS.rwTake (k := 0) (Nat.zero_le _)).rwCast (xs' := []) (by simp) rfl).sub (by repeat (first | exact Sub.refl | exact Sub.none | exact Sub.behind | (apply Sub.cons; (focus ((repeat (first | exact Sel.head | apply Sel.tail)); done))) | apply Sub.skip))⟩
    · clear hf; intro hc2 a hf
      refine done_l ?_
      refine t_normal ?_
      refine c_false hf rfl ?_
      refine c_skip ?_
      refine t_normal ?_
      refine c_seq ?_
      refine c_region ?_
      refine step_l (st_rd hf (Wn.none rfl) (rd_move hf rfl rfl) hS rfl rfl ?_)
      clear hf; intro a hf
      refine step_l (st_rd hf (Wn.none rfl) (rd_assign hf rfl rfl) hS rfl rfl ?_)
      clear hf; intro a hf
      refine done_l ?_
      refine t_normal ?_
      refine c_ret ?_
      refine e_res1 hf.defers rfl (res_tmp hf rfl .nil) ?_
      obtain rfl : n = 0 := by omega
      exact ⟨none, 0, rfl, Nat.le_refl _, (hS.rwNil 5 1).sub (by repeat (first | exact Sub.refl | exact Sub.none | exact Sub.behind | (apply Sub.cons; (focus ((repeat (first | exact Sel.head | apply Sel.tail)); done))) | apply Sub.skip))⟩

theorem Concat_c (L : List (Sli UInt8)) (ql : Option Addr) (nl cl : Nat) {W : World} {R : List HP} {w : World} (hS : Sat W (R) w) (hnl : nl = L.length) (hL : (byts L).flatten.length ≤ 281474976710656) (hl9 : L.length ≤ 9223372036854775806) (hv : ∀ w, Sat W R w → BB w ql L) : Calls Try.prog 20 [.slice ql nl cl].toArray w (Ret fun v w' => ∃ q cap, v = .slice q (byts L).flatten.length cap ∧ Sat W (Rw 5 1 q (byts L).flatten.length cap (bvs (byts L).flatten) :: R) w') := by
  refine fn_start 36 Try.func20 rfl rfl rfl ?_
  intro a hf
  subst hnl
  refine c_seq ?_
  refine c_region ?_
  refine step_l (st_rd hf (Wn.none rfl) (rd_assign hf rfl rfl) hS rfl rfl ?_)
  clear hf; intro a hf
  refine done_l ?_
  refine t_normal ?_
  refine c_seq ?_
  refine c_region ?_
  refine step_l (st_rd hf (Wn.none rfl) (rd_assign hf rfl rfl) hS rfl rfl ?_)
  clear hf; intro a hf
  refine done_l ?_
  refine t_normal ?_
  refine c_seq ?_
  refine c_seq ?_
  refine c_region ?_
  refine step_l (st_rd hf (Wn.none rfl) (rd_move hf rfl rfl) hS rfl rfl ?_)
  clear hf; intro a hf
  refine step_l (st_rd hf (Wn.none rfl) (rd_len hf rfl rfl Try.underlying34) hS rfl rfl ?_)
  clear hf; intro a hf
  refine step_l (st_rd hf (Wn.none rfl) (rd_move hf rfl rfl) hS rfl rfl ?_)
  clear hf; intro a hf
  refine done_l ?_
  refine t_normal ?_
  refine c_block ?_
  have hk0 := Keep.of hf [(3, 3), (5, 5), (11, 22)] (by repeat (first | exact Keep.nil | apply Keep.drop rfl | apply Keep.take rfl))
  refine c_loopK hk0 (α := Nat) (fun k => [(3, .int .i64 (((byts (L.take k)).flatten.length : Nat) : Int)), (11, .int .i64 (k : Nat))]) (fun k w => Sat W (R) w ∧ k ≤ L.length) (fun k => L.length - k) 0 (((hf.keep hk0).kb hf 11 rfl (by first | rfl | exact int_eq (by omega))).kb hf 3 rfl (by first | rfl | exact int_eq (by omega))) ⟨hS.sub (by repeat (first | exact Sub.refl | exact Sub.none | exact Sub.behind | (apply Sub.cons; (focus ((repeat (first | exact Sel.head | apply Sel.tail)); done))) | apply Sub.skip)), by omega⟩ ?_
  clear hf hS; rintro k a w hf ⟨hS, hk⟩; (try dsimp only [List.cons_append, List.nil_append] at hf)
  refine c_seq ?_
  refine c_region ?_
  refine step_l (st_rdB hf (Wn.none rfl) (rd_lss hf rfl rfl rfl) hS rfl rfl ?_ ?_)
  · clear hf; intro hc1 a hf
    obtain ⟨x, hget⟩ := get_of_lt (l := L) (k := k) (by omega) rfl; obtain ⟨ad, rfl⟩ := (hv _ (hS.sub (by repeat (first | exact Sub.refl | exact Sub.none | exact Sub.behind | (apply Sub.cons; (focus ((repeat (first | exact Sel.head | apply Sel.tail)); done))) | apply Sub.skip)))).at'.some (by omega); have hle := flat_take_le L (k + 1); rw [flat_take hget, List.length_append] at hle
    refine done_l ?_
    refine t_normal ?_
    refine c_seq ?_
    refine c_true hf rfl ?_
    refine c_skip ?_
    refine t_normal ?_
    refine c_seq ?_
    refine c_block ?_
    refine c_seq ?_
    refine c_region ?_
    refine step_l (st_rd hf (Wn.none rfl) ((by first | exact rd_indexAddrN1 hf rfl rfl rfl Try.underlying34 sz22 (by omega) | exact rd_indexAddr hf rfl rfl rfl Try.underlying34 sz22 (by first | decide | omega) (by omega))) hS rfl rfl ?_)
    clear hf; intro a hf
    refine step_l (st_rd hf (Wn.none rfl) (rd_load1 hf rfl rfl ag22 (by intro _ h; exact (hv _ (h.sub (by repeat (first | exact Sub.refl | exact Sub.none | exact Sub.behind | (apply Sub.cons; (focus ((repeat (first | exact Sel.head | apply Sel.tail)); done))) | apply Sub.skip)))).get hget)) hS rfl rfl ?_)
    clear hf; intro a hf
    refine step_l (st_rd hf (Wn.none rfl) (rd_assign hf rfl rfl) hS rfl rfl ?_)
    clear hf; intro a hf
    refine done_l ?_
    refine t_normal ?_
    refine c_seq ?_
    refine c_region ?_
    refine step_l (st_rd hf (Wn.none rfl) (rd_move hf rfl rfl) hS rfl rfl ?_)
    clear hf; intro a hf
    refine step_l (st_rd hf (Wn.none rfl) (rd_move hf rfl rfl) hS rfl rfl ?_)
    clear hf; intro a hf
    refine step_l (st_rd hf (Wn.none rfl) (rd_len hf rfl rfl Try.underlying22) hS rfl rfl ?_)
    clear hf; intro a hf
    refine step_l (st_rd hf (Wn.none rfl) (rd_add hf rfl rfl rfl (i64_add (by omega))) hS rfl rfl ?_)
    clear hf; intro a hf
    refine step_l (st_rd hf (Wn.none rfl) (rd_assign hf rfl rfl) hS rfl rfl ?_)
    clear hf; intro a hf
    refine done_l ?_
    refine t_normal ?_
    refine c_seq ?_
    refine c_region ?_
    refine step_l (st_rd hf (Wn.none rfl) (rd_move hf rfl rfl) hS rfl rfl ?_)
    clear hf; intro a hf
    refine step_l (st_rdB hf (Wn.none rfl) (rd_lss hf rfl rfl rfl) hS rfl rfl ?_ ?_)
    · clear hf; intro hc2 a hf
      exact absurd hc2 (by omega)
    · clear hf; intro hc2 a hf
      refine done_l ?_
      refine t_normal ?_
      refine c_false hf rfl ?_
      refine c_skip ?_
      refine b_normal ?_
      refine t_normal ?_
      refine c_region ?_
      refine step_l (st_rd hf (Wn.none rfl) (rd_add hf rfl rfl rfl (by first | exact Go.IntWalk.i64_in _ (by omega) | exact rfl)) hS rfl rfl ?_)
      clear hf; intro a hf
      refine step_l (st_rd hf (Wn.none rfl) (rd_move hf rfl rfl) hS rfl rfl ?_)
      clear hf; intro a hf
      refine done_l ?_
      refine t_normal ⟨k + 1, (((hf.back (by repeat (first | exact Behind.refl | refine Behind.skip rfl ?_)) hk0).kb hf 11 rfl (by first | rfl | exact int_eq (by omega))).kb hf 3 rfl (by rw [flat_take hget, List.length_append])), ⟨hS.sub (by repeat (first | exact Sub.refl | exact Sub.none | exact Sub.behind | (apply Sub.cons; (focus ((repeat (first | exact Sel.head | apply Sel.tail)); done))) | apply Sub.skip)), by omega⟩, by first | omega | (simp only []; omega)⟩
  · clear hf; intro hc1 a hf
    obtain rfl : k = L.length := by omega
    rw [List.take_length] at hf
    refine done_l ?_
    refine t_normal ?_
    refine c_seq ?_
    refine c_false hf rfl ?_
    refine c_exit ?_
    refine t_exit ?_
    refine t_exit ?_
    refine b_exit ?_
    refine t_normal ?_
    refine c_seq ?_
    refine c_region ?_
    refine step_l (st_rd hf (Wn.none rfl) (rd_move hf rfl rfl) hS rfl rfl ?_)
    clear hf; intro a hf
    refine step_l (st_call hf (Wn.none rfl) rfl rfl rfl fn28 (Grow_c _ hS (by omega)) rfl rfl ?_)
    clear hf hS; rintro v a w ⟨q0, cap0, rfl, hg0, hS⟩ hf
    refine step_l (st_rd hf (Wn.none rfl) (rd_assign hf rfl rfl) hS rfl rfl ?_)
    clear hf; intro a hf
    refine done_l ?_
    refine t_normal ?_
    refine c_seq ?_
    refine c_seq ?_
    refine c_region ?_
    refine step_l (st_rd hf (Wn.none rfl) (rd_move hf rfl rfl) hS rfl rfl ?_)
    clear hf; intro a hf
    refine step_l (st_rd hf (Wn.none rfl) (rd_len hf rfl rfl Try.underlying34) hS rfl rfl ?_)
    clear hf; intro a hf
    refine step_l (st_rd hf (Wn.none rfl) (rd_move hf rfl rfl) hS rfl rfl ?_)
    clear hf; intro a hf
    refine done_l ?_
    refine t_normal ?_
    refine c_block ?_
    have hk1 := Keep.of hf [(6, 6), (8, 8), (27, 34)] (by repeat (first | exact Keep.nil | apply Keep.drop rfl | apply Keep.take rfl))
    refine c_loopK hk1 (α := Nat × Option Addr × Nat) (fun ⟨k, q, cap⟩ => [(6, .slice q (byts (L.take k)).flatten.length cap), (27, .int .i64 (k : Nat))]) (fun ⟨k, q, cap⟩ w => Sat W (Rw 5 1 q (byts (L.take k)).flatten.length cap (bvs (byts (L.take k)).flatten) :: R) w ∧ k ≤ L.length ∧ (byts L).flatten.length ≤ cap) (fun ⟨k, q, cap⟩ => L.length - k) (0, q0, cap0) (((hf.keep hk1).kb hf 27 rfl (by first | rfl | exact int_eq (by omega))).kb hf 6 rfl (by first | rfl | exact int_eq (by omega))) ⟨hS.sub (by repeat (first | exact Sub.refl | exact Sub.none | exact Sub.behind | (apply Sub.cons; (focus ((repeat (first | exact Sel.head | apply Sel.tail)); done))) | apply Sub.skip)), ⟨by omega, by omega⟩⟩ ?_
    clear hf hS; rintro ⟨k, q, cap⟩ a w hf ⟨hS, ⟨hk, hcap⟩⟩; (try dsimp only [List.cons_append, List.nil_append] at hf)
    refine c_seq ?_
    refine c_region ?_
    refine step_l (st_rdB hf (Wn.none rfl) (rd_lss hf rfl rfl rfl) hS rfl rfl ?_ ?_)
    · clear hf; intro hc3 a hf
      obtain ⟨x, hget⟩ := get_of_lt (l := L) (k := k) (by omega) rfl; obtain ⟨ad, rfl⟩ := (hv _ (hS.sub (by repeat (first | exact Sub.refl | exact Sub.none | exact Sub.behind | (apply Sub.cons; (focus ((repeat (first | exact Sel.head | apply Sel.tail)); done))) | apply Sub.skip)))).at'.some (by omega); have hle := flat_take_le L (k + 1); rw [flat_take hget, List.length_append] at hle
      refine done_l ?_
      refine t_normal ?_
      refine c_seq ?_
      refine c_true hf rfl ?_
      refine c_skip ?_
      refine t_normal ?_
      refine c_seq ?_
      refine c_block ?_
      refine c_seq ?_
      refine c_region ?_
      refine step_l (st_rd hf (Wn.none rfl) ((by first | exact rd_indexAddrN1 hf rfl rfl rfl Try.underlying34 sz22 (by omega) | exact rd_indexAddr hf rfl rfl rfl Try.underlying34 sz22 (by first | decide | omega) (by omega))) hS rfl rfl ?_)
      clear hf; intro a hf
      refine step_l (st_rd hf (Wn.none rfl) (rd_load1 hf rfl rfl ag22 (by intro _ h; exact (hv _ (h.sub (by repeat (first | exact Sub.refl | exact Sub.none | exact Sub.behind | (apply Sub.cons; (focus ((repeat (first | exact Sel.head | apply Sel.tail)); done))) | apply Sub.skip)))).get hget)) hS rfl rfl ?_)
      clear hf; intro a hf
      refine step_l (st_rd hf (Wn.none rfl) (rd_assign hf rfl rfl) hS rfl rfl ?_)
      clear hf; intro a hf
      refine done_l ?_
      refine t_normal ?_
      refine c_region ?_
      refine step_l (st_rd hf (Wn.none rfl) (rd_move hf rfl rfl) hS rfl rfl ?_)
      clear hf; intro a hf
      refine step_l (st_rd hf (Wn.none rfl) (rd_move hf rfl rfl) hS rfl rfl ?_)
      clear hf; intro a hf
      refine step_l (st_appendF hf (Wn.none rfl) rfl rfl rfl Try.underlying22 tyb5 (by rfl) (by decide) hS (by repeat (first | exact Sel.head | apply Sel.tail)) (by first | exact hS.slOfBlk (by repeat (first | exact Sel.head | apply Sel.tail)) (by rfl) | exact hS.slOfBlkPre (by repeat (first | exact Sel.head | apply Sel.tail)) (bvs_len1 _) | exact hS.slOfRw (by repeat (first | exact Sel.head | apply Sel.tail)) | exact SlAt.nil _ _ _ | exact (hv _ (hS.sub (by repeat (first | exact Sub.refl | exact Sub.none | exact Sub.behind | (apply Sub.cons; (focus ((repeat (first | exact Sel.head | apply Sel.tail)); done))) | apply Sub.skip)))).sl hget) (by first | rfl | exact bvs_one _ | (simp [Value.oneCell']; done)) (by omega) rfl rfl ?_)
      clear hf hS; intro pA capA a w hf hS hnilA
      refine step_l (st_rd hf (Wn.none rfl) (rd_assign hf rfl rfl) hS rfl rfl ?_)
      clear hf; intro a hf
      refine done_l ?_
      refine b_normal ?_
      refine t_normal ?_
      refine c_region ?_
      refine step_l (st_rd hf (Wn.none rfl) (rd_add hf rfl rfl rfl (by first | exact Go.IntWalk.i64_in _ (by omega) | exact rfl)) hS rfl rfl ?_)
      clear hf; intro a hf
      refine step_l (st_rd hf (Wn.none rfl) (rd_move hf rfl rfl) hS rfl rfl ?_)
      clear hf; intro a hf
      refine done_l ?_
      refine t_normal ⟨(k + 1, pA, capA), (((hf.back (by repeat (first | exact Behind.refl | refine Behind.skip rfl ?_)) hk1).kb hf 27 rfl (by first | rfl | exact int_eq (by omega))).kb hf 6 rfl (by exact slice_eq (by rw [flat_take hget, List.length_append]))), ⟨((hS.sel (by repeat (first | exact Sel.head | apply Sel.tail)) : Sat W (Rw 5 1 pA _ capA _ :: _) _).rwCast (xs' := bvs (byts (L.take (k + 1))).flatten) (len' := (byts (L.take (k + 1))).flatten.length) (by rw [flat_take hget]; simp) (by rw [flat_take hget, List.length_append])).sub (by repeat (first | exact Sub.refl | exact Sub.none | exact Sub.behind | (apply Sub.cons; (focus ((repeat (first | exact Sel.head | apply Sel.tail)); done))) | apply Sub.skip)), ⟨by omega, by omega⟩⟩, by first | omega | (simp only []; omega)⟩
    · clear hf; intro hc3 a hf
      obtain rfl : k = L.length := by omega
      rw [List.take_length] at hf hS
      refine done_l ?_
      refine t_normal ?_
      refine c_seq ?_
      refine c_false hf rfl ?_
      refine c_exit ?_
      refine t_exit ?_
      refine t_exit ?_
      refine b_exit ?_
      refine t_normal ?_
      refine c_seq ?_
      refine c_region ?_
      refine step_l (st_rd hf (Wn.none rfl) (rd_move hf rfl rfl) hS rfl rfl ?_)
      clear hf; intro a hf
      refine step_l (st_rd hf (Wn.none rfl) (rd_assign hf rfl rfl) hS rfl rfl ?_)
      clear hf; intro a hf
      refine done_l ?_
      refine t_normal ?_
      refine c_ret ?_
      refine e_res1 hf.defers rfl (res_tmp hf rfl .nil) ?_
      exact ⟨_, _, rfl, hS.sub (by repeat (first | exact Sub.refl | exact Sub.none | exact Sub.behind | (apply Sub.cons; (focus ((repeat (first | exact Sel.head | apply Sel.tail)); done))) | apply Sub.skip))⟩

theorem poly_c  {W : World} {R : List HP} {w : World} (hS : Sat W (R) w)  : Calls Try.prog 22 [].toArray w (Ret fun v w' => ∃ p, v = .agg #[.pointer (some ⟨p, 0, none⟩)] ∧ Sat W (TbP 75 46 p 256 (.func (.func 36) #[] #[]) (tvals pf pg () 256) false :: R) w') := by
  refine fn_start 3 Try.func22 rfl rfl rfl ?_
  intro a hf
  refine c_seq ?_
  refine c_region ?_
  refine step_l (st_alloc hf (Wn.none rfl) hS rfl zr49 (by rfl) rfl rfl ?_)
  clear hf hS; intro b_1 a w hf hS
  refine done_l ?_
  refine t_normal ?_
  refine c_seq ?_
  refine c_region ?_
  refine step_l (st_call hf (Wn.none rfl) rfl rfl rfl fn29 (Poly_c hS) rfl rfl ?_)
  clear hf hS; rintro v a w ⟨pt_2, rfl, hS⟩ hf
  refine step_l (st_rd hf (Wn.none rfl) (rd_build hf rfl rfl zr49 (by rfl) pl49 (.cons rfl (by first | rfl) (by rfl) (by repeat (first | exact Put.nil | apply Put.cons | apply Put.succ)) .nil)) hS rfl rfl ?_)
  clear hf; intro a hf
  refine step_l (st_store hf (Wn.none rfl) hS rfl rfl rfl (by rfl) sz49 (by rfl) (by rfl) (by repeat (first | exact Sel.head | apply Sel.tail)) (by repeat (first | exact Put.nil | apply Put.cons | apply Put.succ)) rfl ?_)
  clear hf hS; intro a w hf hS
  refine done_l ?_
  refine t_normal ?_
  refine c_ret ?_
  refine e_res1 hf.defers rfl (res_cellN hf rfl ag49 sz49 hS (by repeat (first | exact Sel.head | apply Sel.tail)) (by repeat (first | exact Seg.nil | apply Seg.cons | apply Seg.succ)) .nil) ?_
  exact ⟨_, rfl, hS.sub (by repeat (first | exact Sub.refl | exact Sub.none | exact Sub.behind | (apply Sub.cons; (focus ((repeat (first | exact Sel.head | apply Sel.tail)); done))) | apply Sub.skip))⟩

theorem fsum_c (p : Nat) (d0 : Bool) (b : List UInt8) (qb : Option Addr) (nb cb : Nat) {W : World} {R : List HP} {w : World} (hS : Sat W (TbP 75 46 p 256 (.func (.func 36) #[] #[]) (tvals pf pg () 256) d0 :: R) w) (hnb : nb = b.length) (hb : b.length ≤ 140737488355328) (hvb : ∀ w, Sat W R w → SlAt w qb b.length 1 (bvs b)) : Calls Try.prog 23 [.agg #[.pointer (some ⟨p, 0, none⟩)], .slice qb nb cb].toArray w (Ret fun v w' => v = u32v (crcB b) ∧ ∃ d, Sat W (TbP 75 46 p 256 (.func (.func 36) #[] #[]) (tvals pf pg () 256) d :: R) w') := by
  refine fn_start 9 Try.func23 rfl rfl rfl ?_
  intro a hf
  refine c_seq ?_
  refine c_region ?_
  refine step_l (st_box hf (Wn.none rfl) hS rfl rfl (by rfl) rfl rfl ?_)
  clear hf hS; intro b_1 a w hf hS
  refine step_l (st_rd hf (Wn.none rfl) (rd_assign hf rfl rfl) hS rfl rfl ?_)
  clear hf; intro a hf
  refine done_l ?_
  refine t_normal ?_
  refine c_seq ?_
  refine c_region ?_
  refine step_l (st_rd hf (Wn.none rfl) (rd_fieldAddrB hf rfl rfl fb49_0 rfl) hS rfl rfl ?_)
  clear hf; intro a hf
  refine step_l (st_rd hf (Wn.none rfl) (rd_load1 hf rfl rfl ag47 (by intro _ h; first | exact h.cell (by repeat (first | exact Sel.head | apply Sel.tail)) (by rfl))) hS rfl rfl ?_)
  clear hf; intro a hf
  refine step_l (st_rd hf (Wn.none rfl) (rd_move hf rfl rfl) hS rfl rfl ?_)
  clear hf; intro a hf
  refine step_l (st_call hf (Wn.none rfl) rfl rfl rfl fn30 (SumP_c _ _ b _ _ _ (hS.sel (by repeat (first | exact Sel.head | apply Sel.tail))) hnb (by omega) (fun _ h => hvb _ (h.sub (by repeat (first | exact Sub.refl | exact Sub.none | exact Sub.behind | (apply Sub.cons; (focus ((repeat (first | exact Sel.head | apply Sel.tail)); done))) | apply Sub.skip))))) rfl rfl ?_)
  clear hf hS; rintro v a w ⟨rfl, ds_2, hS⟩ hf
  refine step_l (st_rd hf (Wn.none rfl) (rd_assign hf rfl rfl) hS rfl rfl ?_)
  clear hf; intro a hf
  refine done_l ?_
  refine t_normal ?_
  refine c_ret ?_
  refine e_res1 hf.defers rfl (res_tmp hf rfl .nil) ?_
  exact ⟨rfl, _, hS.sub (by repeat (first | exact Sub.refl | exact Sub.none | exact Sub.behind | (apply Sub.cons; (focus ((repeat (first | exact Sel.head | apply Sel.tail)); done))) | apply Sub.skip))⟩

theorem Put_c (b : List UInt8) (qb : Option Addr) (nb cb : Nat) (r : List UInt8) (qr : Option Addr) (nr cr : Nat) {W : World} {R : List HP} {w : World} (hS : Sat W (R) w) (hnb : nb = b.length) (hb : b.length ≤ 140737488355328) (hvb : ∀ w, Sat W R w → SlAt w qb b.length 1 (bvs b)) (hnr : nr = r.length) (hr : r.length ≤ 60000) (hvr : ∀ w, Sat W R w → SlAt w qr r.length 1 (bvs r)) : Calls Try.prog 10 [.slice qb nb cb, .slice qr nr cr].toArray w (Ret fun v w' => ∃ q cap, v = .tuple #[.slice q (b ++ frB r).length cap, .int .i64 0] ∧ Sat W (Rw 5 1 q (b ++ frB r).length cap (bvs (b ++ frB r)) :: R) w') := by
  refine fn_start 21 Try.func10 rfl rfl rfl ?_
  intro a hf
  subst hnb; subst hnr; have hfl := frB_len r; have hbl : (b ++ frB r).length = b.length + (r.length + 8) := by rw [List.length_append, frB_len]
  refine c_seq ?_
  refine c_region ?_
  refine step_l (st_rd hf (Wn.none rfl) (rd_assign hf rfl rfl) hS rfl rfl ?_)
  clear hf; intro a hf
  refine step_l (st_rd hf (Wn.none rfl) (rd_assign hf rfl rfl) hS rfl rfl ?_)
  clear hf; intro a hf
  refine done_l ?_
  refine t_normal ?_
  refine c_seq ?_
  refine c_seq ?_
  refine c_region ?_
  refine step_l (st_rd hf (Wn.none rfl) (rd_move hf rfl rfl) hS rfl rfl ?_)
  clear hf; intro a hf
  refine step_l (st_rd hf (Wn.none rfl) (rd_len hf rfl rfl Try.underlying22) hS rfl rfl ?_)
  clear hf; intro a hf
  refine step_l (st_rdB hf (Wn.none rfl) (rd_gtr hf rfl rfl rfl) hS rfl rfl ?_ ?_)
  · clear hf; intro hc1 a hf
    exact absurd hc1 (by omega)
  · clear hf; intro hc1 a hf
    refine done_l ?_
    refine t_normal ?_
    refine c_false hf rfl ?_
    refine c_skip ?_
    refine t_normal ?_
    refine c_seq ?_
    refine c_region ?_
    refine step_l (st_rd hf (Wn.none rfl) (rd_move hf rfl rfl) hS rfl rfl ?_)
    clear hf; intro a hf
    refine step_l (st_rd hf (Wn.none rfl) (rd_move hf rfl rfl) hS rfl rfl ?_)
    clear hf; intro a hf
    refine step_l (st_rd hf (Wn.none rfl) (rd_len hf rfl rfl Try.underlying22) hS rfl rfl ?_)
    clear hf; intro a hf
    refine step_l (st_rd hf (Wn.none rfl) (rd_convInt hf rfl rfl Try.underlying3 Try.underlying46 (n32_nat _)) hS rfl rfl ?_)
    clear hf; intro a hf
    refine step_l (st_call hf (Wn.none rfl) rfl rfl rfl fn21 (Fword_c _ hS) rfl rfl ?_)
    clear hf hS; rintro v a w ⟨qw1, cw1, rfl, hS⟩ hf
    refine step_l (st_call hf (Wn.none rfl) rfl rfl rfl fn22 (poly_c hS) rfl rfl ?_)
    clear hf hS; rintro v a w ⟨pp_2, rfl, hS⟩ hf
    refine step_l (st_rd hf (Wn.none rfl) (rd_move hf rfl rfl) hS rfl rfl ?_)
    clear hf; intro a hf
    refine step_l (st_call hf (Wn.none rfl) rfl rfl rfl fn23 (fsum_c _ _ r _ _ _ (hS.sel (by repeat (first | exact Sel.head | apply Sel.tail))) rfl (by omega) (fun _ h => hvr _ (h.sub (by repeat (first | exact Sub.refl | exact Sub.none | exact Sub.behind | (apply Sub.cons; (focus ((repeat (first | exact Sel.head | apply Sel.tail)); done))) | apply Sub.skip))))) rfl rfl ?_)
    clear hf hS; rintro v a w ⟨rfl, dd_3, hS⟩ hf
    refine step_l (st_call hf (Wn.none rfl) rfl rfl rfl fn21 (Fword_c _ hS) rfl rfl ?_)
    clear hf hS; rintro v a w ⟨qw2, cw2, rfl, hS⟩ hf
    refine step_l (st_rd hf (Wn.none rfl) (rd_move hf rfl rfl) hS rfl rfl ?_)
    clear hf; intro a hf
    refine step_l (st_buildSlice hf (Wn.none rfl) hS rfl rfl Try.underlying34 sz22 zr22 (by decide) bz22_4 rfl (.cons rfl (by first | rfl) (by rfl) (by repeat (first | exact Put.nil | apply Put.cons | apply Put.succ)) (.cons rfl (by first | rfl) (by rfl) (by repeat (first | exact Put.nil | apply Put.cons | apply Put.succ)) (.cons rfl (by first | rfl) (by rfl) (by repeat (first | exact Put.nil | apply Put.cons | apply Put.succ)) (.cons rfl (by first | rfl) (by rfl) (by repeat (first | exact Put.nil | apply Put.cons | apply Put.succ)) .nil)))) rfl rfl ?_)
    clear hf hS; intro b_4 a w hf hS
    refine step_l (st_call hf (Wn.none rfl) rfl rfl rfl fn20 (Concat_c [(qb, cb, b), (qw1, cw1, w32 (BitVec.ofNat 32 r.length)), (qw2, cw2, w32 (crcB r)), (qr, cr, r)] _ _ _ hS rfl (by show (b ++ (w32 _ ++ (w32 _ ++ (r ++ [])))).length ≤ _; rw [List.append_nil]; exact (show (b ++ frB r).length ≤ 281474976710656 by omega)) (by simp) (fun _ h => BB.four (h.slOfBlk (by repeat (first | exact Sel.head | apply Sel.tail)) (by rfl)) (hvb _ (h.sub (by repeat (first | exact Sub.refl | exact Sub.none | exact Sub.behind | (apply Sub.cons; (focus ((repeat (first | exact Sel.head | apply Sel.tail)); done))) | apply Sub.skip)))) (h.slOfRw (by repeat (first | exact Sel.head | apply Sel.tail))) (h.slOfRw (by repeat (first | exact Sel.head | apply Sel.tail))) (hvr _ (h.sub (by repeat (first | exact Sub.refl | exact Sub.none | exact Sub.behind | (apply Sub.cons; (focus ((repeat (first | exact Sel.head | apply Sel.tail)); done))) | apply Sub.skip)))))) rfl rfl ?_)
    clear hf hS; rintro v a w ⟨qc, capc, rfl, hS⟩ hf; have hfe : (byts [(qb, cb, b), (qw1, cw1, w32 (BitVec.ofNat 32 r.length)), (qw2, cw2, w32 (crcB r)), (qr, cr, r)]).flatten = b ++ frB r := (by show b ++ (w32 _ ++ (w32 _ ++ (r ++ []))) = _; rw [List.append_nil]; rfl); rw [hfe] at hf hS
    refine step_l (st_rd hf (Wn.none rfl) (rd_assign hf rfl rfl) hS rfl rfl ?_)
    clear hf; intro a hf
    refine step_l (st_rd hf (Wn.none rfl) (rd_assign hf rfl rfl) hS rfl rfl ?_)
    clear hf; intro a hf
    refine done_l ?_
    refine t_normal ?_
    refine c_ret ?_
    refine e_resN hf.defers rfl (res_tmp hf rfl (res_tmp hf rfl .nil)) ?_
    exact ⟨_, _, rfl, hS.sub (by repeat (first | exact Sub.refl | exact Sub.none | exact Sub.behind | (apply Sub.cons; (focus ((repeat (first | exact Sel.head | apply Sel.tail)); done))) | apply Sub.skip))⟩

theorem PutLong_c (qb : Option Addr) (nb cb : Nat) (qr : Option Addr) (nr cr : Nat) {W : World} {R : List HP} {w : World} (hS : Sat W (R) w) (hr : 60000 < nr) : Calls Try.prog 10 [.slice qb nb cb, .slice qr nr cr].toArray w (Ret fun v w' => v = .tuple #[.slice none 0 0, .int .i64 4] ∧ Sat W R w') := by
  refine fn_start 21 Try.func10 rfl rfl rfl ?_
  intro a hf
  refine c_seq ?_
  refine c_region ?_
  refine step_l (st_rd hf (Wn.none rfl) (rd_assign hf rfl rfl) hS rfl rfl ?_)
  clear hf; intro a hf
  refine step_l (st_rd hf (Wn.none rfl) (rd_assign hf rfl rfl) hS rfl rfl ?_)
  clear hf; intro a hf
  refine done_l ?_
  refine t_normal ?_
  refine c_seq ?_
  refine c_seq ?_
  refine c_region ?_
  refine step_l (st_rd hf (Wn.none rfl) (rd_move hf rfl rfl) hS rfl rfl ?_)
  clear hf; intro a hf
  refine step_l (st_rd hf (Wn.none rfl) (rd_len hf rfl rfl Try.underlying22) hS rfl rfl ?_)
  clear hf; intro a hf
  refine step_l (st_rdB hf (Wn.none rfl) (rd_gtr hf rfl rfl rfl) hS rfl rfl ?_ ?_)
  · clear hf; intro hc1 a hf
    refine done_l ?_
    refine t_normal ?_
    refine c_true hf rfl ?_
    refine c_seq ?_
    refine c_region ?_
    refine step_l (st_rd hf (Wn.none rfl) (rd_assign hf rfl rfl) hS rfl rfl ?_)
    clear hf; intro a hf
    refine step_l (st_rd hf (Wn.none rfl) (rd_assign hf rfl rfl) hS rfl rfl ?_)
    clear hf; intro a hf
    refine done_l ?_
    refine t_normal ?_
    refine c_ret ?_
    refine t_ret ?_
    refine e_resN hf.defers rfl (res_tmp hf rfl (res_tmp hf rfl .nil)) ?_
    exact ⟨rfl, hS.sub (by repeat (first | exact Sub.refl | exact Sub.none | exact Sub.behind | (apply Sub.cons; (focus ((repeat (first | exact Sel.head | apply Sel.tail)); done))) | apply Sub.skip))⟩
  · clear hf; intro hc1 a hf
    exact absurd hc1 (by omega)

theorem ftake_c (p : Nat) (d0 : Bool) (b : List UInt8) (qb : Option Addr) (nb cb : Nat) {W : World} {R : List HP} {w : World} (hS : Sat W (TbP 75 46 p 256 (.func (.func 36) #[] #[]) (tvals pf pg () 256) d0 :: R) w) (hnb : nb = b.length) (hb : b.length ≤ 140737488355328) (hcb : b.length ≤ cb) (hvb : ∀ w, Sat W R w → SlAt w qb b.length 1 (bvs b)) : Calls Try.prog 26 [.agg #[.pointer (some ⟨p, 0, none⟩)], .slice qb nb cb].toArray w (Ret fun v w' => ∃ q cap d, v = .tuple #[.slice q (tkR b).length cap, .int .i64 ((tkN b : Nat) : Int), .int .i64 ((tkE b : Nat) : Int)] ∧ Sat W (Rw 5 1 q (tkR b).length cap (bvs (tkR b)) :: TbP 75 46 p 256 (.func (.func 36) #[] #[]) (tvals pf pg () 256) d :: R) w') := by
  refine fn_start 41 Try.func26 rfl rfl rfl ?_
  intro a hf
  subst hnb; have hlt := (num32 b).isLt
  refine c_seq ?_
  refine c_region ?_
  refine step_l (st_box hf (Wn.none rfl) hS rfl rfl (by rfl) rfl rfl ?_)
  clear hf hS; intro by_ a w hf hS
  refine step_l (st_rd hf (Wn.none rfl) (rd_assign hf rfl rfl) hS rfl rfl ?_)
  clear hf; intro a hf
  refine step_l (st_rd hf (Wn.none rfl) (rd_assign hf rfl rfl) hS rfl rfl ?_)
  clear hf; intro a hf
  refine step_l (st_rd hf (Wn.none rfl) (rd_assign hf rfl rfl) hS rfl rfl ?_)
  clear hf; intro a hf
  refine done_l ?_
  refine t_normal ?_
  refine c_seq ?_
  refine c_seq ?_
  refine c_region ?_
  refine step_l (st_rd hf (Wn.none rfl) (rd_move hf rfl rfl) hS rfl rfl ?_)
  clear hf; intro a hf
  refine step_l (st_rd hf (Wn.none rfl) (rd_len hf rfl rfl Try.underlying22) hS rfl rfl ?_)
  clear hf; intro a hf
  refine step_l (st_rdB hf (Wn.none rfl) (rd_lss hf rfl rfl rfl) hS rfl rfl ?_ ?_)
  · clear hf; intro hc2 a hf
    refine done_l ?_
    refine t_normal ?_
    refine c_true hf rfl ?_
    refine c_seq ?_
    refine c_region ?_
    refine step_l (st_rd hf (Wn.none rfl) (rd_assign hf rfl rfl) hS rfl rfl ?_)
    clear hf; intro a hf
    refine step_l (st_rd hf (Wn.none rfl) (rd_assign hf rfl rfl) hS rfl rfl ?_)
    clear hf; intro a hf
    refine step_l (st_rd hf (Wn.none rfl) (rd_assign hf rfl rfl) hS rfl rfl ?_)
    clear hf; intro a hf
    refine done_l ?_
    refine t_normal ?_
    refine c_ret ?_
    refine t_ret ?_
    refine e_resN hf.defers rfl (res_tmp hf rfl (res_tmp hf rfl (res_tmp hf rfl .nil))) ?_
    have he := tk_short (b := b) (by omega); obtain ⟨e1, e2⟩ := tk_no he (by decide)
    exact ⟨none, 0, d0, by rw [he, e1, e2]; rfl, by rw [e1]; exact (hS.rwNil 5 1).sub (by repeat (first | exact Sub.refl | exact Sub.none | exact Sub.behind | (apply Sub.cons; (focus ((repeat (first | exact Sel.head | apply Sel.tail)); done))) | apply Sub.skip))⟩
  · clear hf; intro hc2 a hf
    refine done_l ?_
    refine t_normal ?_
    refine c_false hf rfl ?_
    refine c_skip ?_
    refine t_normal ?_
    refine c_seq ?_
    refine c_region ?_
    refine step_l (st_rd hf (Wn.none rfl) (rd_move hf rfl rfl) hS rfl rfl ?_)
    clear hf; intro a hf
    refine step_l (st_call hf (Wn.none rfl) rfl rfl rfl fn33 (Fnumber_c b _ _ _ hS rfl (by omega) (fun _ h => hvb _ (h.sub (by repeat (first | exact Sub.refl | exact Sub.none | exact Sub.behind | (apply Sub.cons; (focus ((repeat (first | exact Sel.head | apply Sel.tail)); done))) | apply Sub.skip)))) (by omega)) rfl rfl ?_)
    clear hf hS; rintro v a w ⟨rfl, hS⟩ hf
    refine step_l (st_rd hf (Wn.none rfl) (rd_assign hf rfl rfl) hS rfl rfl ?_)
    clear hf; intro a hf
    refine done_l ?_
    refine t_normal ?_
    refine c_seq ?_
    refine c_block ?_
    refine c_seq ?_
    refine c_region ?_
    refine step_l (st_rd hf (Wn.none rfl) (rd_move hf rfl rfl) hS rfl rfl ?_)
    clear hf; intro a hf
    refine step_l (st_rdB hf (Wn.none rfl) (rd_gtr hf rfl rfl rfl) hS rfl rfl ?_ ?_)
    · clear hf; intro hc3 a hf
      refine step_l (st_rd hf (Wn.none rfl) (rd_assign hf rfl rfl) hS rfl rfl ?_)
      clear hf; intro a hf
      refine done_l ?_
      refine t_normal ?_
      refine c_true hf rfl ?_
      refine c_seq ?_
      refine c_region ?_
      refine step_l (st_rd hf (Wn.none rfl) (rd_assign hf rfl rfl) hS rfl rfl ?_)
      clear hf; intro a hf
      refine step_l (st_rd hf (Wn.none rfl) (rd_assign hf rfl rfl) hS rfl rfl ?_)
      clear hf; intro a hf
      refine step_l (st_rd hf (Wn.none rfl) (rd_assign hf rfl rfl) hS rfl rfl ?_)
      clear hf; intro a hf
      refine done_l ?_
      refine t_normal ?_
      refine c_ret ?_
      refine b_ret ?_
      refine t_ret ?_
      refine e_resN hf.defers rfl (res_tmp hf rfl (res_tmp hf rfl (res_tmp hf rfl .nil))) ?_
      have he := tk_long (b := b) (by omega) (by omega); obtain ⟨e1, e2⟩ := tk_no he (by decide)
      exact ⟨none, 0, d0, by rw [he, e1, e2]; rfl, by rw [e1]; exact (hS.rwNil 5 1).sub (by repeat (first | exact Sub.refl | exact Sub.none | exact Sub.behind | (apply Sub.cons; (focus ((repeat (first | exact Sel.head | apply Sel.tail)); done))) | apply Sub.skip))⟩
    · clear hf; intro hc3 a hf
      refine step_l (st_rd hf (Wn.none rfl) (rd_assign hf rfl rfl) hS rfl rfl ?_)
      clear hf; intro a hf
      refine done_l ?_
      refine t_normal ?_
      refine c_false hf rfl ?_
      refine c_seq ?_
      refine c_region ?_
      refine step_l (st_rd hf (Wn.none rfl) (rd_move hf rfl rfl) hS rfl rfl ?_)
      clear hf; intro a hf
      refine step_l (st_rd hf (Wn.none rfl) (rd_convInt hf rfl rfl Try.underlying46 Try.underlying3 (n64_of32 _)) hS rfl rfl ?_)
      clear hf; intro a hf
      refine step_l (st_rd hf (Wn.none rfl) (rd_move hf rfl rfl) hS rfl rfl ?_)
      clear hf; intro a hf
      refine step_l (st_rd hf (Wn.none rfl) (rd_len hf rfl rfl Try.underlying22) hS rfl rfl ?_)
      clear hf; intro a hf
      refine step_l (st_rd hf (Wn.none rfl) (rd_sub hf rfl rfl rfl (by first | exact Go.IntWalk.i64_in _ (by omega) | exact rfl)) hS rfl rfl ?_)
      clear hf; intro a hf
      refine step_l (st_rdB hf (Wn.none rfl) (rd_gtr hf rfl rfl rfl) hS rfl rfl ?_ ?_)
      · clear hf; intro hc4 a hf
        refine step_l (st_rd hf (Wn.none rfl) (rd_assign hf rfl rfl) hS rfl rfl ?_)
        clear hf; intro a hf
        refine done_l ?_
        refine t_normal ?_
        refine c_true hf rfl ?_
        refine c_seq ?_
        refine c_region ?_
        refine step_l (st_rd hf (Wn.none rfl) (rd_assign hf rfl rfl) hS rfl rfl ?_)
        clear hf; intro a hf
        refine step_l (st_rd hf (Wn.none rfl) (rd_assign hf rfl rfl) hS rfl rfl ?_)
        clear hf; intro a hf
        refine step_l (st_rd hf (Wn.none rfl) (rd_assign hf rfl rfl) hS rfl rfl ?_)
        clear hf; intro a hf
        refine done_l ?_
        refine t_normal ?_
        refine c_ret ?_
        refine b_ret ?_
        refine t_ret ?_
        refine e_resN hf.defers rfl (res_tmp hf rfl (res_tmp hf rfl (res_tmp hf rfl .nil))) ?_
        have he := tk_short2 (b := b) (by omega) (by omega) (by omega); obtain ⟨e1, e2⟩ := tk_no he (by decide)
        exact ⟨none, 0, d0, by rw [he, e1, e2]; rfl, by rw [e1]; exact (hS.rwNil 5 1).sub (by repeat (first | exact Sub.refl | exact Sub.none | exact Sub.behind | (apply Sub.cons; (focus ((repeat (first | exact Sel.head | apply Sel.tail)); done))) | apply Sub.skip))⟩
      · clear hf; intro hc4 a hf
        refine step_l (st_rd hf (Wn.none rfl) (rd_assign hf rfl rfl) hS rfl rfl ?_)
        clear hf; intro a hf
        refine done_l ?_
        refine t_normal ?_
        refine c_false hf rfl ?_
        refine c_skip ?_
        refine b_normal ?_
        refine t_normal ?_
        refine c_seq ?_
        refine c_region ?_
        refine step_l (st_rd hf (Wn.none rfl) (rd_move hf rfl rfl) hS rfl rfl ?_)
        clear hf; intro a hf
        refine step_l (st_rd hf (Wn.none rfl) (rd_move hf rfl rfl) hS rfl rfl ?_)
        clear hf; intro a hf
        refine step_l (st_rd hf (Wn.none rfl) (rd_convInt hf rfl rfl Try.underlying46 Try.underlying3 (n64_of32 _)) hS rfl rfl ?_)
        clear hf; intro a hf
        refine step_l (st_rd hf (Wn.none rfl) (rd_add hf rfl rfl rfl (by first | exact Go.IntWalk.i64_in _ (by omega) | exact rfl)) hS rfl rfl ?_)
        clear hf; intro a hf
        refine step_l (st_rd hf (Wn.none rfl) (rd_sliceLH hf rfl rfl rfl rfl Try.underlying22 sz5 (by omega) (by omega) (by omega)) hS rfl rfl ?_)
        clear hf; intro a hf
        refine step_l (st_call hf (Wn.none rfl) rfl rfl rfl fn34 (Clone_c ((b.drop 8).take (num32 b).toNat) _ _ _ hS (by rw [List.length_take, List.length_drop]; omega) (by rw [List.length_take]; omega) (fun _ h => subv2 8 (num32 b).toNat (hvb _ (h.sub (by repeat (first | exact Sub.refl | exact Sub.none | exact Sub.behind | (apply Sub.cons; (focus ((repeat (first | exact Sel.head | apply Sel.tail)); done))) | apply Sub.skip)))) (show 8 ≤ b.length by omega) hcb)) rfl rfl ?_)
        clear hf hS; rintro v a w ⟨qc_5, capc_5, rfl, hS⟩ hf
        refine step_l (st_rd hf (Wn.none rfl) (rd_assign hf rfl rfl) hS rfl rfl ?_)
        clear hf; intro a hf
        refine done_l ?_
        refine t_normal ?_
        refine c_seq ?_
        refine c_seq ?_
        refine any_begin (S := Sat W (Blk by_ [.pointer (some ⟨p, 0, none⟩)] 49 :: R)) mixed (hS.drew.sub (by repeat (first | exact Sub.refl | exact Sub.none | exact Sub.behind | (apply Sub.cons; (focus ((repeat (first | exact Sel.head | apply Sel.tail)); done))) | apply Sub.skip))) ?_
        have hT : Sat W (Blk by_ [.pointer (some ⟨p, 0, none⟩)] 49 :: R) _ := hS.drew.sub (by repeat (first | exact Sub.refl | exact Sub.none | exact Sub.behind | (apply Sub.cons; (focus ((repeat (first | exact Sel.head | apply Sel.tail)); done))) | apply Sub.skip))
        replace hS := hS.drew
        refine any_take (i := 0) hf rfl (by kernel_rfl) (by kernel_rfl) (by kernel_rfl) (fun _ _ _ h => h) (Wn.none rfl) (rd_loadN hf rfl rfl ag49 sz49 (by intro _ h; exact loadN_of h (by repeat (first | exact Sel.head | apply Sel.tail)) (by repeat (first | exact Seg.nil | apply Seg.cons | apply Seg.succ)) )) hT rfl rfl ?_
        clear hf; intro a hf
        refine any_take (i := 1) hf rfl (by kernel_rfl) (by kernel_rfl) (by kernel_rfl) (fun _ _ _ h => h) (Wn.none rfl) (rd_move hf rfl rfl) hT rfl rfl ?_
        clear hf; intro a hf
        refine any_take (i := 3) hf rfl (by kernel_rfl) (by kernel_rfl) (by kernel_rfl) (fun _ _ _ h => h) (Wn.none rfl) (rd_move hf rfl rfl) hT rfl rfl ?_
        clear hf; intro a hf
        refine any_take (i := 4) hf rfl (by kernel_rfl) (by kernel_rfl) (by kernel_rfl) (fun _ _ _ h => h) (Wn.none rfl) (rd_sliceL hf rfl rfl rfl Try.underlying22 sz5 (by omega) (by omega)) hT rfl rfl ?_
        clear hf; intro a hf
        refine any_one (i := 2) rfl (by kernel_rfl) (st_call hf (Wn.none rfl) rfl rfl rfl fn23 (fsum_c _ _ ((b.drop 8).take (num32 b).toNat) _ _ _ (hS.sel (by repeat (first | exact Sel.head | apply Sel.tail))) rfl (by rw [List.length_take]; omega) (fun _ h => h.slOfRw (by repeat (first | exact Sel.head | apply Sel.tail)))) rfl rfl ?_)
        clear hf hS; rintro v a w ⟨rfl, dd, hS⟩ hf
        replace hT := hS.sub' hT (by repeat (first | exact Sub.refl | exact Sub.none | exact Sub.behind | (apply Sub.cons; (focus ((repeat (first | exact Sel.head | apply Sel.tail)); done))) | apply Sub.skip))
        refine ⟨hT, ?_⟩
        refine any_one (i := 5) rfl (by kernel_rfl) (st_call hf (Wn.none rfl) rfl rfl rfl fn33 (Fnumber_c (b.drop 4) _ _ _ hS (by rw [List.length_drop]; try rfl) (by rw [List.length_drop]; omega) (fun _ h => subv 4 (hvb _ (h.sub (by repeat (first | exact Sub.refl | exact Sub.none | exact Sub.behind | (apply Sub.cons; (focus ((repeat (first | exact Sel.head | apply Sel.tail)); done))) | apply Sub.skip)))) (show 4 ≤ b.length by omega) hcb) (by rw [List.length_drop]; omega)) rfl rfl ?_)
        clear hf hS; rintro v a w ⟨rfl, hS⟩ hf
        replace hT := hS.sub' hT (by repeat (first | exact Sub.refl | exact Sub.none | exact Sub.behind | (apply Sub.cons; (focus ((repeat (first | exact Sel.head | apply Sel.tail)); done))) | apply Sub.skip))
        refine ⟨hT, ?_⟩
        refine any_takeB (i := 6) hf rfl (by kernel_rfl) (by kernel_rfl) (by kernel_rfl) (fun _ _ _ _ h => h) (Wn.none rfl) (rd_neq hf rfl rfl rfl) hT rfl rfl ?_ ?_
        · clear hf; intro hc6 a hf
          have hcrc : ¬ crcB ((b.drop 8).take (num32 b).toNat) = num32 (b.drop 4) := fun e => hc6 (b32_inj.2 e)
          refine any_done (by kernel_rfl) ?_
          refine t_normal ?_
          refine c_true hf rfl ?_
          refine c_seq ?_
          refine c_region ?_
          refine step_l (st_rd hf (Wn.none rfl) (rd_assign hf rfl rfl) hS rfl rfl ?_)
          clear hf; intro a hf
          refine step_l (st_rd hf (Wn.none rfl) (rd_assign hf rfl rfl) hS rfl rfl ?_)
          clear hf; intro a hf
          refine step_l (st_rd hf (Wn.none rfl) (rd_assign hf rfl rfl) hS rfl rfl ?_)
          clear hf; intro a hf
          refine done_l ?_
          refine t_normal ?_
          refine c_ret ?_
          refine t_ret ?_
          refine e_resN hf.defers rfl (res_tmp hf rfl (res_tmp hf rfl (res_tmp hf rfl .nil))) ?_
          have he := tk_form (b := b) (by omega) (by omega) (by omega) hcrc; obtain ⟨e1, e2⟩ := tk_no he (by decide)
          exact ⟨none, 0, dd, by rw [he, e1, e2]; rfl, by rw [e1]; exact (hS.rwNil 5 1).sub (by repeat (first | exact Sub.refl | exact Sub.none | exact Sub.behind | (apply Sub.cons; (focus ((repeat (first | exact Sel.head | apply Sel.tail)); done))) | apply Sub.skip))⟩
        · clear hf; intro hc6 a hf
          have hcrc : crcB ((b.drop 8).take (num32 b).toNat) = num32 (b.drop 4) := b32_inj.1 (Classical.not_not.1 hc6)
          refine any_done (by kernel_rfl) ?_
          refine t_normal ?_
          refine c_false hf rfl ?_
          refine c_skip ?_
          refine t_normal ?_
          refine c_seq ?_
          refine c_region ?_
          refine step_l (st_rd hf (Wn.none rfl) (rd_move hf rfl rfl) hS rfl rfl ?_)
          clear hf; intro a hf
          refine step_l (st_rd hf (Wn.none rfl) (rd_move hf rfl rfl) hS rfl rfl ?_)
          clear hf; intro a hf
          refine step_l (st_rd hf (Wn.none rfl) (rd_convInt hf rfl rfl Try.underlying46 Try.underlying3 (n64_of32 _)) hS rfl rfl ?_)
          clear hf; intro a hf
          refine step_l (st_rd hf (Wn.none rfl) (rd_add hf rfl rfl rfl (by first | exact Go.IntWalk.i64_in _ (by omega) | exact rfl)) hS rfl rfl ?_)
          clear hf; intro a hf
          refine step_l (st_rd hf (Wn.none rfl) (rd_assign hf rfl rfl) hS rfl rfl ?_)
          clear hf; intro a hf
          refine step_l (st_rd hf (Wn.none rfl) (rd_assign hf rfl rfl) hS rfl rfl ?_)
          clear hf; intro a hf
          refine step_l (st_rd hf (Wn.none rfl) (rd_assign hf rfl rfl) hS rfl rfl ?_)
          clear hf; intro a hf
          refine done_l ?_
          refine t_normal ?_
          refine c_ret ?_
          refine e_resN hf.defers rfl (res_tmp hf rfl (res_tmp hf rfl (res_tmp hf rfl .nil))) ?_
          have he := tk_ok (b := b) (by omega) (by omega) (by omega) hcrc; obtain ⟨e1, e2⟩ := tk_yes he
          rw [he, e1, e2]
          exact ⟨_, _, _, by rw [show (((num32 b).toNat + 8 : Nat) : Int) = 8 + ((num32 b).toNat : Int) by omega]; rfl, hS.sub (by repeat (first | exact Sub.refl | exact Sub.none | exact Sub.behind | (apply Sub.cons; (focus ((repeat (first | exact Sel.head | apply Sel.tail)); done))) | apply Sub.skip))⟩

theorem FTake_c (b : List UInt8) (qb : Option Addr) (nb cb : Nat) {W : World} {R : List HP} {w : World} (hS : Sat W (R) w) (hnb : nb = b.length) (hb : b.length ≤ 140737488355328) (hcb : b.length ≤ cb) (hvb : ∀ w, Sat W R w → SlAt w qb b.length 1 (bvs b)) : Calls Try.prog 13 [.slice qb nb cb].toArray w (Ret fun v w' => ∃ q cap, v = .tuple #[.slice q (tkR b).length cap, .int .i64 ((tkN b : Nat) : Int), .int .i64 ((tkE b : Nat) : Int)] ∧ Sat W (Rw 5 1 q (tkR b).length cap (bvs (tkR b)) :: R) w') := by
  refine fn_start 11 Try.func13 rfl rfl rfl ?_
  intro a hf
  refine c_seq ?_
  refine c_region ?_
  refine step_l (st_rd hf (Wn.none rfl) (rd_assign hf rfl rfl) hS rfl rfl ?_)
  clear hf; intro a hf
  refine step_l (st_rd hf (Wn.none rfl) (rd_assign hf rfl rfl) hS rfl rfl ?_)
  clear hf; intro a hf
  refine step_l (st_rd hf (Wn.none rfl) (rd_assign hf rfl rfl) hS rfl rfl ?_)
  clear hf; intro a hf
  refine done_l ?_
  refine t_normal ?_
  refine c_seq ?_
  refine c_region ?_
  refine step_l (st_call hf (Wn.none rfl) rfl rfl rfl fn22 (poly_c hS) rfl rfl ?_)
  clear hf hS; rintro v a w ⟨pp_1, rfl, hS⟩ hf
  refine step_l (st_rd hf (Wn.none rfl) (rd_move hf rfl rfl) hS rfl rfl ?_)
  clear hf; intro a hf
  refine step_l (st_call hf (Wn.none rfl) rfl rfl rfl fn26 (ftake_c _ _ b _ _ _ (hS.sel (by repeat (first | exact Sel.head | apply Sel.tail))) hnb hb hcb (fun _ h => hvb _ (h.sub (by repeat (first | exact Sub.refl | exact Sub.none | exact Sub.behind | (apply Sub.cons; (focus ((repeat (first | exact Sel.head | apply Sel.tail)); done))) | apply Sub.skip))))) rfl rfl ?_)
  clear hf hS; rintro v a w ⟨qt, capt, dt, rfl, hS⟩ hf
  refine step_l (st_rd hf (Wn.none rfl) (rd_extract hf rfl rfl rfl) hS rfl rfl ?_)
  clear hf; intro a hf
  refine step_l (st_rd hf (Wn.none rfl) (rd_extract hf rfl rfl rfl) hS rfl rfl ?_)
  clear hf; intro a hf
  refine step_l (st_rd hf (Wn.none rfl) (rd_extract hf rfl rfl rfl) hS rfl rfl ?_)
  clear hf; intro a hf
  refine step_l (st_rd hf (Wn.none rfl) (rd_assign hf rfl rfl) hS rfl rfl ?_)
  clear hf; intro a hf
  refine step_l (st_rd hf (Wn.none rfl) (rd_assign hf rfl rfl) hS rfl rfl ?_)
  clear hf; intro a hf
  refine step_l (st_rd hf (Wn.none rfl) (rd_assign hf rfl rfl) hS rfl rfl ?_)
  clear hf; intro a hf
  refine done_l ?_
  refine t_normal ?_
  refine c_ret ?_
  refine e_resN hf.defers rfl (res_tmp hf rfl (res_tmp hf rfl (res_tmp hf rfl .nil))) ?_
  exact ⟨_, _, rfl, hS.sub (by repeat (first | exact Sub.refl | exact Sub.none | exact Sub.behind | (apply Sub.cons; (focus ((repeat (first | exact Sel.head | apply Sel.tail)); done))) | apply Sub.skip))⟩

theorem RTake_c (b : List UInt8) (qb : Option Addr) (nb cb : Nat) {W : World} {R : List HP} {w : World} (hS : Sat W (R) w) (hnb : nb = b.length) (hb : b.length ≤ 140737488355328) (hcb : b.length ≤ cb) (hvb : ∀ w, Sat W R w → SlAt w qb b.length 1 (bvs b)) : Calls Try.prog 15 [.slice qb nb cb].toArray w (Ret fun v w' => ∃ q cap, v = .tuple #[.slice q (tkR b).length cap, .int .i64 ((tkN b : Nat) : Int), .int .i64 ((tkE b : Nat) : Int)] ∧ Sat W (Rw 5 1 q (tkR b).length cap (bvs (tkR b)) :: R) w') := by
  refine fn_start 39 Try.func15 rfl rfl rfl ?_
  intro a hf
  subst hnb; have hlt := (num32 b).isLt
  refine c_seq ?_
  refine c_region ?_
  refine step_l (st_rd hf (Wn.none rfl) (rd_assign hf rfl rfl) hS rfl rfl ?_)
  clear hf; intro a hf
  refine step_l (st_rd hf (Wn.none rfl) (rd_assign hf rfl rfl) hS rfl rfl ?_)
  clear hf; intro a hf
  refine step_l (st_rd hf (Wn.none rfl) (rd_assign hf rfl rfl) hS rfl rfl ?_)
  clear hf; intro a hf
  refine done_l ?_
  refine t_normal ?_
  refine c_seq ?_
  refine c_seq ?_
  refine c_region ?_
  refine step_l (st_rd hf (Wn.none rfl) (rd_move hf rfl rfl) hS rfl rfl ?_)
  clear hf; intro a hf
  refine step_l (st_rd hf (Wn.none rfl) (rd_len hf rfl rfl Try.underlying22) hS rfl rfl ?_)
  clear hf; intro a hf
  refine step_l (st_rdB hf (Wn.none rfl) (rd_lss hf rfl rfl rfl) hS rfl rfl ?_ ?_)
  · clear hf; intro hc1 a hf
    refine done_l ?_
    refine t_normal ?_
    refine c_true hf rfl ?_
    refine c_seq ?_
    refine c_region ?_
    refine step_l (st_rd hf (Wn.none rfl) (rd_assign hf rfl rfl) hS rfl rfl ?_)
    clear hf; intro a hf
    refine step_l (st_rd hf (Wn.none rfl) (rd_assign hf rfl rfl) hS rfl rfl ?_)
    clear hf; intro a hf
    refine step_l (st_rd hf (Wn.none rfl) (rd_assign hf rfl rfl) hS rfl rfl ?_)
    clear hf; intro a hf
    refine done_l ?_
    refine t_normal ?_
    refine c_ret ?_
    refine t_ret ?_
    refine e_resN hf.defers rfl (res_tmp hf rfl (res_tmp hf rfl (res_tmp hf rfl .nil))) ?_
    have he := tk_short (b := b) (by omega); obtain ⟨e1, e2⟩ := tk_no he (by decide)
    exact ⟨none, 0, by rw [he, e1, e2]; rfl, by rw [e1]; exact (hS.rwNil 5 1).sub (by repeat (first | exact Sub.refl | exact Sub.none | exact Sub.behind | (apply Sub.cons; (focus ((repeat (first | exact Sel.head | apply Sel.tail)); done))) | apply Sub.skip))⟩
  · clear hf; intro hc1 a hf
    refine done_l ?_
    refine t_normal ?_
    refine c_false hf rfl ?_
    refine c_skip ?_
    refine t_normal ?_
    refine c_seq ?_
    refine c_region ?_
    refine step_l (st_rd hf (Wn.none rfl) (rd_move hf rfl rfl) hS rfl rfl ?_)
    clear hf; intro a hf
    refine step_l (st_call hf (Wn.none rfl) rfl rfl rfl fn27 (Rnum_c b _ _ _ hS rfl (by omega) (fun _ h => hvb _ (h.sub (by repeat (first | exact Sub.refl | exact Sub.none | exact Sub.behind | (apply Sub.cons; (focus ((repeat (first | exact Sel.head | apply Sel.tail)); done))) | apply Sub.skip)))) (by omega)) rfl rfl ?_)
    clear hf hS; rintro v a w ⟨rfl, hS⟩ hf
    refine step_l (st_rd hf (Wn.none rfl) (rd_assign hf rfl rfl) hS rfl rfl ?_)
    clear hf; intro a hf
    refine done_l ?_
    refine t_normal ?_
    refine c_seq ?_
    refine c_block ?_
    refine c_seq ?_
    refine c_region ?_
    refine step_l (st_rd hf (Wn.none rfl) (rd_move hf rfl rfl) hS rfl rfl ?_)
    clear hf; intro a hf
    refine step_l (st_rdB hf (Wn.none rfl) (rd_gtr hf rfl rfl rfl) hS rfl rfl ?_ ?_)
    · clear hf; intro hc2 a hf
      refine step_l (st_rd hf (Wn.none rfl) (rd_assign hf rfl rfl) hS rfl rfl ?_)
      clear hf; intro a hf
      refine done_l ?_
      refine t_normal ?_
      refine c_true hf rfl ?_
      refine c_seq ?_
      refine c_region ?_
      refine step_l (st_rd hf (Wn.none rfl) (rd_assign hf rfl rfl) hS rfl rfl ?_)
      clear hf; intro a hf
      refine step_l (st_rd hf (Wn.none rfl) (rd_assign hf rfl rfl) hS rfl rfl ?_)
      clear hf; intro a hf
      refine step_l (st_rd hf (Wn.none rfl) (rd_assign hf rfl rfl) hS rfl rfl ?_)
      clear hf; intro a hf
      refine done_l ?_
      refine t_normal ?_
      refine c_ret ?_
      refine b_ret ?_
      refine t_ret ?_
      refine e_resN hf.defers rfl (res_tmp hf rfl (res_tmp hf rfl (res_tmp hf rfl .nil))) ?_
      have he := tk_long (b := b) (by omega) (by omega); obtain ⟨e1, e2⟩ := tk_no he (by decide)
      exact ⟨none, 0, by rw [he, e1, e2]; rfl, by rw [e1]; exact (hS.rwNil 5 1).sub (by repeat (first | exact Sub.refl | exact Sub.none | exact Sub.behind | (apply Sub.cons; (focus ((repeat (first | exact Sel.head | apply Sel.tail)); done))) | apply Sub.skip))⟩
    · clear hf; intro hc2 a hf
      refine step_l (st_rd hf (Wn.none rfl) (rd_assign hf rfl rfl) hS rfl rfl ?_)
      clear hf; intro a hf
      refine done_l ?_
      refine t_normal ?_
      refine c_false hf rfl ?_
      refine c_seq ?_
      refine c_region ?_
      refine step_l (st_rd hf (Wn.none rfl) (rd_move hf rfl rfl) hS rfl rfl ?_)
      clear hf; intro a hf
      refine step_l (st_rd hf (Wn.none rfl) (rd_convInt hf rfl rfl Try.underlying46 Try.underlying3 (n64_of32 _)) hS rfl rfl ?_)
      clear hf; intro a hf
      refine step_l (st_rd hf (Wn.none rfl) (rd_move hf rfl rfl) hS rfl rfl ?_)
      clear hf; intro a hf
      refine step_l (st_rd hf (Wn.none rfl) (rd_len hf rfl rfl Try.underlying22) hS rfl rfl ?_)
      clear hf; intro a hf
      refine step_l (st_rd hf (Wn.none rfl) (rd_sub hf rfl rfl rfl (by first | exact Go.IntWalk.i64_in _ (by omega) | exact rfl)) hS rfl rfl ?_)
      clear hf; intro a hf
      refine step_l (st_rdB hf (Wn.none rfl) (rd_gtr hf rfl rfl rfl) hS rfl rfl ?_ ?_)
      · clear hf; intro hc3 a hf
        refine step_l (st_rd hf (Wn.none rfl) (rd_assign hf rfl rfl) hS rfl rfl ?_)
        clear hf; intro a hf
        refine done_l ?_
        refine t_normal ?_
        refine c_true hf rfl ?_
        refine c_seq ?_
        refine c_region ?_
        refine step_l (st_rd hf (Wn.none rfl) (rd_assign hf rfl rfl) hS rfl rfl ?_)
        clear hf; intro a hf
        refine step_l (st_rd hf (Wn.none rfl) (rd_assign hf rfl rfl) hS rfl rfl ?_)
        clear hf; intro a hf
        refine step_l (st_rd hf (Wn.none rfl) (rd_assign hf rfl rfl) hS rfl rfl ?_)
        clear hf; intro a hf
        refine done_l ?_
        refine t_normal ?_
        refine c_ret ?_
        refine b_ret ?_
        refine t_ret ?_
        refine e_resN hf.defers rfl (res_tmp hf rfl (res_tmp hf rfl (res_tmp hf rfl .nil))) ?_
        have he := tk_short2 (b := b) (by omega) (by omega) (by omega); obtain ⟨e1, e2⟩ := tk_no he (by decide)
        exact ⟨none, 0, by rw [he, e1, e2]; rfl, by rw [e1]; exact (hS.rwNil 5 1).sub (by repeat (first | exact Sub.refl | exact Sub.none | exact Sub.behind | (apply Sub.cons; (focus ((repeat (first | exact Sel.head | apply Sel.tail)); done))) | apply Sub.skip))⟩
      · clear hf; intro hc3 a hf
        refine step_l (st_rd hf (Wn.none rfl) (rd_assign hf rfl rfl) hS rfl rfl ?_)
        clear hf; intro a hf
        refine done_l ?_
        refine t_normal ?_
        refine c_false hf rfl ?_
        refine c_seq ?_
        refine any_begin (S := Sat W (R)) mixed (hS.drew.sub (by repeat (first | exact Sub.refl | exact Sub.none | exact Sub.behind | (apply Sub.cons; (focus ((repeat (first | exact Sel.head | apply Sel.tail)); done))) | apply Sub.skip))) ?_
        have hT : Sat W (R) _ := hS.drew.sub (by repeat (first | exact Sub.refl | exact Sub.none | exact Sub.behind | (apply Sub.cons; (focus ((repeat (first | exact Sel.head | apply Sel.tail)); done))) | apply Sub.skip))
        replace hS := hS.drew
        refine any_take (i := 0) hf rfl (by kernel_rfl) (by kernel_rfl) (by kernel_rfl) (fun _ _ _ h => h) (Wn.none rfl) (rd_move hf rfl rfl) hT rfl rfl ?_
        clear hf; intro a hf
        refine any_take (i := 1) hf rfl (by kernel_rfl) (by kernel_rfl) (by kernel_rfl) (fun _ _ _ h => h) (Wn.none rfl) (rd_move hf rfl rfl) hT rfl rfl ?_
        clear hf; intro a hf
        refine any_take (i := 2) hf rfl (by kernel_rfl) (by kernel_rfl) (by kernel_rfl) (fun _ _ _ h => h) (Wn.none rfl) (rd_add hf rfl rfl rfl (show IntKind.u32.wrap (8 + ((num32 b).toNat : Int)) = 8 + ((num32 b).toNat : Int) from (by rw [IntKind.wrap_u32]; omega))) hT rfl rfl ?_
        clear hf; intro a hf
        refine any_take (i := 3) hf rfl (by kernel_rfl) (by kernel_rfl) (by kernel_rfl) (fun _ _ _ h => h) (Wn.none rfl) (rd_sliceLH hf rfl rfl rfl rfl Try.underlying22 sz5 (by omega) (by omega) (by omega)) hT rfl rfl ?_
        clear hf; intro a hf
        refine any_take (i := 5) hf rfl (by kernel_rfl) (by kernel_rfl) (by kernel_rfl) (fun _ _ _ h => h) (Wn.none rfl) (rd_move hf rfl rfl) hT rfl rfl ?_
        clear hf; intro a hf
        refine any_take (i := 6) hf rfl (by kernel_rfl) (by kernel_rfl) (by kernel_rfl) (fun _ _ _ h => h) (Wn.none rfl) (rd_sliceL hf rfl rfl rfl Try.underlying22 sz5 (by omega) (by omega)) hT rfl rfl ?_
        clear hf; intro a hf
        refine any_one (i := 4) rfl (by kernel_rfl) (st_call hf (Wn.none rfl) rfl rfl rfl fn25 (Crc_c ((b.drop 8).take (num32 b).toNat) _ _ _ hS (by rw [List.length_take, List.length_drop]; omega) (by rw [List.length_take]; omega) (fun _ h => subv2 8 (num32 b).toNat (hvb _ (h.sub (by repeat (first | exact Sub.refl | exact Sub.none | exact Sub.behind | (apply Sub.cons; (focus ((repeat (first | exact Sel.head | apply Sel.tail)); done))) | apply Sub.skip)))) (show 8 ≤ b.length by omega) hcb)) rfl rfl ?_)
        clear hf hS; rintro v a w ⟨rfl, hS⟩ hf
        replace hT := hS.sub' hT (by repeat (first | exact Sub.refl | exact Sub.none | exact Sub.behind | (apply Sub.cons; (focus ((repeat (first | exact Sel.head | apply Sel.tail)); done))) | apply Sub.skip))
        refine ⟨hT, ?_⟩
        refine any_one (i := 7) rfl (by kernel_rfl) (st_call hf (Wn.none rfl) rfl rfl rfl fn27 (Rnum_c (b.drop 4) _ _ _ hS (by rw [List.length_drop]; try rfl) (by rw [List.length_drop]; omega) (fun _ h => subv 4 (hvb _ (h.sub (by repeat (first | exact Sub.refl | exact Sub.none | exact Sub.behind | (apply Sub.cons; (focus ((repeat (first | exact Sel.head | apply Sel.tail)); done))) | apply Sub.skip)))) (show 4 ≤ b.length by omega) hcb) (by rw [List.length_drop]; omega)) rfl rfl ?_)
        clear hf hS; rintro v a w ⟨rfl, hS⟩ hf
        replace hT := hS.sub' hT (by repeat (first | exact Sub.refl | exact Sub.none | exact Sub.behind | (apply Sub.cons; (focus ((repeat (first | exact Sel.head | apply Sel.tail)); done))) | apply Sub.skip))
        refine ⟨hT, ?_⟩
        refine any_takeB (i := 8) hf rfl (by kernel_rfl) (by kernel_rfl) (by kernel_rfl) (fun _ _ _ _ h => h) (Wn.none rfl) (rd_neq hf rfl rfl rfl) hT rfl rfl ?_ ?_
        · clear hf; intro hc4 a hf
          have hcrc : ¬ crcB ((b.drop 8).take (num32 b).toNat) = num32 (b.drop 4) := fun e => hc4 (b32_inj.2 e)
          refine any_take (i := 9) hf rfl (by kernel_rfl) (by kernel_rfl) (by kernel_rfl) (fun _ _ _ h => h) (Wn.none rfl) (rd_assign hf rfl rfl) hT rfl rfl ?_
          clear hf; intro a hf
          refine any_done (by kernel_rfl) ?_
          refine t_normal ?_
          refine c_true hf rfl ?_
          refine c_seq ?_
          refine c_region ?_
          refine step_l (st_rd hf (Wn.none rfl) (rd_assign hf rfl rfl) hS rfl rfl ?_)
          clear hf; intro a hf
          refine step_l (st_rd hf (Wn.none rfl) (rd_assign hf rfl rfl) hS rfl rfl ?_)
          clear hf; intro a hf
          refine step_l (st_rd hf (Wn.none rfl) (rd_assign hf rfl rfl) hS rfl rfl ?_)
          clear hf; intro a hf
          refine done_l ?_
          refine t_normal ?_
          refine c_ret ?_
          refine b_ret ?_
          refine t_ret ?_
          refine e_resN hf.defers rfl (res_tmp hf rfl (res_tmp hf rfl (res_tmp hf rfl .nil))) ?_
          have he := tk_form (b := b) (by omega) (by omega) (by omega) hcrc; obtain ⟨e1, e2⟩ := tk_no he (by decide)
          exact ⟨none, 0, by rw [he, e1, e2]; rfl, by rw [e1]; exact (hS.rwNil 5 1).sub (by repeat (first | exact Sub.refl | exact Sub.none | exact Sub.behind | (apply Sub.cons; (focus ((repeat (first | exact Sel.head | apply Sel.tail)); done))) | apply Sub.skip))⟩
        · clear hf; intro hc4 a hf
          have hcrc : crcB ((b.drop 8).take (num32 b).toNat) = num32 (b.drop 4) := b32_inj.1 (Classical.not_not.1 hc4)
          refine any_take (i := 9) hf rfl (by kernel_rfl) (by kernel_rfl) (by kernel_rfl) (fun _ _ _ h => h) (Wn.none rfl) (rd_assign hf rfl rfl) hT rfl rfl ?_
          clear hf; intro a hf
          refine any_done (by kernel_rfl) ?_
          refine t_normal ?_
          refine c_false hf rfl ?_
          refine c_skip ?_
          refine b_normal ?_
          refine t_normal ?_
          refine c_seq ?_
          refine c_region ?_
          refine step_l (st_rd hf (Wn.none rfl) (rd_move hf rfl rfl) hS rfl rfl ?_)
          clear hf; intro a hf
          refine step_l (st_rd hf (Wn.none rfl) (rd_move hf rfl rfl) hS rfl rfl ?_)
          clear hf; intro a hf
          refine step_l (st_rd hf (Wn.none rfl) (rd_add hf rfl rfl rfl (show IntKind.u32.wrap (8 + ((num32 b).toNat : Int)) = 8 + ((num32 b).toNat : Int) from (by rw [IntKind.wrap_u32]; omega))) hS rfl rfl ?_)
          clear hf; intro a hf
          refine step_l (st_rd hf (Wn.none rfl) (rd_sliceLH hf rfl rfl rfl rfl Try.underlying22 sz5 (by omega) (by omega) (by omega)) hS rfl rfl ?_)
          clear hf; intro a hf
          replace hS := hS.rwNil 5 1
          refine step_l (st_append hf (Wn.none rfl) rfl rfl rfl Try.underlying22 tyb5 (by rfl) (by decide) hS (by repeat (first | exact Sel.head | apply Sel.tail)) (by first | exact hS.slOfBlk (by repeat (first | exact Sel.head | apply Sel.tail)) (by rfl) | exact hS.slOfBlkPre (by repeat (first | exact Sel.head | apply Sel.tail)) (bvs_len1 _) | exact hS.slOfRw (by repeat (first | exact Sel.head | apply Sel.tail)) | exact SlAt.nil _ _ _ | exact (subv3 8 (num32 b).toNat (hvb _ (hS.sub (by repeat (first | exact Sub.refl | exact Sub.none | exact Sub.behind | (apply Sub.cons; (focus ((repeat (first | exact Sel.head | apply Sel.tail)); done))) | apply Sub.skip)))) (show 8 ≤ b.length by omega) hcb (by rw [List.length_take, List.length_drop]; omega))) (by first | rfl | exact bvs_one _ | (simp [Value.oneCell']; done)) (by omega) rfl rfl ?_)
          clear hf hS; intro pA capA a w hf hS hnilA
          refine step_l (st_rd hf (Wn.none rfl) (rd_move hf rfl rfl) hS rfl rfl ?_)
          clear hf; intro a hf
          refine step_l (st_rd hf (Wn.none rfl) (rd_convInt hf rfl rfl Try.underlying46 Try.underlying3 (n64_of32 _)) hS rfl rfl ?_)
          clear hf; intro a hf
          refine step_l (st_rd hf (Wn.none rfl) (rd_add hf rfl rfl rfl (by first | exact Go.IntWalk.i64_in _ (by omega) | exact rfl)) hS rfl rfl ?_)
          clear hf; intro a hf
          refine step_l (st_rd hf (Wn.none rfl) (rd_assign hf rfl rfl) hS rfl rfl ?_)
          clear hf; intro a hf
          refine step_l (st_rd hf (Wn.none rfl) (rd_assign hf rfl rfl) hS rfl rfl ?_)
          clear hf; intro a hf
          refine step_l (st_rd hf (Wn.none rfl) (rd_assign hf rfl rfl) hS rfl rfl ?_)
          clear hf; intro a hf
          refine done_l ?_
          refine t_normal ?_
          refine c_ret ?_
          refine e_resN hf.defers rfl (res_tmp hf rfl (res_tmp hf rfl (res_tmp hf rfl .nil))) ?_
          have he := tk_ok (b := b) (by omega) (by omega) (by omega) hcrc; obtain ⟨e1, e2⟩ := tk_yes he
          have hl2 : 0 + ((8 + ((num32 b).toNat : Int)).toNat - Int.toNat 8) = ((b.drop 8).take (num32 b).toNat).length := by rw [List.length_take, List.length_drop]; omega
          rw [he, e1, e2, hl2]
          exact ⟨_, _, rfl, (hS.rwCast (xs' := bvs ((b.drop 8).take (num32 b).toNat)) (by rw [List.nil_append]; rfl) hl2).sub (by repeat (first | exact Sub.refl | exact Sub.none | exact Sub.behind | (apply Sub.cons; (focus ((repeat (first | exact Sel.head | apply Sel.tail)); done))) | apply Sub.skip))⟩

theorem RFrame_c (b : List UInt8) (qb : Option Addr) (nb cb : Nat) {W : World} {R : List HP} {w : World} (hS : Sat W (R) w) (hnb : nb = b.length) (hb : b.length ≤ 100000000) (hvb : ∀ w, Sat W R w → SlAt w qb b.length 1 (bvs b)) : Calls Try.prog 12 [.slice qb nb cb].toArray w (Ret fun v w' => ∃ q cap, v = .slice q (frB b).length cap ∧ Sat W (Rw 5 1 q (frB b).length cap (bvs (frB b)) :: R) w') := by
  refine fn_start 13 Try.func12 rfl rfl rfl ?_
  intro a hf
  subst hnb
  refine c_seq ?_
  refine c_region ?_
  refine step_l (st_rd hf (Wn.none rfl) (rd_assign hf rfl rfl) hS rfl rfl ?_)
  clear hf; intro a hf
  refine done_l ?_
  refine t_normal ?_
  refine c_seq ?_
  refine c_region ?_
  refine step_l (st_rd hf (Wn.none rfl) (rd_move hf rfl rfl) hS rfl rfl ?_)
  clear hf; intro a hf
  refine step_l (st_rd hf (Wn.none rfl) (rd_len hf rfl rfl Try.underlying22) hS rfl rfl ?_)
  clear hf; intro a hf
  refine step_l (st_rd hf (Wn.none rfl) (rd_convInt hf rfl rfl Try.underlying3 Try.underlying46 (n32_nat _)) hS rfl rfl ?_)
  clear hf; intro a hf
  refine step_l (st_call hf (Wn.none rfl) rfl rfl rfl fn24 (Ru32_c _ hS) rfl rfl ?_)
  clear hf hS; rintro v a w ⟨qw1, cw1, rfl, hS⟩ hf
  refine step_l (st_rd hf (Wn.none rfl) (rd_move hf rfl rfl) hS rfl rfl ?_)
  clear hf; intro a hf
  refine step_l (st_call hf (Wn.none rfl) rfl rfl rfl fn25 (Crc_c b _ _ _ hS rfl (by omega) (fun _ h => hvb _ (h.sub (by repeat (first | exact Sub.refl | exact Sub.none | exact Sub.behind | (apply Sub.cons; (focus ((repeat (first | exact Sel.head | apply Sel.tail)); done))) | apply Sub.skip))))) rfl rfl ?_)
  clear hf hS; rintro v a w ⟨rfl, hS⟩ hf
  refine step_l (st_call hf (Wn.none rfl) rfl rfl rfl fn24 (Ru32_c _ hS) rfl rfl ?_)
  clear hf hS; rintro v a w ⟨qw2, cw2, rfl, hS⟩ hf
  refine step_l (st_append hf (Wn.none rfl) rfl rfl rfl Try.underlying22 tyb5 (by rfl) (by decide) hS (by repeat (first | exact Sel.head | apply Sel.tail)) (by first | exact hS.slOfBlk (by repeat (first | exact Sel.head | apply Sel.tail)) (by rfl) | exact hS.slOfBlkPre (by repeat (first | exact Sel.head | apply Sel.tail)) (bvs_len1 _) | exact hS.slOfRw (by repeat (first | exact Sel.head | apply Sel.tail)) | exact SlAt.nil _ _ _ | exact hvb _ (hS.sub (by repeat (first | exact Sub.refl | exact Sub.none | exact Sub.behind | (apply Sub.cons; (focus ((repeat (first | exact Sel.head | apply Sel.tail)); done))) | apply Sub.skip)))) (by first | rfl | exact bvs_one _ | (simp [Value.oneCell']; done)) (by omega) rfl rfl ?_)
  clear hf hS; intro pA capA a w hf hS hnilA
  refine step_l (st_rd hf (Wn.none rfl) (rd_move hf rfl rfl) hS rfl rfl ?_)
  clear hf; intro a hf
  refine step_l (st_append hf (Wn.none rfl) rfl rfl rfl Try.underlying22 tyb5 (by rfl) (by decide) hS (by repeat (first | exact Sel.head | apply Sel.tail)) (by first | exact hS.slOfBlk (by repeat (first | exact Sel.head | apply Sel.tail)) (by rfl) | exact hS.slOfBlkPre (by repeat (first | exact Sel.head | apply Sel.tail)) (bvs_len1 _) | exact hS.slOfRw (by repeat (first | exact Sel.head | apply Sel.tail)) | exact SlAt.nil _ _ _ | exact hvb _ (hS.sub (by repeat (first | exact Sub.refl | exact Sub.none | exact Sub.behind | (apply Sub.cons; (focus ((repeat (first | exact Sel.head | apply Sel.tail)); done))) | apply Sub.skip)))) (by first | rfl | exact bvs_one _ | (simp [Value.oneCell']; done)) (by omega) rfl rfl ?_)
  clear hf hS; intro pA capA a w hf hS hnilA
  refine step_l (st_rd hf (Wn.none rfl) (rd_assign hf rfl rfl) hS rfl rfl ?_)
  clear hf; intro a hf
  refine done_l ?_
  refine t_normal ?_
  refine c_ret ?_
  refine e_res1 hf.defers rfl (res_tmp hf rfl .nil) ?_
  have hfl := frB_len b
  exact ⟨_, _, slice_eq (by omega), (hS.rwCast (xs' := bvs (frB b)) (len' := (frB b).length) (by unfold frB; simp) (by omega)).sub (by repeat (first | exact Sub.refl | exact Sub.none | exact Sub.behind | (apply Sub.cons; (focus ((repeat (first | exact Sel.head | apply Sel.tail)); done))) | apply Sub.skip))⟩

theorem SameBytes_c (La : List (Sli UInt8)) (qa : Option Addr) (na ca : Nat) (Lb : List (Sli UInt8)) (qb : Option Addr) (nb cb : Nat) {W : World} {R : List HP} {w : World} (hS : Sat W (R) w) (hna : na = La.length) (hnb : nb = Lb.length) (hl9 : La.length ≤ 9223372036854775806) (hva : ∀ w, Sat W R w → BB w qa La) (hvb : ∀ w, Sat W R w → BB w qb Lb) : Calls Try.prog 18 [.slice qa na ca, .slice qb nb cb].toArray w (Ret fun v w' => v = .bool (decide (byts La = byts Lb)) ∧ Sat W R w') := by
  refine fn_start 28 Try.func18 rfl rfl rfl ?_
  intro a hf
  subst hna; subst hnb
  refine c_seq ?_
  refine c_region ?_
  refine step_l (st_rd hf (Wn.none rfl) (rd_assign hf rfl rfl) hS rfl rfl ?_)
  clear hf; intro a hf
  refine done_l ?_
  refine t_normal ?_
  refine c_seq ?_
  refine c_seq ?_
  refine c_region ?_
  refine step_l (st_rd hf (Wn.none rfl) (rd_move hf rfl rfl) hS rfl rfl ?_)
  clear hf; intro a hf
  refine step_l (st_rd hf (Wn.none rfl) (rd_len hf rfl rfl Try.underlying34) hS rfl rfl ?_)
  clear hf; intro a hf
  refine step_l (st_rd hf (Wn.none rfl) (rd_move hf rfl rfl) hS rfl rfl ?_)
  clear hf; intro a hf
  refine step_l (st_rd hf (Wn.none rfl) (rd_len hf rfl rfl Try.underlying34) hS rfl rfl ?_)
  clear hf; intro a hf
  refine step_l (st_rdB hf (Wn.none rfl) (rd_neq hf rfl rfl rfl) hS rfl rfl ?_ ?_)
  · clear hf; intro hc1 a hf
    have hd : byts La ≠ byts Lb := fun e => hc1 (congrArg (fun z : Nat => (z : Int)) (by have := congrArg List.length e; rwa [byts_len, byts_len] at this))
    refine done_l ?_
    refine t_normal ?_
    refine c_true hf rfl ?_
    refine c_seq ?_
    refine c_region ?_
    refine step_l (st_rd hf (Wn.none rfl) (rd_assign hf rfl rfl) hS rfl rfl ?_)
    clear hf; intro a hf
    refine done_l ?_
    refine t_normal ?_
    refine c_ret ?_
    refine t_ret ?_
    refine e_res1 hf.defers rfl (res_tmp hf rfl .nil) ?_
    exact ⟨congrArg Value.bool (decide_eq_false hd).symm, hS.sub (by repeat (first | exact Sub.refl | exact Sub.none | exact Sub.behind | (apply Sub.cons; (focus ((repeat (first | exact Sel.head | apply Sel.tail)); done))) | apply Sub.skip))⟩
  · clear hf; intro hc1 a hf
    have hll : La.length = Lb.length := by omega
    refine done_l ?_
    refine t_normal ?_
    refine c_false hf rfl ?_
    refine c_skip ?_
    refine t_normal ?_
    refine c_seq ?_
    refine c_seq ?_
    refine c_region ?_
    refine step_l (st_rd hf (Wn.none rfl) (rd_move hf rfl rfl) hS rfl rfl ?_)
    clear hf; intro a hf
    refine step_l (st_rd hf (Wn.none rfl) (rd_len hf rfl rfl Try.underlying34) hS rfl rfl ?_)
    clear hf; intro a hf
    refine step_l (st_rd hf (Wn.none rfl) (rd_move hf rfl rfl) hS rfl rfl ?_)
    clear hf; intro a hf
    refine done_l ?_
    refine t_normal ?_
    refine c_block ?_
    have hk0 := Keep.of hf [(4, 5), (13, 27)] (by repeat (first | exact Keep.nil | apply Keep.drop rfl | apply Keep.take rfl))
    refine c_loopK hk0 (α := Nat) (fun k => [(13, .int .i64 (k : Nat))]) (fun k w => Sat W (R) w ∧ k ≤ La.length ∧ (byts La).take k = (byts Lb).take k) (fun k => La.length - k) 0 ((hf.keep hk0).kb hf 13 rfl (by first | rfl | exact int_eq (by omega))) ⟨hS.sub (by repeat (first | exact Sub.refl | exact Sub.none | exact Sub.behind | (apply Sub.cons; (focus ((repeat (first | exact Sel.head | apply Sel.tail)); done))) | apply Sub.skip)), ⟨by omega, rfl⟩⟩ ?_
    clear hf hS; rintro k a w hf ⟨hS, ⟨hk, htk⟩⟩; (try dsimp only [List.cons_append, List.nil_append] at hf)
    refine c_seq ?_
    refine c_region ?_
    refine step_l (st_rdB hf (Wn.none rfl) (rd_lss hf rfl rfl rfl) hS rfl rfl ?_ ?_)
    · clear hf; intro hc2 a hf
      obtain ⟨xa, hga⟩ := get_of_lt (l := La) (k := k) (by omega) rfl; obtain ⟨ada, rfl⟩ := (hva _ (hS.sub (by repeat (first | exact Sub.refl | exact Sub.none | exact Sub.behind | (apply Sub.cons; (focus ((repeat (first | exact Sel.head | apply Sel.tail)); done))) | apply Sub.skip)))).at'.some (by omega); obtain ⟨xb, hgb⟩ := get_of_lt (l := Lb) (k := k) (by omega) rfl; obtain ⟨adb, rfl⟩ := (hvb _ (hS.sub (by repeat (first | exact Sub.refl | exact Sub.none | exact Sub.behind | (apply Sub.cons; (focus ((repeat (first | exact Sel.head | apply Sel.tail)); done))) | apply Sub.skip)))).at'.some (by omega)
      refine done_l ?_
      refine t_normal ?_
      refine c_seq ?_
      refine c_true hf rfl ?_
      refine c_skip ?_
      refine t_normal ?_
      refine c_seq ?_
      refine c_block ?_
      refine c_seq ?_
      refine c_region ?_
      refine step_l (st_rd hf (Wn.none rfl) (rd_move hf rfl rfl) hS rfl rfl ?_)
      clear hf; intro a hf
      refine step_l (st_rd hf (Wn.none rfl) (rd_assign hf rfl rfl) hS rfl rfl ?_)
      clear hf; intro a hf
      refine done_l ?_
      refine t_normal ?_
      refine c_seq ?_
      refine any_begin mixed hS.drew ?_
      replace hS := hS.drew
      have hT := hS
      refine any_take (i := 0) hf rfl (by kernel_rfl) (by kernel_rfl) (by kernel_rfl) (fun _ _ _ h => h) (Wn.none rfl) (rd_move hf rfl rfl) hT rfl rfl ?_
      clear hf; intro a hf
      refine any_take (i := 1) hf rfl (by kernel_rfl) (by kernel_rfl) (by kernel_rfl) (fun _ _ _ h => h) (Wn.none rfl) (rd_move hf rfl rfl) hT rfl rfl ?_
      clear hf; intro a hf
      refine any_take (i := 2) hf rfl (by kernel_rfl) (by kernel_rfl) (by kernel_rfl) (fun _ _ _ h => h) (Wn.none rfl) ((by first | exact rd_indexAddrN1 hf rfl rfl rfl Try.underlying34 sz22 (by omega) | exact rd_indexAddr hf rfl rfl rfl Try.underlying34 sz22 (by first | decide | omega) (by omega))) hT rfl rfl ?_
      clear hf; intro a hf
      refine any_take (i := 3) hf rfl (by kernel_rfl) (by kernel_rfl) (by kernel_rfl) (fun _ _ _ h => h) (Wn.none rfl) (rd_load1 hf rfl rfl ag22 (by intro _ h; exact (hva _ (h.sub (by repeat (first | exact Sub.refl | exact Sub.none | exact Sub.behind | (apply Sub.cons; (focus ((repeat (first | exact Sel.head | apply Sel.tail)); done))) | apply Sub.skip)))).get hga)) hT rfl rfl ?_
      clear hf; intro a hf
      refine any_take (i := 4) hf rfl (by kernel_rfl) (by kernel_rfl) (by kernel_rfl) (fun _ _ _ h => h) (Wn.none rfl) (rd_str hf rfl rfl Try.underlying22 Try.underlying9 Try.underlying5 (by intro _ h; first | exact h.slOfRw (by repeat (first | exact Sel.head | apply Sel.tail)) | exact h.slOfBlkPre (by repeat (first | exact Sel.head | apply Sel.tail)) (bvs_len1 _) | exact (hva _ (h.sub (by repeat (first | exact Sub.refl | exact Sub.none | exact Sub.behind | (apply Sub.cons; (focus ((repeat (first | exact Sel.head | apply Sel.tail)); done))) | apply Sub.skip)))).sl hga | exact (hvb _ (h.sub (by repeat (first | exact Sub.refl | exact Sub.none | exact Sub.behind | (apply Sub.cons; (focus ((repeat (first | exact Sel.head | apply Sel.tail)); done))) | apply Sub.skip)))).sl hgb)) hT rfl rfl ?_
      clear hf; intro a hf
      refine any_take (i := 5) hf rfl (by kernel_rfl) (by kernel_rfl) (by kernel_rfl) (fun _ _ _ h => h) (Wn.none rfl) (rd_move hf rfl rfl) hT rfl rfl ?_
      clear hf; intro a hf
      refine any_take (i := 6) hf rfl (by kernel_rfl) (by kernel_rfl) (by kernel_rfl) (fun _ _ _ h => h) (Wn.none rfl) (rd_move hf rfl rfl) hT rfl rfl ?_
      clear hf; intro a hf
      refine any_take (i := 7) hf rfl (by kernel_rfl) (by kernel_rfl) (by kernel_rfl) (fun _ _ _ h => h) (Wn.none rfl) ((by first | exact rd_indexAddrN1 hf rfl rfl rfl Try.underlying34 sz22 (by omega) | exact rd_indexAddr hf rfl rfl rfl Try.underlying34 sz22 (by first | decide | omega) (by omega))) hT rfl rfl ?_
      clear hf; intro a hf
      refine any_take (i := 8) hf rfl (by kernel_rfl) (by kernel_rfl) (by kernel_rfl) (fun _ _ _ h => h) (Wn.none rfl) (rd_load1 hf rfl rfl ag22 (by intro _ h; exact (hvb _ (h.sub (by repeat (first | exact Sub.refl | exact Sub.none | exact Sub.behind | (apply Sub.cons; (focus ((repeat (first | exact Sel.head | apply Sel.tail)); done))) | apply Sub.skip)))).get hgb)) hT rfl rfl ?_
      clear hf; intro a hf
      refine any_take (i := 9) hf rfl (by kernel_rfl) (by kernel_rfl) (by kernel_rfl) (fun _ _ _ h => h) (Wn.none rfl) (rd_str hf rfl rfl Try.underlying22 Try.underlying9 Try.underlying5 (by intro _ h; first | exact h.slOfRw (by repeat (first | exact Sel.head | apply Sel.tail)) | exact h.slOfBlkPre (by repeat (first | exact Sel.head | apply Sel.tail)) (bvs_len1 _) | exact (hva _ (h.sub (by repeat (first | exact Sub.refl | exact Sub.none | exact Sub.behind | (apply Sub.cons; (focus ((repeat (first | exact Sel.head | apply Sel.tail)); done))) | apply Sub.skip)))).sl hga | exact (hvb _ (h.sub (by repeat (first | exact Sub.refl | exact Sub.none | exact Sub.behind | (apply Sub.cons; (focus ((repeat (first | exact Sel.head | apply Sel.tail)); done))) | apply Sub.skip)))).sl hgb)) hT rfl rfl ?_
      clear hf; intro a hf
      refine any_takeB (i := 10) hf rfl (by kernel_rfl) (by kernel_rfl) (by kernel_rfl) (fun _ _ _ _ h => h) (Wn.none rfl) (rd_neqS hf rfl rfl rfl) hT rfl rfl ?_ ?_
      · clear hf; intro hc3 a hf
        have hd : byts La ≠ byts Lb := byts_ne hga hgb hc3
        refine any_done (by kernel_rfl) ?_
        refine t_normal ?_
        refine c_true hf rfl ?_
        refine c_seq ?_
        refine c_region ?_
        refine step_l (st_rd hf (Wn.none rfl) (rd_assign hf rfl rfl) hS rfl rfl ?_)
        clear hf; intro a hf
        refine done_l ?_
        refine t_normal ?_
        refine c_ret ?_
        refine b_ret ?_
        refine t_ret ?_
        refine t_ret ?_
        refine b_ret ?_
        refine t_ret ?_
        refine e_res1 hf.defers rfl (res_tmp hf rfl .nil) ?_
        exact ⟨congrArg Value.bool (decide_eq_false hd).symm, hS.sub (by repeat (first | exact Sub.refl | exact Sub.none | exact Sub.behind | (apply Sub.cons; (focus ((repeat (first | exact Sel.head | apply Sel.tail)); done))) | apply Sub.skip))⟩
      · clear hf; intro hc3 a hf
        have hne := hc3
        refine any_done (by kernel_rfl) ?_
        refine t_normal ?_
        refine c_false hf rfl ?_
        refine c_skip ?_
        refine b_normal ?_
        refine t_normal ?_
        refine c_region ?_
        refine step_l (st_rd hf (Wn.none rfl) (rd_add hf rfl rfl rfl (by first | exact Go.IntWalk.i64_in _ (by omega) | exact rfl)) hS rfl rfl ?_)
        clear hf; intro a hf
        refine step_l (st_rd hf (Wn.none rfl) (rd_move hf rfl rfl) hS rfl rfl ?_)
        clear hf; intro a hf
        refine done_l ?_
        refine t_normal ⟨k + 1, ((hf.back (by repeat (first | exact Behind.refl | refine Behind.skip rfl ?_)) hk0).kb hf 13 rfl (by first | rfl | exact int_eq (by omega))), ⟨hS.sub (by repeat (first | exact Sub.refl | exact Sub.none | exact Sub.behind | (apply Sub.cons; (focus ((repeat (first | exact Sel.head | apply Sel.tail)); done))) | apply Sub.skip)), ⟨by omega, byts_take hga hgb htk (Classical.not_not.1 hne)⟩⟩, by first | omega | (simp only []; omega)⟩
    · clear hf; intro hc2 a hf
      have hd : byts La = byts Lb := byts_ext hll (by omega) htk
      refine done_l ?_
      refine t_normal ?_
      refine c_seq ?_
      refine c_false hf rfl ?_
      refine c_exit ?_
      refine t_exit ?_
      refine t_exit ?_
      refine b_exit ?_
      refine t_normal ?_
      refine c_seq ?_
      refine c_region ?_
      refine step_l (st_rd hf (Wn.none rfl) (rd_assign hf rfl rfl) hS rfl rfl ?_)
      clear hf; intro a hf
      refine done_l ?_
      refine t_normal ?_
      refine c_ret ?_
      refine e_res1 hf.defers rfl (res_tmp hf rfl .nil) ?_
      exact ⟨congrArg Value.bool (decide_eq_true hd).symm, hS.sub (by repeat (first | exact Sub.refl | exact Sub.none | exact Sub.behind | (apply Sub.cons; (focus ((repeat (first | exact Sel.head | apply Sel.tail)); done))) | apply Sub.skip))⟩

set_option maxRecDepth 100000 in
set_option maxHeartbeats 1000000 in
theorem FAll_c (b : List UInt8) (qb : Option Addr) (nb cb : Nat) {W : World} {R : List HP} {w : World} (hS : Sat W (R) w) (hnb : nb = b.length) (hb : b.length ≤ 4398046511104) (hcb : b.length ≤ cb) (hvb : ∀ w, Sat W R w → SlAt w qb b.length 1 (bvs b)) : Calls Try.prog 16 [.slice qb nb cb].toArray w (Ret fun v w' => ∃ q cap L, byts L = (allB b).1 ∧ v = .tuple #[.slice q L.length cap, .int .i64 (((allB b).2.1 : Nat) : Int), .int .i64 (((allB b).2.2 : Nat) : Int)] ∧ Sat W (Rw 22 1 q L.length cap (L.map sval) :: Rws 5 L :: R) w') := by
  refine fn_start 44 Try.func16 rfl rfl rfl ?_
  intro a hf
  subst hnb
  refine c_seq ?_
  refine c_region ?_
  refine step_l (st_rd hf (Wn.none rfl) (rd_assign hf rfl rfl) hS rfl rfl ?_)
  clear hf; intro a hf
  refine step_l (st_rd hf (Wn.none rfl) (rd_assign hf rfl rfl) hS rfl rfl ?_)
  clear hf; intro a hf
  refine step_l (st_rd hf (Wn.none rfl) (rd_assign hf rfl rfl) hS rfl rfl ?_)
  clear hf; intro a hf
  refine done_l ?_
  refine t_normal ?_
  refine c_seq ?_
  refine c_region ?_
  refine step_l (st_rd hf (Wn.none rfl) (rd_assign hf rfl rfl) hS rfl rfl ?_)
  clear hf; intro a hf
  refine done_l ?_
  refine t_normal ?_
  refine c_seq ?_
  refine c_region ?_
  refine step_l (st_call hf (Wn.none rfl) rfl rfl rfl fn22 (poly_c hS) rfl rfl ?_)
  clear hf hS; rintro v a w ⟨p, rfl, hS⟩ hf
  refine step_l (st_alloc hf (Wn.none rfl) hS rfl zr49 (by rfl) rfl rfl ?_)
  clear hf hS; intro by_ a w hf hS
  refine step_l (st_store hf (Wn.none rfl) hS rfl rfl rfl (by rfl) sz49 (by rfl) (by rfl) (by repeat (first | exact Sel.head | apply Sel.tail)) (by repeat (first | exact Put.nil | apply Put.cons | apply Put.succ)) rfl ?_)
  clear hf hS; intro a w hf hS
  refine step_l (st_rd hf (Wn.none rfl) (rd_assign hf rfl rfl) hS rfl rfl ?_)
  clear hf; intro a hf
  refine done_l ?_
  refine t_normal ?_
  refine c_seq ?_
  refine c_block ?_
  have hk0 := Keep.of hf [(2, 5), (7, 10), (12, 41)] (by repeat (first | exact Keep.nil | apply Keep.drop rfl | apply Keep.take rfl))
  refine c_loopK hk0 (α := Nat × List (Sli UInt8) × Option Addr × Nat × Nat × Bool) (fun ⟨at_, L, q, n, cap, d⟩ => [(5, .slice q n cap), (7, .int .i64 (at_ : Nat))]) (fun ⟨at_, L, q, n, cap, d⟩ w => Sat W (Rw 22 1 q n cap (L.map sval) :: Rws 5 L :: Blk by_ [.pointer (some ⟨p, 0, none⟩)] 49 :: TbP 75 46 p 256 (.func (.func 36) #[] #[]) (tvals pf pg () 256) d :: R) w ∧ at_ ≤ b.length ∧ n = L.length ∧ n * 8 ≤ at_ ∧ allB b = (byts L ++ (allB (b.drop at_)).1, at_ + (allB (b.drop at_)).2.1, (allB (b.drop at_)).2.2)) (fun ⟨at_, L, q, n, cap, d⟩ => b.length - at_) (0, [], none, 0, 0, false) (((hf.keep hk0).kb hf 7 rfl (by first | rfl | exact int_eq (by omega))).kb hf 5 rfl (by first | rfl | exact int_eq (by omega))) ⟨((hS.rwsNil 5).rwNil 22 1).sub (by repeat (first | exact Sub.refl | exact Sub.none | exact Sub.behind | (apply Sub.cons; (focus ((repeat (first | exact Sel.head | apply Sel.tail)); done))) | apply Sub.skip)), ⟨by omega, rfl, by omega, by simp [byts]⟩⟩ ?_
  clear hf hS; rintro ⟨at_, L, q, n, cap, d⟩ a w hf ⟨hS, ⟨hat, hn, hn8, hinv⟩⟩; (try dsimp only [List.cons_append, List.nil_append] at hf)
  refine c_seq ?_
  refine c_seq ?_
  refine c_region ?_
  refine step_l (st_rd hf (Wn.none rfl) (rd_move hf rfl rfl) hS rfl rfl ?_)
  clear hf; intro a hf
  refine step_l (st_rd hf (Wn.none rfl) (rd_move hf rfl rfl) hS rfl rfl ?_)
  clear hf; intro a hf
  refine step_l (st_rd hf (Wn.none rfl) (rd_len hf rfl rfl Try.underlying22) hS rfl rfl ?_)
  clear hf; intro a hf
  refine step_l (st_rdB hf (Wn.none rfl) (rd_lss hf rfl rfl rfl) hS rfl rfl ?_ ?_)
  · clear hf; intro hc2 a hf
    refine done_l ?_
    refine t_normal ?_
    refine c_true hf rfl ?_
    refine c_skip ?_
    refine t_normal ?_
    refine c_block ?_
    refine c_seq ?_
    refine any_begin (S := Sat W (Rw 22 1 q n cap (L.map sval) :: Rws 5 L :: Blk by_ [.pointer (some ⟨p, 0, none⟩)] 49 :: R)) mixed (hS.drew.sub (by repeat (first | exact Sub.refl | exact Sub.none | exact Sub.behind | (apply Sub.cons; (focus ((repeat (first | exact Sel.head | apply Sel.tail)); done))) | apply Sub.skip))) ?_
    have hT : Sat W (Rw 22 1 q n cap (L.map sval) :: Rws 5 L :: Blk by_ [.pointer (some ⟨p, 0, none⟩)] 49 :: R) _ := hS.drew.sub (by repeat (first | exact Sub.refl | exact Sub.none | exact Sub.behind | (apply Sub.cons; (focus ((repeat (first | exact Sel.head | apply Sel.tail)); done))) | apply Sub.skip))
    replace hS := hS.drew
    refine any_take (i := 0) hf rfl (by kernel_rfl) (by kernel_rfl) (by kernel_rfl) (fun _ _ _ h => h) (Wn.none rfl) (rd_loadN hf rfl rfl ag49 sz49 (by intro _ h; exact loadN_of h (by repeat (first | exact Sel.head | apply Sel.tail)) (by repeat (first | exact Seg.nil | apply Seg.cons | apply Seg.succ)) )) hT rfl rfl ?_
    clear hf; intro a hf
    refine any_take (i := 1) hf rfl (by kernel_rfl) (by kernel_rfl) (by kernel_rfl) (fun _ _ _ h => h) (Wn.none rfl) (rd_move hf rfl rfl) hT rfl rfl ?_
    clear hf; intro a hf
    refine any_take (i := 2) hf rfl (by kernel_rfl) (by kernel_rfl) (by kernel_rfl) (fun _ _ _ h => h) (Wn.none rfl) (rd_move hf rfl rfl) hT rfl rfl ?_
    clear hf; intro a hf
    refine any_take (i := 3) hf rfl (by kernel_rfl) (by kernel_rfl) (by kernel_rfl) (fun _ _ _ h => h) (Wn.none rfl) (rd_sliceL hf rfl rfl rfl Try.underlying22 sz5 (by omega) (by omega)) hT rfl rfl ?_
    clear hf; intro a hf
    refine any_one (i := 4) rfl (by kernel_rfl) (st_call hf (Wn.none rfl) rfl rfl rfl fn26 (ftake_c _ _ (b.drop at_) _ _ _ (hS.sel (by repeat (first | exact Sel.head | apply Sel.tail))) (by rw [List.length_drop]; try rfl) (by rw [List.length_drop]; omega) (by rw [List.length_drop]; omega) (fun _ h => subv (at_ : Int) (hvb _ (h.sub (by repeat (first | exact Sub.refl | exact Sub.none | exact Sub.behind | (apply Sub.cons; (focus ((repeat (first | exact Sel.head | apply Sel.tail)); done))) | apply Sub.skip)))) (show at_ ≤ b.length by omega) hcb)) rfl rfl ?_)
    clear hf hS; rintro v a w ⟨qt, capt, dt, rfl, hS⟩ hf; have hEs := tkE_le (b.drop at_); have hdl : (b.drop at_).length = b.length - at_ := List.length_drop
    replace hT := hS.sub' hT (by repeat (first | exact Sub.refl | exact Sub.none | exact Sub.behind | (apply Sub.cons; (focus ((repeat (first | exact Sel.head | apply Sel.tail)); done))) | apply Sub.skip))
    refine ⟨hT, ?_⟩
    refine any_take (i := 5) hf rfl (by kernel_rfl) (by kernel_rfl) (by kernel_rfl) (fun _ _ _ h => h) (Wn.none rfl) (rd_move hf rfl rfl) hT rfl rfl ?_
    clear hf; intro a hf
    refine any_take (i := 6) hf rfl (by kernel_rfl) (by kernel_rfl) (by kernel_rfl) (fun _ _ _ h => h) (Wn.none rfl) (rd_extract hf rfl rfl rfl) hT rfl rfl ?_
    clear hf; intro a hf
    refine any_take (i := 7) hf rfl (by kernel_rfl) (by kernel_rfl) (by kernel_rfl) (fun _ _ _ h => h) (Wn.none rfl) (rd_extract hf rfl rfl rfl) hT rfl rfl ?_
    clear hf; intro a hf
    refine any_take (i := 8) hf rfl (by kernel_rfl) (by kernel_rfl) (by kernel_rfl) (fun _ _ _ h => h) (Wn.none rfl) (rd_extract hf rfl rfl rfl) hT rfl rfl ?_
    clear hf; intro a hf
    refine any_take (i := 9) hf rfl (by kernel_rfl) (by kernel_rfl) (by kernel_rfl) (fun _ _ _ h => h) (Wn.none rfl) (rd_assign hf rfl rfl) hT rfl rfl ?_
    clear hf; intro a hf
    refine any_take (i := 10) hf rfl (by kernel_rfl) (by kernel_rfl) (by kernel_rfl) (fun _ _ _ h => h) (Wn.none rfl) (rd_assign hf rfl rfl) hT rfl rfl ?_
    clear hf; intro a hf
    refine any_take (i := 11) hf rfl (by kernel_rfl) (by kernel_rfl) (by kernel_rfl) (fun _ _ _ h => h) (Wn.none rfl) (rd_assign hf rfl rfl) hT rfl rfl ?_
    clear hf; intro a hf
    refine any_done (by kernel_rfl) ?_
    refine t_normal ?_
    refine c_seq ?_
    refine c_seq ?_
    refine c_region ?_
    refine step_l (st_rd hf (Wn.none rfl) (rd_move hf rfl rfl) hS rfl rfl ?_)
    clear hf; intro a hf
    refine done_l ?_
    refine t_normal ?_
    refine c_block ?_
    refine c_seq ?_
    refine c_region ?_
    refine step_l (st_rdB hf (Wn.none rfl) (rd_eql hf rfl rfl rfl) hS rfl rfl ?_ ?_)
    · clear hf; intro hc3 a hf
      have hE : tkE (b.drop at_) = 0 := by omega
      obtain ⟨hb1, hb2, hb3, hb4⟩ := tk_bound hE
      refine step_l (st_rd hf (Wn.none rfl) (rd_assign hf rfl rfl) hS rfl rfl ?_)
      clear hf; intro a hf
      refine done_l ?_
      refine t_normal ?_
      refine c_true hf rfl ?_
      refine c_skip ?_
      refine b_normal ?_
      refine t_normal ?_
      refine c_seq ?_
      refine c_region ?_
      refine step_l (st_rd hf (Wn.none rfl) (rd_move hf rfl rfl) hS rfl rfl ?_)
      clear hf; intro a hf
      refine step_l (st_rd hf (Wn.none rfl) (rd_move hf rfl rfl) hS rfl rfl ?_)
      clear hf; intro a hf
      refine step_l (st_buildSlice hf (Wn.none rfl) hS rfl rfl Try.underlying34 sz22 zr22 (by decide) bz22_1 rfl (.cons rfl (by first | rfl) (by rfl) (by repeat (first | exact Put.nil | apply Put.cons | apply Put.succ)) .nil) rfl rfl ?_)
      clear hf hS; intro b_4 a w hf hS
      refine step_l (st_append hf (Wn.none rfl) rfl rfl rfl Try.underlying34 tyb22 (by rfl) (by decide) hS (by repeat (first | exact Sel.head | apply Sel.tail)) (by first | exact hS.slOfBlk (by repeat (first | exact Sel.head | apply Sel.tail)) (by rfl) | exact hS.slOfBlkPre (by repeat (first | exact Sel.head | apply Sel.tail)) (bvs_len1 _) | exact hS.slOfRw (by repeat (first | exact Sel.head | apply Sel.tail)) | exact SlAt.nil _ _ _) (by first | rfl | exact bvs_one _ | (simp [Value.oneCell']; done) | exact svs_one _) (by omega) rfl rfl ?_)
      clear hf hS; intro pA capA a w hf hS hnilA
      refine step_l (st_rd hf (Wn.none rfl) (rd_assign hf rfl rfl) hS rfl rfl ?_)
      clear hf; intro a hf
      refine done_l ?_
      refine t_normal ?_
      refine c_region ?_
      refine step_l (st_rd hf (Wn.none rfl) (rd_move hf rfl rfl) hS rfl rfl ?_)
      clear hf; intro a hf
      refine step_l (st_rd hf (Wn.none rfl) (rd_move hf rfl rfl) hS rfl rfl ?_)
      clear hf; intro a hf
      refine step_l (st_rd hf (Wn.none rfl) (rd_add hf rfl rfl rfl (by first | exact Go.IntWalk.i64_in _ (by omega) | exact rfl)) hS rfl rfl ?_)
      clear hf; intro a hf
      refine step_l (st_rd hf (Wn.none rfl) (rd_assign hf rfl rfl) hS rfl rfl ?_)
      clear hf; intro a hf
      refine done_l ?_
      refine b_normal ?_
      refine t_normal ⟨(at_ + tkN (b.drop at_), L ++ [(qt, capt, tkR (b.drop at_))], pA, n + 1, capA, dt), (((hf.back (by repeat (first | exact Behind.refl | refine Behind.skip rfl ?_)) hk0).kb hf 7 rfl (by first | rfl | exact int_eq (by omega))).kb hf 5 rfl (by first | rfl | exact int_eq (by omega))), ⟨(by have h3 := (hS.sels (.cons (by repeat (first | exact Sel.head | apply Sel.tail)) (.cons (by repeat (first | exact Sel.head | apply Sel.tail)) .nil)) : Sat W (Rws 5 L :: Rw 5 1 qt _ capt (bvs (tkR (b.drop at_))) :: _) _).rwsSnoc rfl; have h4 := (h3.sel (by repeat (first | exact Sel.head | apply Sel.tail)) : Sat W (Rw 22 1 pA (n + 1) capA _ :: _) _).rwCast (xs' := (L ++ [(qt, capt, tkR (b.drop at_))]).map sval) (by simp) rfl; exact h4.sub (by repeat (first | exact Sub.refl | exact Sub.none | exact Sub.behind | (apply Sub.cons; (focus ((repeat (first | exact Sel.head | apply Sel.tail)); done))) | apply Sub.skip))), ⟨by omega, by rw [List.length_append, hn]; rfl, by omega, by rw [byts_snoc]; exact allB_next hinv hE⟩⟩, by first | omega | (simp only []; omega)⟩
    · clear hf; intro hc3 a hf
      refine step_l (st_rd hf (Wn.none rfl) (rd_assign hf rfl rfl) hS rfl rfl ?_)
      clear hf; intro a hf
      refine done_l ?_
      refine t_normal ?_
      refine c_false hf rfl ?_
      refine c_seq ?_
      refine c_region ?_
      refine step_l (st_rdB hf (Wn.none rfl) (rd_eql hf rfl rfl rfl) hS rfl rfl ?_ ?_)
      · clear hf; intro hc6 a hf
        refine step_l (st_rd hf (Wn.none rfl) (rd_assign hf rfl rfl) hS rfl rfl ?_)
        clear hf; intro a hf
        refine done_l ?_
        refine t_normal ?_
        refine c_true hf rfl ?_
        refine c_seq ?_
        refine c_region ?_
        refine step_l (st_rd hf (Wn.none rfl) (rd_move hf rfl rfl) hS rfl rfl ?_)
        clear hf; intro a hf
        refine step_l (st_rd hf (Wn.none rfl) (rd_move hf rfl rfl) hS rfl rfl ?_)
        clear hf; intro a hf
        refine step_l (st_rd hf (Wn.none rfl) (rd_assign hf rfl rfl) hS rfl rfl ?_)
        clear hf; intro a hf
        refine step_l (st_rd hf (Wn.none rfl) (rd_assign hf rfl rfl) hS rfl rfl ?_)
        clear hf; intro a hf
        refine step_l (st_rd hf (Wn.none rfl) (rd_assign hf rfl rfl) hS rfl rfl ?_)
        clear hf; intro a hf
        refine done_l ?_
        refine t_normal ?_
        refine c_ret ?_
        refine b_ret ?_
        refine t_ret ?_
        refine b_ret ?_
        refine t_ret ?_
        refine b_ret ?_
        refine t_ret ?_
        refine e_resN hf.defers rfl (res_tmp hf rfl (res_tmp hf rfl (res_tmp hf rfl .nil))) ?_
        have h5 := allB_stop hinv (by omega); subst hn
        rw [h5]
        exact ⟨_, _, L, rfl, by rw [if_pos (show tkE (b.drop at_) = 2 by omega)]; rfl, hS.sub (by repeat (first | exact Sub.refl | exact Sub.none | exact Sub.behind | (apply Sub.cons; (focus ((repeat (first | exact Sel.head | apply Sel.tail)); done))) | apply Sub.skip))⟩
      · clear hf; intro hc6 a hf
        refine step_l (st_rd hf (Wn.none rfl) (rd_assign hf rfl rfl) hS rfl rfl ?_)
        clear hf; intro a hf
        refine done_l ?_
        refine t_normal ?_
        refine c_false hf rfl ?_
        refine c_seq ?_
        refine c_region ?_
        refine step_l (st_rd hf (Wn.none rfl) (rd_move hf rfl rfl) hS rfl rfl ?_)
        clear hf; intro a hf
        refine step_l (st_rd hf (Wn.none rfl) (rd_move hf rfl rfl) hS rfl rfl ?_)
        clear hf; intro a hf
        refine step_l (st_rd hf (Wn.none rfl) (rd_move hf rfl rfl) hS rfl rfl ?_)
        clear hf; intro a hf
        refine step_l (st_rd hf (Wn.none rfl) (rd_assign hf rfl rfl) hS rfl rfl ?_)
        clear hf; intro a hf
        refine step_l (st_rd hf (Wn.none rfl) (rd_assign hf rfl rfl) hS rfl rfl ?_)
        clear hf; intro a hf
        refine step_l (st_rd hf (Wn.none rfl) (rd_assign hf rfl rfl) hS rfl rfl ?_)
        clear hf; intro a hf
        refine done_l ?_
        refine t_normal ?_
        refine c_ret ?_
        refine b_ret ?_
        refine t_ret ?_
        refine b_ret ?_
        refine t_ret ?_
        refine b_ret ?_
        refine t_ret ?_
        refine e_resN hf.defers rfl (res_tmp hf rfl (res_tmp hf rfl (res_tmp hf rfl .nil))) ?_
        have h5 := allB_stop hinv (by omega); subst hn
        rw [h5]
        exact ⟨_, _, L, rfl, by rw [if_neg (show ¬ tkE (b.drop at_) = 2 by omega)], hS.sub (by repeat (first | exact Sub.refl | exact Sub.none | exact Sub.behind | (apply Sub.cons; (focus ((repeat (first | exact Sel.head | apply Sel.tail)); done))) | apply Sub.skip))⟩
  · clear hf; intro hc2 a hf
    obtain rfl : at_ = b.length := by omega
    have hE2 : tkE (b.drop b.length) = 2 := by rw [List.drop_length]; exact tk_short (by simp)
    refine done_l ?_
    refine t_normal ?_
    refine c_false hf rfl ?_
    refine c_exit ?_
    refine t_exit ?_
    refine t_exit ?_
    refine b_exit ?_
    refine t_normal ?_
    refine c_seq ?_
    refine c_region ?_
    refine step_l (st_rd hf (Wn.none rfl) (rd_move hf rfl rfl) hS rfl rfl ?_)
    clear hf; intro a hf
    refine step_l (st_rd hf (Wn.none rfl) (rd_move hf rfl rfl) hS rfl rfl ?_)
    clear hf; intro a hf
    refine step_l (st_rd hf (Wn.none rfl) (rd_assign hf rfl rfl) hS rfl rfl ?_)
    clear hf; intro a hf
    refine step_l (st_rd hf (Wn.none rfl) (rd_assign hf rfl rfl) hS rfl rfl ?_)
    clear hf; intro a hf
    refine step_l (st_rd hf (Wn.none rfl) (rd_assign hf rfl rfl) hS rfl rfl ?_)
    clear hf; intro a hf
    refine done_l ?_
    refine t_normal ?_
    refine c_ret ?_
    refine e_resN hf.defers rfl (res_tmp hf rfl (res_tmp hf rfl (res_tmp hf rfl .nil))) ?_
    have h5 := allB_stop hinv (by omega); subst hn
    rw [h5]
    exact ⟨_, _, L, rfl, by rw [if_pos hE2]; rfl, hS.sub (by repeat (first | exact Sub.refl | exact Sub.none | exact Sub.behind | (apply Sub.cons; (focus ((repeat (first | exact Sel.head | apply Sel.tail)); done))) | apply Sub.skip))⟩

set_option maxRecDepth 100000 in
set_option maxHeartbeats 1000000 in
theorem RAll_c (b : List UInt8) (qb : Option Addr) (nb cb : Nat) {W : World} {R : List HP} {w : World} (hS : Sat W (R) w) (hnb : nb = b.length) (hb : b.length ≤ 4398046511104) (hcb : b.length ≤ cb) (hvb : ∀ w, Sat W R w → SlAt w qb b.length 1 (bvs b)) : Calls Try.prog 17 [.slice qb nb cb].toArray w (Ret fun v w' => ∃ q cap L, byts L = (allB b).1 ∧ v = .tuple #[.slice q L.length cap, .int .i64 (((allB b).2.1 : Nat) : Int), .int .i64 (((allB b).2.2 : Nat) : Int)] ∧ Sat W (Rw 22 1 q L.length cap (L.map sval) :: Rws 5 L :: R) w') := by
  refine fn_start 34 Try.func17 rfl rfl rfl ?_
  intro a hf
  subst hnb
  refine c_seq ?_
  refine c_region ?_
  refine step_l (st_rd hf (Wn.none rfl) (rd_assign hf rfl rfl) hS rfl rfl ?_)
  clear hf; intro a hf
  refine step_l (st_rd hf (Wn.none rfl) (rd_assign hf rfl rfl) hS rfl rfl ?_)
  clear hf; intro a hf
  refine step_l (st_rd hf (Wn.none rfl) (rd_assign hf rfl rfl) hS rfl rfl ?_)
  clear hf; intro a hf
  refine done_l ?_
  refine t_normal ?_
  refine c_seq ?_
  refine c_region ?_
  refine step_l (st_rd hf (Wn.none rfl) (rd_assign hf rfl rfl) hS rfl rfl ?_)
  clear hf; intro a hf
  refine done_l ?_
  refine t_normal ?_
  refine c_seq ?_
  refine c_region ?_
  refine step_l (st_rd hf (Wn.none rfl) (rd_assign hf rfl rfl) hS rfl rfl ?_)
  clear hf; intro a hf
  refine done_l ?_
  refine t_normal ?_
  refine c_block ?_
  have hk0 := Keep.of hf [(2, 33)] (by repeat (first | exact Keep.nil | apply Keep.drop rfl | apply Keep.take rfl))
  refine c_loopK hk0 (α := Nat × List (Sli UInt8) × Option Addr × Nat × Nat) (fun ⟨at_, L, q, n, cap⟩ => [(5, .slice q n cap), (6, .int .i64 (at_ : Nat))]) (fun ⟨at_, L, q, n, cap⟩ w => Sat W (Rw 22 1 q n cap (L.map sval) :: Rws 5 L :: R) w ∧ at_ ≤ b.length ∧ n = L.length ∧ n * 8 ≤ at_ ∧ allB b = (byts L ++ (allB (b.drop at_)).1, at_ + (allB (b.drop at_)).2.1, (allB (b.drop at_)).2.2)) (fun ⟨at_, L, q, n, cap⟩ => b.length - at_) (0, [], none, 0, 0) (((hf.keep hk0).kb hf 6 rfl (by first | rfl | exact int_eq (by omega))).kb hf 5 rfl (by first | rfl | exact int_eq (by omega))) ⟨((hS.rwsNil 5).rwNil 22 1).sub (by repeat (first | exact Sub.refl | exact Sub.none | exact Sub.behind | (apply Sub.cons; (focus ((repeat (first | exact Sel.head | apply Sel.tail)); done))) | apply Sub.skip)), ⟨by omega, rfl, by omega, by simp [byts]⟩⟩ ?_
  clear hf hS; rintro ⟨at_, L, q, n, cap⟩ a w hf ⟨hS, ⟨hat, hn, hn8, hinv⟩⟩; (try dsimp only [List.cons_append, List.nil_append] at hf)
  refine c_block ?_
  refine c_seq ?_
  refine c_region ?_
  refine step_l (st_rd hf (Wn.none rfl) (rd_move hf rfl rfl) hS rfl rfl ?_)
  clear hf; intro a hf
  refine step_l (st_rd hf (Wn.none rfl) (rd_move hf rfl rfl) hS rfl rfl ?_)
  clear hf; intro a hf
  refine step_l (st_rd hf (Wn.none rfl) (rd_sliceL hf rfl rfl rfl Try.underlying22 sz5 (by omega) (by omega)) hS rfl rfl ?_)
  clear hf; intro a hf
  refine step_l (st_call hf (Wn.none rfl) rfl rfl rfl fn15 (RTake_c (b.drop at_) _ _ _ hS (by rw [List.length_drop]; try rfl) (by rw [List.length_drop]; omega) (by rw [List.length_drop]; omega) (fun _ h => subv (at_ : Int) (hvb _ (h.sub (by repeat (first | exact Sub.refl | exact Sub.none | exact Sub.behind | (apply Sub.cons; (focus ((repeat (first | exact Sel.head | apply Sel.tail)); done))) | apply Sub.skip)))) (show at_ ≤ b.length by omega) hcb)) rfl rfl ?_)
  clear hf hS; rintro v a w ⟨qt, capt, rfl, hS⟩ hf; have hEs := tkE_le (b.drop at_); have hdl : (b.drop at_).length = b.length - at_ := List.length_drop
  refine step_l (st_rd hf (Wn.none rfl) (rd_move hf rfl rfl) hS rfl rfl ?_)
  clear hf; intro a hf
  refine step_l (st_rd hf (Wn.none rfl) (rd_extract hf rfl rfl rfl) hS rfl rfl ?_)
  clear hf; intro a hf
  refine step_l (st_rd hf (Wn.none rfl) (rd_extract hf rfl rfl rfl) hS rfl rfl ?_)
  clear hf; intro a hf
  refine step_l (st_rd hf (Wn.none rfl) (rd_extract hf rfl rfl rfl) hS rfl rfl ?_)
  clear hf; intro a hf
  refine step_l (st_rd hf (Wn.none rfl) (rd_assign hf rfl rfl) hS rfl rfl ?_)
  clear hf; intro a hf
  refine step_l (st_rd hf (Wn.none rfl) (rd_assign hf rfl rfl) hS rfl rfl ?_)
  clear hf; intro a hf
  refine step_l (st_rd hf (Wn.none rfl) (rd_assign hf rfl rfl) hS rfl rfl ?_)
  clear hf; intro a hf
  refine done_l ?_
  refine t_normal ?_
  refine c_seq ?_
  refine c_seq ?_
  refine c_region ?_
  refine step_l (st_rd hf (Wn.none rfl) (rd_move hf rfl rfl) hS rfl rfl ?_)
  clear hf; intro a hf
  refine step_l (st_rdB hf (Wn.none rfl) (rd_eql hf rfl rfl rfl) hS rfl rfl ?_ ?_)
  · clear hf; intro hc1 a hf
    refine done_l ?_
    refine t_normal ?_
    refine c_true hf rfl ?_
    refine c_seq ?_
    refine c_region ?_
    refine step_l (st_rd hf (Wn.none rfl) (rd_move hf rfl rfl) hS rfl rfl ?_)
    clear hf; intro a hf
    refine step_l (st_rd hf (Wn.none rfl) (rd_move hf rfl rfl) hS rfl rfl ?_)
    clear hf; intro a hf
    refine step_l (st_rd hf (Wn.none rfl) (rd_assign hf rfl rfl) hS rfl rfl ?_)
    clear hf; intro a hf
    refine step_l (st_rd hf (Wn.none rfl) (rd_assign hf rfl rfl) hS rfl rfl ?_)
    clear hf; intro a hf
    refine step_l (st_rd hf (Wn.none rfl) (rd_assign hf rfl rfl) hS rfl rfl ?_)
    clear hf; intro a hf
    refine done_l ?_
    refine t_normal ?_
    refine c_ret ?_
    refine t_ret ?_
    refine b_ret ?_
    refine t_ret ?_
    refine b_ret ?_
    refine e_resN hf.defers rfl (res_tmp hf rfl (res_tmp hf rfl (res_tmp hf rfl .nil))) ?_
    have h5 := allB_stop hinv (by omega); subst hn
    rw [h5]
    exact ⟨_, _, L, rfl, by rw [if_pos (show tkE (b.drop at_) = 2 by omega)]; rfl, hS.sub (by repeat (first | exact Sub.refl | exact Sub.none | exact Sub.behind | (apply Sub.cons; (focus ((repeat (first | exact Sel.head | apply Sel.tail)); done))) | apply Sub.skip))⟩
  · clear hf; intro hc1 a hf
    refine done_l ?_
    refine t_normal ?_
    refine c_false hf rfl ?_
    refine c_skip ?_
    refine t_normal ?_
    refine c_seq ?_
    refine c_seq ?_
    refine c_region ?_
    refine step_l (st_rd hf (Wn.none rfl) (rd_move hf rfl rfl) hS rfl rfl ?_)
    clear hf; intro a hf
    refine step_l (st_rdB hf (Wn.none rfl) (rd_neq hf rfl rfl rfl) hS rfl rfl ?_ ?_)
    · clear hf; intro hc2 a hf
      refine done_l ?_
      refine t_normal ?_
      refine c_true hf rfl ?_
      refine c_seq ?_
      refine c_region ?_
      refine step_l (st_rd hf (Wn.none rfl) (rd_move hf rfl rfl) hS rfl rfl ?_)
      clear hf; intro a hf
      refine step_l (st_rd hf (Wn.none rfl) (rd_move hf rfl rfl) hS rfl rfl ?_)
      clear hf; intro a hf
      refine step_l (st_rd hf (Wn.none rfl) (rd_move hf rfl rfl) hS rfl rfl ?_)
      clear hf; intro a hf
      refine step_l (st_rd hf (Wn.none rfl) (rd_assign hf rfl rfl) hS rfl rfl ?_)
      clear hf; intro a hf
      refine step_l (st_rd hf (Wn.none rfl) (rd_assign hf rfl rfl) hS rfl rfl ?_)
      clear hf; intro a hf
      refine step_l (st_rd hf (Wn.none rfl) (rd_assign hf rfl rfl) hS rfl rfl ?_)
      clear hf; intro a hf
      refine done_l ?_
      refine t_normal ?_
      refine c_ret ?_
      refine t_ret ?_
      refine b_ret ?_
      refine t_ret ?_
      refine b_ret ?_
      refine e_resN hf.defers rfl (res_tmp hf rfl (res_tmp hf rfl (res_tmp hf rfl .nil))) ?_
      have h5 := allB_stop hinv (by omega); subst hn
      rw [h5]
      exact ⟨_, _, L, rfl, by rw [if_neg (show ¬ tkE (b.drop at_) = 2 by omega)], hS.sub (by repeat (first | exact Sub.refl | exact Sub.none | exact Sub.behind | (apply Sub.cons; (focus ((repeat (first | exact Sel.head | apply Sel.tail)); done))) | apply Sub.skip))⟩
    · clear hf; intro hc2 a hf
      have hE : tkE (b.drop at_) = 0 := by omega
      obtain ⟨hb1, hb2, hb3, hb4⟩ := tk_bound hE
      refine done_l ?_
      refine t_normal ?_
      refine c_false hf rfl ?_
      refine c_skip ?_
      refine t_normal ?_
      refine c_seq ?_
      refine c_region ?_
      refine step_l (st_rd hf (Wn.none rfl) (rd_move hf rfl rfl) hS rfl rfl ?_)
      clear hf; intro a hf
      refine step_l (st_rd hf (Wn.none rfl) (rd_move hf rfl rfl) hS rfl rfl ?_)
      clear hf; intro a hf
      refine step_l (st_buildSlice hf (Wn.none rfl) hS rfl rfl Try.underlying34 sz22 zr22 (by decide) bz22_1 rfl (.cons rfl (by first | rfl) (by rfl) (by repeat (first | exact Put.nil | apply Put.cons | apply Put.succ)) .nil) rfl rfl ?_)
      clear hf hS; intro b_3 a w hf hS
      refine step_l (st_append hf (Wn.none rfl) rfl rfl rfl Try.underlying34 tyb22 (by rfl) (by decide) hS (by repeat (first | exact Sel.head | apply Sel.tail)) (by first | exact hS.slOfBlk (by repeat (first | exact Sel.head | apply Sel.tail)) (by rfl) | exact hS.slOfBlkPre (by repeat (first | exact Sel.head | apply Sel.tail)) (bvs_len1 _) | exact hS.slOfRw (by repeat (first | exact Sel.head | apply Sel.tail)) | exact SlAt.nil _ _ _) (by first | rfl | exact bvs_one _ | (simp [Value.oneCell']; done) | exact svs_one _) (by omega) rfl rfl ?_)
      clear hf hS; intro pA capA a w hf hS hnilA
      refine step_l (st_rd hf (Wn.none rfl) (rd_assign hf rfl rfl) hS rfl rfl ?_)
      clear hf; intro a hf
      refine done_l ?_
      refine t_normal ?_
      refine c_region ?_
      refine step_l (st_rd hf (Wn.none rfl) (rd_move hf rfl rfl) hS rfl rfl ?_)
      clear hf; intro a hf
      refine step_l (st_rd hf (Wn.none rfl) (rd_move hf rfl rfl) hS rfl rfl ?_)
      clear hf; intro a hf
      refine step_l (st_rd hf (Wn.none rfl) (rd_add hf rfl rfl rfl (by first | exact Go.IntWalk.i64_in _ (by omega) | exact rfl)) hS rfl rfl ?_)
      clear hf; intro a hf
      refine step_l (st_rd hf (Wn.none rfl) (rd_assign hf rfl rfl) hS rfl rfl ?_)
      clear hf; intro a hf
      refine done_l ?_
      refine b_normal ?_
      refine t_normal ⟨(at_ + tkN (b.drop at_), L ++ [(qt, capt, tkR (b.drop at_))], pA, n + 1, capA), (((hf.back (by repeat (first | exact Behind.refl | refine Behind.skip rfl ?_)) hk0).kb hf 6 rfl (by first | rfl | exact int_eq (by omega))).kb hf 5 rfl (by first | rfl | exact int_eq (by omega))), ⟨(by have h3 := (hS.sels (.cons (by repeat (first | exact Sel.head | apply Sel.tail)) (.cons (by repeat (first | exact Sel.head | apply Sel.tail)) .nil)) : Sat W (Rws 5 L :: Rw 5 1 qt _ capt (bvs (tkR (b.drop at_))) :: _) _).rwsSnoc rfl; have h4 := (h3.sel (by repeat (first | exact Sel.head | apply Sel.tail)) : Sat W (Rw 22 1 pA (n + 1) capA _ :: _) _).rwCast (xs' := (L ++ [(qt, capt, tkR (b.drop at_))]).map sval) (by simp) rfl; exact h4.sub (by repeat (first | exact Sub.refl | exact Sub.none | exact Sub.behind | (apply Sub.cons; (focus ((repeat (first | exact Sel.head | apply Sel.tail)); done))) | apply Sub.skip))), ⟨by omega, by rw [List.length_append, hn]; rfl, by omega, by rw [byts_snoc]; exact allB_next hinv hE⟩⟩, by first | omega | (simp only []; omega)⟩

theorem PutA_c (b : List UInt8) (qb : Option Addr) (nb cb : Nat) (r : List UInt8) (qr : Option Addr) (nr cr : Nat) {W : World} {R : List HP} {w : World} (hS : Sat W R w) (hnb : nb = b.length) (hb : b.length ≤ 140737488355328) (hvb : ∀ w, Sat W R w → SlAt w qb b.length 1 (bvs b)) (hnr : nr = r.length) (hvr : ∀ w, Sat W R w → SlAt w qr r.length 1 (bvs r)) :
    Calls Try.prog 10 [.slice qb nb cb, .slice qr nr cr].toArray w (Ret fun v w' => ∃ q cap, v = .tuple #[.slice q (putB b r).length cap, .int .i64 ((putE r : Nat) : Int)] ∧ Sat W (Rw 5 1 q (putB b r).length cap (bvs (putB b r)) :: R) w') := by
  by_cases h : r.length ≤ 60000
  · obtain ⟨e1, e2⟩ := put_yes (b := b) h
    rw [e1, e2]
    exact Put_c b qb nb cb r qr nr cr hS hnb hb hvb hnr h hvr
  · obtain ⟨e1, e2⟩ := put_no (b := b) (r := r) (by omega)
    rw [e1, e2]
    refine (PutLong_c qb nb cb qr nr cr hS (by omega)).mono fun e w' he => ?_
    cases e with
    | returned v => obtain ⟨h1, h2⟩ := he; exact ⟨none, 0, h1, h2.rwNil 5 1⟩
    | panicked c => exact he.elim
    | outgrown => exact he.elim
end Go.Proofs.Ytbfjfffeeelikaa
