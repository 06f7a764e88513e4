/-
  The statement LazyMakes, walked.
  Conditions: none.
-/
import Derived.Test.YtmjfmcgpmlfnbaaLazy1
import Derived.Test.YtmjfmcgpmlfnbaaLz2
import Derived.Test.YtmjfmcgpmlfnbaaFs1
namespace Go.Proofs.Ytmjfmcgpmlfnbaa
open Go Go.Sl
set_option linter.unusedVariables false
set_option linter.unusedSimpArgs false
theorem ag4 : aggO Try.prog 4 = some false := by kernel_rfl
theorem bz5_9 : ((Array.range (9 * 1)).map (fun j => ((.int .u8 0 : Value)).cells[j % ((.int .u8 0 : Value)).cells.size]!)) = ([.int .u8 0, .int .u8 0, .int .u8 0, .int .u8 0, .int .u8 0, .int .u8 0, .int .u8 0, .int .u8 0, .int .u8 0] : List Value).toArray := by kernel_rfl
theorem fn11 : fnB Try.prog 11 = true := by kernel_rfl
theorem fn15 : fnB Try.prog 15 = true := by kernel_rfl
theorem fn17 : fnB Try.prog 17 = true := by kernel_rfl
theorem fn18 : fnB Try.prog 18 = true := by kernel_rfl
theorem fn23 : fnB Try.prog 23 = true := by kernel_rfl
theorem sz3 : (Try.prog.info? 3).map (·.size) = some 1 := by kernel_rfl
theorem sz4 : (Try.prog.info? 4).map (·.size) = some 1 := by kernel_rfl
theorem zr3 : (Try.prog.info? 3).bind (·.zero) = some (.int .i64 0) := by kernel_rfl
theorem zr4 : (Try.prog.info? 4).bind (·.zero) = some (.bool false) := by kernel_rfl
theorem zr5 : (Try.prog.info? 5).bind (·.zero) = some (.int .u8 0) := by kernel_rfl
theorem awake_c  {W : World} {R : List HP} {w : World} (hS : Sat W (R) w)  : Calls Try.prog 15 [].toArray w (Ret fun v w' => v = .bool true ∧ Sat W R w') := by
 refine fn_start 6 Try.func15 rfl rfl rfl ?_
 intro a hf
 refine c_seq ?_
 refine c_region ?_
 refine step_l (st_rd hf (Wn.none rfl) (rd_assign hf rfl rfl) hS rfl rfl ?_)
 clear hf; intro a hf
 refine done_l ?_
 refine t_normal ?_
 refine c_seq ?_
 refine c_region ?_
 refine step_l (st_call hf (Wn.none rfl) rfl rfl rfl fn11 (Poly_c hS) rfl rfl ?_)
 clear hf hS; rintro v a w ⟨pt_1, rfl, hS⟩ hf
 refine step_l (st_buildRw hf (Wn.none rfl) hS rfl rfl Try.underlying38 sz5 zr5 (by decide) (by decide) bz5_9 rfl (.cons rfl (by first | rfl) (by rfl) (by repeat (first | exact Put.nil | apply Put.cons | apply Put.succ)) (.cons rfl (by first | rfl) (by rfl) (by repeat (first | exact Put.nil | apply Put.cons | apply Put.succ)) (.cons rfl (by first | rfl) (by rfl) (by repeat (first | exact Put.nil | apply Put.cons | apply Put.succ)) (.cons rfl (by first | rfl) (by rfl) (by repeat (first | exact Put.nil | apply Put.cons | apply Put.succ)) (.cons rfl (by first | rfl) (by rfl) (by repeat (first | exact Put.nil | apply Put.cons | apply Put.succ)) (.cons rfl (by first | rfl) (by rfl) (by repeat (first | exact Put.nil | apply Put.cons | apply Put.succ)) (.cons rfl (by first | rfl) (by rfl) (by repeat (first | exact Put.nil | apply Put.cons | apply Put.succ)) (.cons rfl (by first | rfl) (by rfl) (by repeat (first | exact Put.nil | apply Put.cons | apply Put.succ)) (.cons rfl (by first | rfl) (by rfl) (by repeat (first | exact Put.nil | apply Put.cons | apply Put.succ)) .nil))))))))) rfl rfl rfl ?_)
 clear hf hS; intro b_2 a w hf hS
 refine step_l (st_conv hf (Wn.none rfl) hS rfl rfl Try.underlying38 Try.underlying5 (by repeat (first | exact Sel.head | apply Sel.tail)) rfl rfl ?_)
 clear hf hS; intro a w hf hS
 refine step_l (st_call hf (Wn.none rfl) rfl rfl rfl fn23 (SumP_c _ _ [49, 50, 51, 52, 53, 54, 55, 56, 57] _ _ _ (hS.sel (by repeat (first | exact Sel.head | apply Sel.tail))) rfl (by simp) (fun _ h => h.slOfBlk (by repeat (first | exact Sel.head | apply Sel.tail)) (by rfl))) rfl rfl ?_)
 clear hf hS; rintro v a w ⟨rfl, ds_3, hS⟩ hf
 refine step_l (st_rd hf (Wn.none rfl) (rd_eql hf rfl rfl rfl) hS rfl rfl ?_)
 clear hf; intro a hf
 refine step_l (st_rd hf (Wn.none rfl) (rd_assign hf rfl rfl) hS rfl rfl ?_)
 clear hf; intro a hf
 refine done_l ?_
 refine t_normal ?_
 refine c_ret ?_
 refine e_res1 hf.defers rfl (res_tmp hf rfl .nil) ?_
 exact ⟨congrArg Value.bool (decide_eq_true (by rw [crc_awake]; rfl)), hS.sub (by repeat (first | exact Sub.refl | exact Sub.none | exact Sub.behind | (apply Sub.cons; (focus ((repeat (first | exact Sel.head | apply Sel.tail)); done))) | apply Sub.skip))⟩

def mkM (T1 T2 bc br : Nat) (k : Nat) : HP := All [Blk bc [.int .i64 (k : Nat)] T1, Blk br [.bool true] T2]
theorem mk1_c (bc br by_ k : Nat) (y : B32) {W : World} {R : List HP} {w : World} (hS : Sat W (Blk bc [.int .i64 (k : Nat)] 3 :: Blk br [.bool true] 4 :: R) w) (hk : k < 4096) (hy : ∀ w, Sat W R w → w.cell? ⟨by_, 0, none⟩ = some (u32v y)) : Calls Try.prog 17 [.int .i64 (k : Nat), .pointer (some ⟨br, 0, none⟩), .pointer (some ⟨bc, 0, none⟩), .pointer (some ⟨by_, 0, none⟩)].toArray w (Ret fun v w' => v = u32v (BitVec.ofNat 32 k * y) ∧ Sat W (Blk bc [.int .i64 ((k + 1 : Nat) : Int)] 3 :: Blk br [.bool true] 4 :: R) w') := by
 refine fn_start 18 Try.func17 rfl rfl rfl ?_
 intro a hf
 refine c_seq ?_
 refine c_region ?_
 refine step_l (st_rd hf (Wn.none rfl) (rd_assign hf rfl rfl) hS rfl rfl ?_)
 clear hf; intro a hf
 refine done_l ?_
 refine t_normal ?_
 refine c_seq ?_
 refine c_region ?_
 refine step_l (st_rdb hf (Wn.none rfl) (rd_load1 hf rfl rfl ag4 (by intro _ h; first | exact h.cell (by repeat (first | exact Sel.head | apply Sel.tail)) (by rfl))) hS rfl rfl ?_ ?_)
 ·
  clear hf; intro hc1 a hf
  first
  | (first | exact Bool.noConfusion hc1 | exact absurd rfl hc1; done)
  | (
   refine step_l (st_rd hf (Wn.none rfl) (rd_move hf rfl rfl) hS rfl rfl ?_)
   clear hf; intro a hf
   refine step_l (st_rd hf (Wn.some hf rfl rfl rfl rfl) (rd_move hf rfl rfl) hS rfl rfl ?_)
   clear hf; intro a hf
   refine step_l (st_rd hf (Wn.some hf rfl rfl rfl rfl) (rd_load1 hf rfl rfl ag3 (by intro _ h; first | exact h.cell (by repeat (first | exact Sel.head | apply Sel.tail)) (by rfl))) hS rfl rfl ?_)
   clear hf; intro a hf
   refine step_l (st_rd hf (Wn.some hf rfl rfl rfl rfl) (rd_eql hf rfl rfl rfl) hS rfl rfl ?_)
   clear hf; intro a hf
   refine step_l (st_rd hf (Wn.none rfl) (rd_pick_t hf rfl rfl rfl) hS rfl rfl ?_)
   clear hf; intro a hf
   refine step_l (st_store hf (Wn.none rfl) hS rfl rfl rfl (by rfl) sz4 (by rfl) (by rfl) (by repeat (first | exact Sel.head | apply Sel.tail)) (by repeat (first | exact Put.nil | apply Put.cons | apply Put.succ)) rfl ?_)
   clear hf hS; intro a w hf hS
   refine done_l ?_
   rw [decide_eq_true (show ((k : Nat) : Int) = k from rfl)] at hS
   refine t_normal ?_
   refine c_seq ?_
   refine c_region ?_
   refine step_l (st_rd hf (Wn.none rfl) (rd_load1 hf rfl rfl ag3 (by intro _ h; first | exact h.cell (by repeat (first | exact Sel.head | apply Sel.tail)) (by rfl))) hS rfl rfl ?_)
   clear hf; intro a hf
   refine step_l (st_rd hf (Wn.none rfl) (rd_add hf rfl rfl rfl (i64_add1 (by omega))) hS rfl rfl ?_)
   clear hf; intro a hf
   refine step_l (st_store hf (Wn.none rfl) hS rfl rfl rfl (by rfl) sz3 (by rfl) (by rfl) (by repeat (first | exact Sel.head | apply Sel.tail)) (by repeat (first | exact Put.nil | apply Put.cons | apply Put.succ)) rfl ?_)
   clear hf hS; intro a w hf hS
   refine done_l ?_
   refine t_normal ?_
   refine c_seq ?_
   refine c_region ?_
   refine step_l (st_rd hf (Wn.none rfl) (rd_move hf rfl rfl) hS rfl rfl ?_)
   clear hf; intro a hf
   refine step_l (st_rd hf (Wn.none rfl) (rd_convInt hf rfl rfl Try.underlying3 Try.underlying24 (n32_nat _)) hS rfl rfl ?_)
   clear hf; intro a hf
   refine step_l (st_rd hf (Wn.none rfl) (rd_load1 hf rfl rfl ag24 (by intro _ h; exact hy _ (h.sub (by repeat (first | exact Sub.refl | exact Sub.none | exact Sub.behind | (apply Sub.cons; (focus ((repeat (first | exact Sel.head | apply Sel.tail)); done))) | apply Sub.skip))))) hS rfl rfl ?_)
   clear hf; intro a hf
   refine step_l (st_rd hf (Wn.none rfl) (rd_mul hf rfl rfl rfl (n32_mulv _ _)) hS rfl rfl ?_)
   clear hf; intro a hf
   refine step_l (st_rd hf (Wn.none rfl) (rd_assign hf rfl rfl) hS rfl rfl ?_)
   clear hf; intro a hf
   refine done_l ?_
   refine t_normal ?_
   refine c_ret ?_
   refine e_res1 hf.defers rfl (res_tmp hf rfl .nil) ?_
   exact ⟨rfl, hS.sub (by repeat (first | exact Sub.refl | exact Sub.none | exact Sub.behind | (apply Sub.cons; (focus ((repeat (first | exact Sel.head | apply Sel.tail)); done))) | apply Sub.skip))⟩
   )
 ·
  clear hf; intro hc1 a hf
  first
  | (first | exact Bool.noConfusion hc1 | exact absurd rfl hc1; done)
  | (
   refine step_l (st_rd hf (Wn.none rfl) (rd_move hf rfl rfl) hS rfl rfl ?_)
   clear hf; intro a hf
   refine step_l (st_skip hf (Wn.some hf rfl rfl rfl rfl) rfl rfl ?_)
   clear hf; intro a hf
   refine step_l (st_skip hf (Wn.some hf rfl rfl rfl rfl) rfl rfl ?_)
   clear hf; intro a hf
   refine step_l (st_skip hf (Wn.some hf rfl rfl rfl rfl) rfl rfl ?_)
   clear hf; intro a hf
   refine step_l (st_rd hf (Wn.none rfl) (rd_pick_f hf rfl rfl rfl) hS rfl rfl ?_)
   clear hf; intro a hf
   refine step_l (st_store hf (Wn.none rfl) hS rfl rfl rfl (by rfl) sz4 (by rfl) (by rfl) (by repeat (first | exact Sel.head | apply Sel.tail)) (by repeat (first | exact Put.nil | apply Put.cons | apply Put.succ)) rfl ?_)
   clear hf hS; intro a w hf hS
   refine done_l ?_
   rw [decide_eq_true (show ((k : Nat) : Int) = k from rfl)] at hS
   refine t_normal ?_
   refine c_seq ?_
   refine c_region ?_
   refine step_l (st_rd hf (Wn.none rfl) (rd_load1 hf rfl rfl ag3 (by intro _ h; first | exact h.cell (by repeat (first | exact Sel.head | apply Sel.tail)) (by rfl))) hS rfl rfl ?_)
   clear hf; intro a hf
   refine step_l (st_rd hf (Wn.none rfl) (rd_add hf rfl rfl rfl (i64_add1 (by omega))) hS rfl rfl ?_)
   clear hf; intro a hf
   refine step_l (st_store hf (Wn.none rfl) hS rfl rfl rfl (by rfl) sz3 (by rfl) (by rfl) (by repeat (first | exact Sel.head | apply Sel.tail)) (by repeat (first | exact Put.nil | apply Put.cons | apply Put.succ)) rfl ?_)
   clear hf hS; intro a w hf hS
   refine done_l ?_
   refine t_normal ?_
   refine c_seq ?_
   refine c_region ?_
   refine step_l (st_rd hf (Wn.none rfl) (rd_move hf rfl rfl) hS rfl rfl ?_)
   clear hf; intro a hf
   refine step_l (st_rd hf (Wn.none rfl) (rd_convInt hf rfl rfl Try.underlying3 Try.underlying24 (n32_nat _)) hS rfl rfl ?_)
   clear hf; intro a hf
   refine step_l (st_rd hf (Wn.none rfl) (rd_load1 hf rfl rfl ag24 (by intro _ h; exact hy _ (h.sub (by repeat (first | exact Sub.refl | exact Sub.none | exact Sub.behind | (apply Sub.cons; (focus ((repeat (first | exact Sel.head | apply Sel.tail)); done))) | apply Sub.skip))))) hS rfl rfl ?_)
   clear hf; intro a hf
   refine step_l (st_rd hf (Wn.none rfl) (rd_mul hf rfl rfl rfl (n32_mulv _ _)) hS rfl rfl ?_)
   clear hf; intro a hf
   refine step_l (st_rd hf (Wn.none rfl) (rd_assign hf rfl rfl) hS rfl rfl ?_)
   clear hf; intro a hf
   refine done_l ?_
   refine t_normal ?_
   refine c_ret ?_
   refine e_res1 hf.defers rfl (res_tmp hf rfl .nil) ?_
   exact ⟨rfl, hS.sub (by repeat (first | exact Sub.refl | exact Sub.none | exact Sub.behind | (apply Sub.cons; (focus ((repeat (first | exact Sel.head | apply Sel.tail)); done))) | apply Sub.skip))⟩
   )

abbrev mf (y : B32) : Nat → Nat → B32 := fun _ i => BitVec.ofNat 32 i * y
abbrev mg : Nat → Nat → Nat := fun s _ => s + 1
theorem mk_makes (bc br by_ n : Nat) (y : B32) (hn : n ≤ 4096) {W : World} (R : List HP) (hy : ∀ w, Sat W R w → w.cell? ⟨by_, 0, none⟩ = some (u32v y)) : ∀ (i : Nat) (l : List HP) (w : World), i < n → Sat W (mkM 3 4 bc br (mst mg 0 i) :: l) w → (∀ w, Sat W l w → Sat W R w) → Calls Try.prog 17 ([] ++ [Value.int .i64 (i : Nat)] ++ [Value.pointer (some ⟨br, 0, none⟩), Value.pointer (some ⟨bc, 0, none⟩), Value.pointer (some ⟨by_, 0, none⟩)]).toArray w (Ret fun v w' => v = u32v (mf y (mst mg 0 i) i) ∧ Sat W (mkM 3 4 bc br (mst mg 0 (i + 1)) :: l) w') := fun i l w hi h hs => by
 rw [mst_id] at h
 rw [mst_id, mst_id]
 have h2 : Sat W (Blk bc [.int .i64 (i : Nat)] 3 :: Blk br [.bool true] 4 :: l) w := h.unall
 refine (mk1_c bc br by_ i y h2 (by omega) (fun w hw => hy w (hs w hw))).mono fun e w' he => ?_
 cases e with
 | returned v => obtain ⟨h1, h3⟩ := he; exact ⟨h1, h3.all (ps := [Blk bc [.int .i64 ((i + 1 : Nat) : Int)] 3, Blk br [.bool true] 4])⟩
 | panicked c => exact he.elim
 | outgrown => exact he.elim
set_option maxRecDepth 100000 in
set_option maxHeartbeats 4000000 in
theorem LazyMakes_c (n0 : Int) (nb : Nat) (l : List Int) (ql : Option Addr) (capl : Nat) {W : World} {R : List HP} {w : World} (hS : Sat W (R) w) (hnb : nb < 4294967296) (hnl : l.length ≤ 9223372036854775807) (hvl : ∀ w, Sat W R w → SlAt w ql l.length 1 (l.flatMap fun n : Int => [.int .i64 n])) : Calls Try.prog 4 [.int .i64 n0, .int .u32 (nb : Nat), .slice ql l.length capl].toArray w (Ret fun v w' => v = .bool true ∧ Sat W R w') := by
 refine fn_start 94 Try.func4 rfl rfl rfl ?_
 intro a hf
 obtain ⟨y, rfl⟩ : ∃ y : B32, nb = y.toNat := ⟨BitVec.ofNat 32 nb, by rw [BitVec.toNat_ofNat]; omega⟩; obtain ⟨n, hn⟩ : ∃ n : Nat, (n : Int) = max 0 (min (min n0 5000) 4096) := ⟨(max 0 (min (min n0 5000) 4096)).toNat, by omega⟩; have hn4 : n ≤ 4096 := by omega
 refine c_seq ?_
 refine c_region ?_
 refine step_l (st_box hf (Wn.none rfl) hS rfl rfl (by rfl) rfl rfl ?_)
 clear hf hS; intro by_ a w hf hS
 refine step_l (st_rd hf (Wn.none rfl) (rd_assign hf rfl rfl) hS rfl rfl ?_)
 clear hf; intro a hf
 refine done_l ?_
 refine t_normal ?_
 refine c_seq ?_
 refine c_region ?_
 refine step_l (st_rd hf (Wn.none rfl) (rd_move hf rfl rfl) hS rfl rfl ?_)
 clear hf; intro a hf
 refine step_l (st_rd hf (Wn.none rfl) (rd_min hf rfl rfl rfl) hS rfl rfl ?_)
 clear hf; intro a hf
 refine step_l (st_rd hf (Wn.none rfl) (rd_assign hf rfl rfl) hS rfl rfl ?_)
 clear hf; intro a hf
 refine done_l ?_
 refine t_normal ?_
 refine c_seq ?_
 refine c_region ?_
 refine step_l (st_alloc hf (Wn.none rfl) hS rfl zr3 (by rfl) rfl rfl ?_)
 clear hf hS; intro bc a w hf hS
 refine step_l (st_store hf (Wn.none rfl) hS rfl rfl rfl (by rfl) sz3 (by rfl) (by rfl) (by repeat (first | exact Sel.head | apply Sel.tail)) (by repeat (first | exact Put.nil | apply Put.cons | apply Put.succ)) rfl ?_)
 clear hf hS; intro a w hf hS
 refine done_l ?_
 refine t_normal ?_
 refine c_seq ?_
 refine c_region ?_
 refine step_l (st_alloc hf (Wn.none rfl) hS rfl zr4 (by rfl) rfl rfl ?_)
 clear hf hS; intro br a w hf hS
 refine step_l (st_store hf (Wn.none rfl) hS rfl rfl rfl (by rfl) sz4 (by rfl) (by rfl) (by repeat (first | exact Sel.head | apply Sel.tail)) (by repeat (first | exact Put.nil | apply Put.cons | apply Put.succ)) rfl ?_)
 clear hf hS; intro a w hf hS
 refine done_l ?_
 refine t_normal ?_
 refine c_seq ?_
 refine c_region ?_
 refine step_l (st_rd hf (Wn.none rfl) (rd_move hf rfl rfl) hS rfl rfl ?_)
 clear hf; intro a hf
 refine step_l (st_rd hf (Wn.none rfl) (rd_makeFunc hf rfl rfl rfl) hS rfl rfl ?_)
 clear hf; intro a hf
 refine step_l (st_call hf (Wn.none rfl) rfl rfl rfl fn16 (LNew_c _ _ (tvals (mf y) mg 0 n) n hS hn.symm rfl) rfl rfl ?_)
 clear hf hS; rintro v a w ⟨pt, rfl, hS⟩ hf; replace hS : Sat W (TbP 63 24 pt n (.func (.func 17) [].toArray [Value.pointer (some ⟨br, 0, none⟩), Value.pointer (some ⟨bc, 0, none⟩), Value.pointer (some ⟨by_, 0, none⟩)].toArray) (tvals (mf y) mg 0 n) false :: mkM 3 4 bc br 0 :: Blk by_ [u32v y] 24 :: R) _ := ((hS.sels (.cons (by repeat (first | exact Sel.head | apply Sel.tail)) (.cons (by repeat (first | exact Sel.head | apply Sel.tail)) .nil)) : Sat W ([Blk bc [.int .i64 0] 3, Blk br [.bool true] 4] ++ _) _).all).sub (by repeat (first | exact Sub.refl | exact Sub.none | exact Sub.behind | (apply Sub.cons; (focus ((repeat (first | exact Sel.head | apply Sel.tail)); done))) | apply Sub.skip))
 refine step_l (st_rd hf (Wn.none rfl) (rd_assign hf rfl rfl) hS rfl rfl ?_)
 clear hf; intro a hf
 refine done_l ?_
 refine t_normal ?_
 refine c_seq ?_
 refine c_region ?_
 refine step_l (st_rd hf (Wn.none rfl) (rd_move hf rfl rfl) hS rfl rfl ?_)
 clear hf; intro a hf
 refine step_l (st_rd hf (Wn.none rfl) (rd_min hf rfl rfl rfl) hS rfl rfl ?_)
 clear hf; intro a hf
 refine step_l (st_rd hf (Wn.none rfl) (rd_max hf rfl rfl rfl) hS rfl rfl ?_)
 clear hf; intro a hf
 refine step_l (st_rd hf (Wn.none rfl) (rd_assign hf rfl rfl) hS rfl rfl ?_)
 clear hf; intro a hf
 refine done_l ?_
 refine t_normal ?_
 refine c_seq ?_
 refine c_seq ?_
 refine c_region ?_
 refine step_l (st_rd hf (Wn.none rfl) (rd_move hf rfl rfl) hS rfl rfl ?_)
 clear hf; intro a hf
 refine step_l (st_call hf (Wn.none rfl) rfl rfl rfl fn13 (Len_c _ _ _ _ _ (hS.sel (by repeat (first | exact Sel.head | apply Sel.tail)))) rfl rfl ?_)
 clear hf hS; rintro v a w ⟨rfl, hS⟩ hf
 refine step_l (st_rd hf (Wn.none rfl) (rd_move hf rfl rfl) hS rfl rfl ?_)
 clear hf; intro a hf
 refine step_l (st_rdB hf (Wn.none rfl) (rd_neq hf rfl rfl rfl) hS rfl rfl ?_ ?_)
 ·
  clear hf; intro hc4 a hf
  first
  | (first | exact Bool.noConfusion hc4 | exact absurd rfl hc4 | exact absurd hc4 (by omega) | exact absurd (by omega) hc4; done)
  | (
   refine step_l (st_rd hf (Wn.none rfl) (rd_move hf rfl rfl) hS rfl rfl ?_)
   clear hf; intro a hf
   refine step_l (st_skip hf (Wn.some hf rfl rfl rfl rfl) rfl rfl ?_)
   clear hf; intro a hf
   refine step_l (st_skip hf (Wn.some hf rfl rfl rfl rfl) rfl rfl ?_)
   clear hf; intro a hf
   refine step_l (st_skip hf (Wn.some hf rfl rfl rfl rfl) rfl rfl ?_)
   clear hf; intro a hf
   refine step_l (st_rd hf (Wn.none rfl) (rd_pick_t hf rfl rfl rfl) hS rfl rfl ?_)
   clear hf; intro a hf
   refine step_l (st_rd hf (Wn.none rfl) (rd_move hf rfl rfl) hS rfl rfl ?_)
   clear hf; intro a hf
   refine step_l (st_skip hf (Wn.some hf rfl rfl rfl rfl) rfl rfl ?_)
   clear hf; intro a hf
   refine step_l (st_skip hf (Wn.some hf rfl rfl rfl rfl) rfl rfl ?_)
   clear hf; intro a hf
   refine step_l (st_rd hf (Wn.none rfl) (rd_pick_t hf rfl rfl rfl) hS rfl rfl ?_)
   clear hf; intro a hf
   refine done_l ?_
   refine t_normal ?_
   refine c_true hf rfl ?_
   refine c_seq ?_
   refine c_region ?_
   refine step_l (st_rd hf (Wn.none rfl) (rd_assign hf rfl rfl) hS rfl rfl ?_)
   clear hf; intro a hf
   refine done_l ?_
   refine t_normal ?_
   refine c_ret ?_
   refine t_ret ?_
   refine e_res1 hf.defers rfl (res_tmp hf rfl .nil) ?_
   exact ⟨rfl, hS.sub (by repeat (first | exact Sub.refl | exact Sub.none | exact Sub.behind | (apply Sub.cons; (focus ((repeat (first | exact Sel.head | apply Sel.tail)); done))) | apply Sub.skip))⟩
   )
 ·
  clear hf; intro hc4 a hf
  first
  | (first | exact Bool.noConfusion hc4 | exact absurd rfl hc4 | exact absurd hc4 (by omega) | exact absurd (by omega) hc4; done)
  | (
   refine step_l (st_rd hf (Wn.none rfl) (rd_move hf rfl rfl) hS rfl rfl ?_)
   clear hf; intro a hf
   refine step_l (st_rd hf (Wn.some hf rfl rfl rfl rfl) (rd_move hf rfl rfl) hS rfl rfl ?_)
   clear hf; intro a hf
   refine step_l (st_call hf (Wn.some hf rfl rfl rfl rfl) rfl rfl rfl fn18 (Made_c _ _ _ _ _ (hS.sel (by repeat (first | exact Sel.head | apply Sel.tail)))) rfl rfl ?_)
   clear hf hS; rintro v a w ⟨rfl, hS⟩ hf
   refine step_l (st_rdB hf (Wn.some hf rfl rfl rfl rfl) (rd_neq hf rfl rfl rfl) hS rfl rfl ?_ ?_)
   ·
    clear hf; intro hc5 a hf
    first
    | (first | exact Bool.noConfusion hc5 | exact absurd rfl hc5 | exact absurd hc5 (by omega) | exact absurd (by omega) hc5; done)
    | (
     refine step_l (st_rd hf (Wn.none rfl) (rd_pick_f hf rfl rfl rfl) hS rfl rfl ?_)
     clear hf; intro a hf
     refine step_l (st_rd hf (Wn.none rfl) (rd_move hf rfl rfl) hS rfl rfl ?_)
     clear hf; intro a hf
     refine step_l (st_skip hf (Wn.some hf rfl rfl rfl rfl) rfl rfl ?_)
     clear hf; intro a hf
     refine step_l (st_skip hf (Wn.some hf rfl rfl rfl rfl) rfl rfl ?_)
     clear hf; intro a hf
     refine step_l (st_rd hf (Wn.none rfl) (rd_pick_t hf rfl rfl rfl) hS rfl rfl ?_)
     clear hf; intro a hf
     refine done_l ?_
     refine t_normal ?_
     refine c_true hf rfl ?_
     refine c_seq ?_
     refine c_region ?_
     refine step_l (st_rd hf (Wn.none rfl) (rd_assign hf rfl rfl) hS rfl rfl ?_)
     clear hf; intro a hf
     refine done_l ?_
     refine t_normal ?_
     refine c_ret ?_
     refine t_ret ?_
     refine e_res1 hf.defers rfl (res_tmp hf rfl .nil) ?_
     exact ⟨rfl, hS.sub (by repeat (first | exact Sub.refl | exact Sub.none | exact Sub.behind | (apply Sub.cons; (focus ((repeat (first | exact Sel.head | apply Sel.tail)); done))) | apply Sub.skip))⟩
     )
   ·
    clear hf; intro hc5 a hf
    first
    | (first | exact Bool.noConfusion hc5 | exact absurd rfl hc5 | exact absurd hc5 (by omega) | exact absurd (by omega) hc5; done)
    | (
     refine step_l (st_rd hf (Wn.none rfl) (rd_pick_f hf rfl rfl rfl) hS rfl rfl ?_)
     clear hf; intro a hf
     refine step_l (st_rd hf (Wn.none rfl) (rd_move hf rfl rfl) hS rfl rfl ?_)
     clear hf; intro a hf
     refine step_l (st_rd hf (Wn.some hf rfl rfl rfl rfl) (rd_load1 hf rfl rfl ag3 (by intro _ h; exact ((h.sel (by repeat (first | exact Sel.head | apply Sel.tail)) : Sat W (mkM 3 4 bc br _ :: _) _).unall).cell (by repeat (first | exact Sel.head | apply Sel.tail)) rfl)) hS rfl rfl ?_)
     clear hf; intro a hf
     refine step_l (st_rdB hf (Wn.some hf rfl rfl rfl rfl) (rd_neq hf rfl rfl rfl) hS rfl rfl ?_ ?_)
     ·
      clear hf; intro hc6 a hf
      first
      | (first | exact Bool.noConfusion hc6 | exact absurd rfl hc6 | exact absurd hc6 (by omega) | exact absurd (by omega) hc6; done)
      | (
       refine step_l (st_rd hf (Wn.none rfl) (rd_pick_f hf rfl rfl rfl) hS rfl rfl ?_)
       clear hf; intro a hf
       refine done_l ?_
       refine t_normal ?_
       refine c_true hf rfl ?_
       refine c_seq ?_
       refine c_region ?_
       refine step_l (st_rd hf (Wn.none rfl) (rd_assign hf rfl rfl) hS rfl rfl ?_)
       clear hf; intro a hf
       refine done_l ?_
       refine t_normal ?_
       refine c_ret ?_
       refine t_ret ?_
       refine e_res1 hf.defers rfl (res_tmp hf rfl .nil) ?_
       exact ⟨rfl, hS.sub (by repeat (first | exact Sub.refl | exact Sub.none | exact Sub.behind | (apply Sub.cons; (focus ((repeat (first | exact Sel.head | apply Sel.tail)); done))) | apply Sub.skip))⟩
       )
     ·
      clear hf; intro hc6 a hf
      first
      | (first | exact Bool.noConfusion hc6 | exact absurd rfl hc6 | exact absurd hc6 (by omega) | exact absurd (by omega) hc6; done)
      | (
       refine step_l (st_rd hf (Wn.none rfl) (rd_pick_f hf rfl rfl rfl) hS rfl rfl ?_)
       clear hf; intro a hf
       refine done_l ?_
       refine t_normal ?_
       refine c_false hf rfl ?_
       refine c_skip ?_
       refine t_normal ?_
       refine c_seq ?_
       refine c_seq ?_
       refine c_region ?_
       refine step_l (st_rd hf (Wn.none rfl) (rd_move hf rfl rfl) hS rfl rfl ?_)
       clear hf; intro a hf
       refine step_l (st_rd hf (Wn.none rfl) (rd_len hf rfl rfl Try.underlying29) hS rfl rfl ?_)
       clear hf; intro a hf
       refine step_l (st_rd hf (Wn.none rfl) (rd_move hf rfl rfl) hS rfl rfl ?_)
       clear hf; intro a hf
       refine done_l ?_
       refine t_normal ?_
       refine c_block ?_
       have hk0 := Keep.of hf [(6, 6), (11, 13), (37, 89)] (by repeat (first | exact Keep.nil | apply Keep.drop rfl | apply Keep.take rfl))
       refine c_loopK hk0 (α := Nat × Bool) (fun ⟨i, d⟩ => [(37, .int .i64 (i : Nat))]) (fun ⟨i, d⟩ w => Sat W (TbP 63 24 pt n (.func (.func 17) [].toArray [Value.pointer (some ⟨br, 0, none⟩), Value.pointer (some ⟨bc, 0, none⟩), Value.pointer (some ⟨by_, 0, none⟩)].toArray) (tvals (mf y) mg 0 n) d :: mkM 3 4 bc br (if d = true then n else 0) :: Blk by_ [u32v y] 24 :: R) w ∧ i ≤ l.length) (fun ⟨i, d⟩ => l.length - i) (0, false) ((hf.keep hk0).kb hf 37 rfl (by first | rfl | exact int_eq (by omega))) ⟨hS.sub (by repeat (first | exact Sub.refl | exact Sub.none | exact Sub.behind | (apply Sub.cons; (focus ((repeat (first | exact Sel.head | apply Sel.tail)); done))) | apply Sub.skip)), by omega⟩ ?_
       clear hf hS; rintro ⟨i, d⟩ a w hf ⟨hS, hi⟩; (try dsimp only [List.cons_append, List.nil_append] at hf)
       refine c_seq ?_
       refine c_region ?_
       refine step_l (st_rdB hf (Wn.none rfl) (rd_lss hf rfl rfl rfl) hS rfl rfl ?_ ?_)
       ·
        clear hf; intro hc7 a hf
        obtain ⟨x, hget⟩ := get_of_lt (l := l) (k := i) (by omega) rfl; obtain ⟨adl, rfl⟩ := (hvl _ (hS.sub (by repeat (first | exact Sub.refl | exact Sub.none | exact Sub.behind | (apply Sub.cons; (focus ((repeat (first | exact Sel.head | apply Sel.tail)); done))) | apply Sub.skip)))).some (by omega)
        refine done_l ?_
        refine t_normal ?_
        refine c_seq ?_
        refine c_true hf rfl ?_
        refine c_skip ?_
        refine t_normal ?_
        refine c_seq ?_
        refine c_block ?_
        refine c_seq ?_
        refine c_region ?_
        refine step_l (st_rd hf (Wn.none rfl) (rd_move hf rfl rfl) hS rfl rfl ?_)
        clear hf; intro a hf
        refine step_l (st_rd hf (Wn.none rfl) ((by first | exact rd_indexAddrN1 hf rfl rfl rfl Try.underlying29 sz3 (by omega) | exact rd_indexAddr hf rfl rfl rfl Try.underlying29 sz3 (by first | decide | omega) (by omega))) hS rfl rfl ?_)
        clear hf; intro a hf
        refine step_l (st_rd hf (Wn.none rfl) (rd_load1 hf rfl rfl ag3 (by intro _ h; exact one_elem (hvl _ (h.sub (by repeat (first | exact Sub.refl | exact Sub.none | exact Sub.behind | (apply Sub.cons; (focus ((repeat (first | exact Sel.head | apply Sel.tail)); done))) | apply Sub.skip)))) hget)) hS rfl rfl ?_)
        clear hf; intro a hf
        refine step_l (st_rd hf (Wn.none rfl) (rd_assign hf rfl rfl) hS rfl rfl ?_)
        clear hf; intro a hf
        refine step_l (st_rd hf (Wn.none rfl) (rd_assign hf rfl rfl) hS rfl rfl ?_)
        clear hf; intro a hf
        refine done_l ?_
        refine t_normal ?_
        refine c_seq ?_
        refine c_seq ?_
        refine c_region ?_
        refine step_l (st_rd hf (Wn.none rfl) (rd_move hf rfl rfl) hS rfl rfl ?_)
        clear hf; intro a hf
        refine step_l (st_rdB hf (Wn.none rfl) (rd_geq hf rfl rfl rfl) hS rfl rfl ?_ ?_)
        ·
         clear hf; intro hc8 a hf
         refine done_l ?_
         refine t_normal ?_
         refine c_true hf rfl ?_
         refine c_exit ?_
         refine t_exit ?_
         refine b_exit' (by decide) ?_
         refine t_exit ?_
         refine t_exit ?_
         refine b_exit ?_
         refine t_normal ?_
         refine c_seq ?_
         refine c_region ?_
         refine step_l (st_rdb hf (Wn.none rfl) (rd_load1 hf rfl rfl ag4 (by intro _ h; exact ((h.sel (by repeat (first | exact Sel.head | apply Sel.tail)) : Sat W (mkM 3 4 bc br _ :: _) _).unall).cell (by repeat (first | exact Sel.head | apply Sel.tail)) rfl)) hS rfl rfl ?_ ?_)
         ·
          clear hf; intro hc9 a hf
          first
          | (first | exact Bool.noConfusion hc9 | exact absurd rfl hc9 | exact absurd hc9 (by omega) | exact absurd (by omega) hc9; done)
          | (
           refine step_l (st_rd hf (Wn.none rfl) (rd_move hf rfl rfl) hS rfl rfl ?_)
           clear hf; intro a hf
           refine step_l (st_call hf (Wn.some hf rfl rfl rfl rfl) rfl rfl rfl fn15 (awake_c hS) rfl rfl ?_)
           clear hf hS; rintro v a w ⟨rfl, hS⟩ hf
           refine step_l (st_rd hf (Wn.none rfl) (rd_pick_t hf rfl rfl rfl) hS rfl rfl ?_)
           clear hf; intro a hf
           refine step_l (st_rd hf (Wn.none rfl) (rd_assign hf rfl rfl) hS rfl rfl ?_)
           clear hf; intro a hf
           refine done_l ?_
           refine t_normal ?_
           refine c_ret ?_
           refine e_res1 hf.defers rfl (res_tmp hf rfl .nil) ?_
           exact ⟨rfl, hS.sub (by repeat (first | exact Sub.refl | exact Sub.none | exact Sub.behind | (apply Sub.cons; (focus ((repeat (first | exact Sel.head | apply Sel.tail)); done))) | apply Sub.skip))⟩
           )
         ·
          clear hf; intro hc9 a hf
          first
          | (first | exact Bool.noConfusion hc9 | exact absurd rfl hc9 | exact absurd hc9 (by omega) | exact absurd (by omega) hc9; done)
          | (
           refine step_l (st_rd hf (Wn.none rfl) (rd_move hf rfl rfl) hS rfl rfl ?_)
           clear hf; intro a hf
           refine step_l (st_skip hf (Wn.some hf rfl rfl rfl rfl) rfl rfl ?_)
           clear hf; intro a hf
           refine step_l (st_rd hf (Wn.none rfl) (rd_pick_f hf rfl rfl rfl) hS rfl rfl ?_)
           clear hf; intro a hf
           refine step_l (st_rd hf (Wn.none rfl) (rd_assign hf rfl rfl) hS rfl rfl ?_)
           clear hf; intro a hf
           refine done_l ?_
           refine t_normal ?_
           refine c_ret ?_
           refine e_res1 hf.defers rfl (res_tmp hf rfl .nil) ?_
           exact ⟨rfl, hS.sub (by repeat (first | exact Sub.refl | exact Sub.none | exact Sub.behind | (apply Sub.cons; (focus ((repeat (first | exact Sel.head | apply Sel.tail)); done))) | apply Sub.skip))⟩
           )
        ·
         clear hf; intro hc8 a hf
         refine done_l ?_
         refine t_normal ?_
         refine c_false hf rfl ?_
         refine c_skip ?_
         refine t_normal ?_
         refine c_seq ?_
         refine c_region ?_
         refine step_l (st_rd hf (Wn.none rfl) (rd_assign hf rfl rfl) hS rfl rfl ?_)
         clear hf; intro a hf
         refine done_l ?_
         refine t_normal ?_
         refine c_seq ?_
         refine c_seq ?_
         refine c_region ?_
         refine step_l (st_rd hf (Wn.none rfl) (rd_move hf rfl rfl) hS rfl rfl ?_)
         clear hf; intro a hf
         refine step_l (st_rdB hf (Wn.none rfl) (rd_geq hf rfl rfl rfl) hS rfl rfl ?_ ?_)
         ·
          clear hf; intro hc10 a hf
          refine step_l (st_rd hf (Wn.none rfl) (rd_move hf rfl rfl) hS rfl rfl ?_)
          clear hf; intro a hf
          refine step_l (st_rd hf (Wn.some hf rfl rfl rfl rfl) (rd_move hf rfl rfl) hS rfl rfl ?_)
          clear hf; intro a hf
          refine step_l (st_rd hf (Wn.some hf rfl rfl rfl rfl) (rd_move hf rfl rfl) hS rfl rfl ?_)
          clear hf; intro a hf
          refine step_l (st_rdB hf (Wn.some hf rfl rfl rfl rfl) (rd_lss hf rfl rfl rfl) hS rfl rfl ?_ ?_)
          ·
           clear hf; intro hc11 a hf
           obtain ⟨j, rfl⟩ : ∃ j : Nat, x = j := ⟨x.toNat, by omega⟩
           have hv := tAt_in (f := mf y) (g := mg) (s := 0) (n := n) (j := j) (by omega)
           obtain ⟨x, hx⟩ : ∃ x : Int, x = (j : Int) := ⟨_, rfl⟩
           rw [← hx] at hv hf
           refine step_l (st_rd hf (Wn.none rfl) (rd_pick_t hf rfl rfl rfl) hS rfl rfl ?_)
           clear hf; intro a hf
           refine done_l ?_
           refine t_normal ?_
           refine c_true hf rfl ?_
           refine c_region ?_
           refine step_l (st_rd hf (Wn.none rfl) (rd_move hf rfl rfl) hS rfl rfl ?_)
           clear hf; intro a hf
           refine step_l (st_rd hf (Wn.none rfl) (rd_convInt hf rfl rfl Try.underlying3 Try.underlying24 ((congrArg IntKind.u32.wrap hx).trans (n32_nat j))) hS rfl rfl ?_)
           clear hf; intro a hf
           refine step_l (st_rd hf (Wn.none rfl) (rd_load1 hf rfl rfl ag24 (by intro _ h; exact h.cell (by repeat (first | exact Sel.head | apply Sel.tail)) rfl)) hS rfl rfl ?_)
           clear hf; intro a hf
           refine step_l (st_rd hf (Wn.none rfl) (rd_mul hf rfl rfl rfl (n32_mulv _ _)) hS rfl rfl ?_)
           clear hf; intro a hf
           refine step_l (st_rd hf (Wn.none rfl) (rd_assign hf rfl rfl) hS rfl rfl ?_)
           clear hf; intro a hf
           refine done_l ?_
           refine t_normal ?_
           refine c_seq ?_
           refine any_begin (S := Sat W (R)) mixed (hS.drew.sub (by repeat (first | exact Sub.refl | exact Sub.none | exact Sub.behind | (apply Sub.cons; (focus ((repeat (first | exact Sel.head | apply Sel.tail)); done))) | apply Sub.skip))) ?_
           have hT : Sat W (R) _ := hS.drew.sub (by repeat (first | exact Sub.refl | exact Sub.none | exact Sub.behind | (apply Sub.cons; (focus ((repeat (first | exact Sel.head | apply Sel.tail)); done))) | apply Sub.skip))
           replace hS := hS.drew
           refine any_takeA (i := 0) hf rfl (Wn.none rfl) (rd_move hf rfl rfl) hT rfl rfl ?_
           clear hf; intro a hf
           refine any_takeA (i := 1) hf rfl (Wn.none rfl) (rd_move hf rfl rfl) hT rfl rfl ?_
           clear hf; intro a hf
           refine any_takeA (i := 3) hf rfl (Wn.none rfl) (rd_move hf rfl rfl) hT rfl rfl ?_
           clear hf; intro a hf
           refine any_one (i := 2) rfl (by kernel_rfl) (st_call hf (Wn.none rfl) rfl rfl rfl fn14 (At_c (mkM 3 4 bc br) (mf y) mg 0 pt n 17 [] [Value.pointer (some ⟨br, 0, none⟩), Value.pointer (some ⟨bc, 0, none⟩), Value.pointer (some ⟨by_, 0, none⟩)] x d (show Sat W (TbP 63 24 pt n (.func (.func 17) [].toArray [Value.pointer (some ⟨br, 0, none⟩), Value.pointer (some ⟨bc, 0, none⟩), Value.pointer (some ⟨by_, 0, none⟩)].toArray) (tvals (mf y) mg 0 n) d :: mkM 3 4 bc br (if d = true then mst mg 0 n else 0) :: Blk by_ [u32v y] 24 :: R) _ from by rw [mst_id]; exact hS.sub (by repeat (first | exact Sub.refl | exact Sub.none | exact Sub.behind | (apply Sub.cons; (focus ((repeat (first | exact Sel.head | apply Sel.tail)); done))) | apply Sub.skip))) fn17 (mk_makes bc br by_ n y hn4 _ (fun w h => h.cell (by repeat (first | exact Sel.head | apply Sel.tail)) rfl)) hn4) rfl rfl ?_)
           clear hf hS; rintro v a w ⟨hvr, hS⟩ hf; rw [mst_id] at hS; rw [hv] at hvr; subst hvr; have hq1 := ite_mk (d || decide (inT n x)) n; have hq2 : 0 ≤ x → x < n → (if (d || decide (inT n x)) = true then n else 0) = n := fun h1 h2 => by rw [decide_eq_true (show inT n x from ⟨h1, h2⟩), Bool.or_true, if_pos rfl]
           replace hT := hS.sub' hT (by repeat (first | exact Sub.refl | exact Sub.none | exact Sub.behind | (apply Sub.cons; (focus ((repeat (first | exact Sel.head | apply Sel.tail)); done))) | apply Sub.skip))
           refine ⟨hT, ?_⟩
           refine any_takeB (i := 4) hf rfl (by kernel_rfl) (by kernel_rfl) (by kernel_rfl) (fun _ _ _ _ h => h) (Wn.none rfl) (rd_neq hf rfl rfl rfl) hT rfl rfl ?_ ?_
           ·
            clear hf; intro hc12 a hf
            first
            | (first | exact Bool.noConfusion hc12 | exact absurd rfl hc12 | exact absurd hc12 (by omega) | exact absurd (by omega) hc12; done)
            | (
             refine any_takeA (i := 5) hf rfl (Wn.none rfl) (rd_move hf rfl rfl) hT rfl rfl ?_
             clear hf; intro a hf
             refine any_skipA (i := 7) hf rfl (Wn.some hf rfl rfl rfl rfl) hT rfl rfl ?_
             clear hf; intro a hf
             refine any_skipA (i := 8) hf rfl (Wn.some hf rfl rfl rfl rfl) hT rfl rfl ?_
             clear hf; intro a hf
             refine any_one (i := 6) rfl (by kernel_rfl) (st_skip hf (Wn.some hf rfl rfl rfl rfl) rfl rfl ?_)
             clear hf; intro a hf
             refine ⟨hT, ?_⟩
             refine any_skipA (i := 9) hf rfl (Wn.some hf rfl rfl rfl rfl) hT rfl rfl ?_
             clear hf; intro a hf
             refine any_takeA (i := 10) hf rfl (Wn.none rfl) (rd_pick_t hf rfl rfl rfl) hT rfl rfl ?_
             clear hf; intro a hf
             refine any_takeA (i := 11) hf rfl (Wn.none rfl) (rd_move hf rfl rfl) hT rfl rfl ?_
             clear hf; intro a hf
             refine any_one (i := 12) rfl (by kernel_rfl) (st_skip hf (Wn.some hf rfl rfl rfl rfl) rfl rfl ?_)
             clear hf; intro a hf
             refine ⟨hT, ?_⟩
             refine any_skipA (i := 13) hf rfl (Wn.some hf rfl rfl rfl rfl) hT rfl rfl ?_
             clear hf; intro a hf
             refine any_skipA (i := 14) hf rfl (Wn.some hf rfl rfl rfl rfl) hT rfl rfl ?_
             clear hf; intro a hf
             refine any_skipA (i := 16) hf rfl (Wn.undef hf rfl rfl rfl) hT rfl rfl ?_
             clear hf; intro a hf
             refine any_one (i := 15) rfl (by kernel_rfl) (st_skip hf (Wn.undef hf rfl rfl rfl) rfl rfl ?_)
             clear hf; intro a hf
             refine ⟨hT, ?_⟩
             refine any_skipA (i := 17) hf rfl (Wn.undef hf rfl rfl rfl) hT rfl rfl ?_
             clear hf; intro a hf
             refine any_skipA (i := 18) hf rfl (Wn.some hf rfl rfl rfl rfl) hT rfl rfl ?_
             clear hf; intro a hf
             refine any_takeA (i := 19) hf rfl (Wn.none rfl) (rd_pick_t hf rfl rfl rfl) hT rfl rfl ?_
             clear hf; intro a hf
             refine any_takeA (i := 20) hf rfl (Wn.none rfl) (rd_move hf rfl rfl) hT rfl rfl ?_
             clear hf; intro a hf
             refine any_skipA (i := 21) hf rfl (Wn.some hf rfl rfl rfl rfl) hT rfl rfl ?_
             clear hf; intro a hf
             refine any_skipA (i := 22) hf rfl (Wn.some hf rfl rfl rfl rfl) hT rfl rfl ?_
             clear hf; intro a hf
             refine any_skipA (i := 23) hf rfl (Wn.some hf rfl rfl rfl rfl) hT rfl rfl ?_
             clear hf; intro a hf
             refine any_skipA (i := 24) hf rfl (Wn.undef hf rfl rfl rfl) hT rfl rfl ?_
             clear hf; intro a hf
             refine any_skipA (i := 25) hf rfl (Wn.undef hf rfl rfl rfl) hT rfl rfl ?_
             clear hf; intro a hf
             refine any_skipA (i := 26) hf rfl (Wn.undef hf rfl rfl rfl) hT rfl rfl ?_
             clear hf; intro a hf
             refine any_skipA (i := 27) hf rfl (Wn.some hf rfl rfl rfl rfl) hT rfl rfl ?_
             clear hf; intro a hf
             refine any_skipA (i := 28) hf rfl (Wn.some hf rfl rfl rfl rfl) hT rfl rfl ?_
             clear hf; intro a hf
             refine any_skipA (i := 30) hf rfl (Wn.undef hf rfl rfl rfl) hT rfl rfl ?_
             clear hf; intro a hf
             refine any_one (i := 29) rfl (by kernel_rfl) (st_skip hf (Wn.undef hf rfl rfl rfl) rfl rfl ?_)
             clear hf; intro a hf
             refine ⟨hT, ?_⟩
             refine any_skipA (i := 31) hf rfl (Wn.undef hf rfl rfl rfl) hT rfl rfl ?_
             clear hf; intro a hf
             refine any_skipA (i := 32) hf rfl (Wn.some hf rfl rfl rfl rfl) hT rfl rfl ?_
             clear hf; intro a hf
             refine any_takeA (i := 33) hf rfl (Wn.none rfl) (rd_pick_t hf rfl rfl rfl) hT rfl rfl ?_
             clear hf; intro a hf
             refine any_done (by kernel_rfl) ?_
             refine t_normal ?_
             refine c_true hf rfl ?_
             refine c_seq ?_
             refine c_region ?_
             refine step_l (st_rd hf (Wn.none rfl) (rd_assign hf rfl rfl) hS rfl rfl ?_)
             clear hf; intro a hf
             refine done_l ?_
             refine t_normal ?_
             refine c_ret ?_
             refine b_ret ?_
             refine t_ret ?_
             refine t_ret ?_
             refine b_ret ?_
             refine t_ret ?_
             refine e_res1 hf.defers rfl (res_tmp hf rfl .nil) ?_
             exact ⟨rfl, hS.sub (by repeat (first | exact Sub.refl | exact Sub.none | exact Sub.behind | (apply Sub.cons; (focus ((repeat (first | exact Sel.head | apply Sel.tail)); done))) | apply Sub.skip))⟩
             )
           ·
            clear hf; intro hc12 a hf
            first
            | (first | exact Bool.noConfusion hc12 | exact absurd rfl hc12 | exact absurd hc12 (by omega) | exact absurd (by omega) hc12; done)
            | (
             refine any_takeA (i := 5) hf rfl (Wn.none rfl) (rd_move hf rfl rfl) hT rfl rfl ?_
             clear hf; intro a hf
             refine any_takeA (i := 7) hf rfl (Wn.some hf rfl rfl rfl rfl) (rd_move hf rfl rfl) hT rfl rfl ?_
             clear hf; intro a hf
             refine any_two (i := 6) (j := 8) rfl rfl (by kernel_rfl) ?_ ?_
             ·
              skip
              refine st_rd hf (Wn.some hf rfl rfl rfl rfl) (rd_load1 hf rfl rfl ag3 (by intro _ h; exact ((h.sel (by repeat (first | exact Sel.head | apply Sel.tail)) : Sat W (mkM 3 4 bc br _ :: _) _).unall).cell (by repeat (first | exact Sel.head | apply Sel.tail)) rfl)) hS rfl rfl ?_
              clear hf; intro a hf
              refine ⟨hT, ?_⟩
              refine any_one (i := 8) rfl (by kernel_rfl) (st_call hf (Wn.some hf rfl rfl rfl rfl) rfl rfl rfl fn18 (Made_c _ _ _ _ _ (hS.sel (by repeat (first | exact Sel.head | apply Sel.tail)))) rfl rfl ?_)
              clear hf hS; rintro v a w ⟨rfl, hS⟩ hf
              replace hT := hS.sub' hT (by repeat (first | exact Sub.refl | exact Sub.none | exact Sub.behind | (apply Sub.cons; (focus ((repeat (first | exact Sel.head | apply Sel.tail)); done))) | apply Sub.skip))
              refine ⟨hT, ?_⟩
              refine any_takeB (i := 9) hf rfl (by kernel_rfl) (by kernel_rfl) (by kernel_rfl) (fun _ _ _ _ h => h) (Wn.some hf rfl rfl rfl rfl) (rd_neq hf rfl rfl rfl) hT rfl rfl ?_ ?_
              ·
               clear hf; intro hc13 a hf
               first
               | (first | exact Bool.noConfusion hc13 | exact absurd rfl hc13 | exact absurd hc13 (by omega) | exact absurd (by omega) hc13; done)
               | (
                refine any_takeA (i := 10) hf rfl (Wn.none rfl) (rd_pick_f hf rfl rfl rfl) hT rfl rfl ?_
                clear hf; intro a hf
                refine any_takeA (i := 11) hf rfl (Wn.none rfl) (rd_move hf rfl rfl) hT rfl rfl ?_
                clear hf; intro a hf
                refine any_one (i := 12) rfl (by kernel_rfl) (st_skip hf (Wn.some hf rfl rfl rfl rfl) rfl rfl ?_)
                clear hf; intro a hf
                refine ⟨hT, ?_⟩
                refine any_skipA (i := 13) hf rfl (Wn.some hf rfl rfl rfl rfl) hT rfl rfl ?_
                clear hf; intro a hf
                refine any_skipA (i := 14) hf rfl (Wn.some hf rfl rfl rfl rfl) hT rfl rfl ?_
                clear hf; intro a hf
                refine any_skipA (i := 16) hf rfl (Wn.undef hf rfl rfl rfl) hT rfl rfl ?_
                clear hf; intro a hf
                refine any_one (i := 15) rfl (by kernel_rfl) (st_skip hf (Wn.undef hf rfl rfl rfl) rfl rfl ?_)
                clear hf; intro a hf
                refine ⟨hT, ?_⟩
                refine any_skipA (i := 17) hf rfl (Wn.undef hf rfl rfl rfl) hT rfl rfl ?_
                clear hf; intro a hf
                refine any_skipA (i := 18) hf rfl (Wn.some hf rfl rfl rfl rfl) hT rfl rfl ?_
                clear hf; intro a hf
                refine any_takeA (i := 19) hf rfl (Wn.none rfl) (rd_pick_t hf rfl rfl rfl) hT rfl rfl ?_
                clear hf; intro a hf
                refine any_takeA (i := 20) hf rfl (Wn.none rfl) (rd_move hf rfl rfl) hT rfl rfl ?_
                clear hf; intro a hf
                refine any_skipA (i := 21) hf rfl (Wn.some hf rfl rfl rfl rfl) hT rfl rfl ?_
                clear hf; intro a hf
                refine any_skipA (i := 22) hf rfl (Wn.some hf rfl rfl rfl rfl) hT rfl rfl ?_
                clear hf; intro a hf
                refine any_skipA (i := 23) hf rfl (Wn.some hf rfl rfl rfl rfl) hT rfl rfl ?_
                clear hf; intro a hf
                refine any_skipA (i := 24) hf rfl (Wn.undef hf rfl rfl rfl) hT rfl rfl ?_
                clear hf; intro a hf
                refine any_skipA (i := 25) hf rfl (Wn.undef hf rfl rfl rfl) hT rfl rfl ?_
                clear hf; intro a hf
                refine any_skipA (i := 26) hf rfl (Wn.undef hf rfl rfl rfl) hT rfl rfl ?_
                clear hf; intro a hf
                refine any_skipA (i := 27) hf rfl (Wn.some hf rfl rfl rfl rfl) hT rfl rfl ?_
                clear hf; intro a hf
                refine any_skipA (i := 28) hf rfl (Wn.some hf rfl rfl rfl rfl) hT rfl rfl ?_
                clear hf; intro a hf
                refine any_skipA (i := 30) hf rfl (Wn.undef hf rfl rfl rfl) hT rfl rfl ?_
                clear hf; intro a hf
                refine any_one (i := 29) rfl (by kernel_rfl) (st_skip hf (Wn.undef hf rfl rfl rfl) rfl rfl ?_)
                clear hf; intro a hf
                refine ⟨hT, ?_⟩
                refine any_skipA (i := 31) hf rfl (Wn.undef hf rfl rfl rfl) hT rfl rfl ?_
                clear hf; intro a hf
                refine any_skipA (i := 32) hf rfl (Wn.some hf rfl rfl rfl rfl) hT rfl rfl ?_
                clear hf; intro a hf
                refine any_takeA (i := 33) hf rfl (Wn.none rfl) (rd_pick_t hf rfl rfl rfl) hT rfl rfl ?_
                clear hf; intro a hf
                refine any_done (by kernel_rfl) ?_
                refine t_normal ?_
                refine c_true hf rfl ?_
                refine c_seq ?_
                refine c_region ?_
                refine step_l (st_rd hf (Wn.none rfl) (rd_assign hf rfl rfl) hS rfl rfl ?_)
                clear hf; intro a hf
                refine done_l ?_
                refine t_normal ?_
                refine c_ret ?_
                refine b_ret ?_
                refine t_ret ?_
                refine t_ret ?_
                refine b_ret ?_
                refine t_ret ?_
                refine e_res1 hf.defers rfl (res_tmp hf rfl .nil) ?_
                exact ⟨rfl, hS.sub (by repeat (first | exact Sub.refl | exact Sub.none | exact Sub.behind | (apply Sub.cons; (focus ((repeat (first | exact Sel.head | apply Sel.tail)); done))) | apply Sub.skip))⟩
                )
              ·
               clear hf; intro hc13 a hf
               first
               | (first | exact Bool.noConfusion hc13 | exact absurd rfl hc13 | exact absurd hc13 (by omega) | exact absurd (by omega) hc13; done)
               | (
                refine any_takeA (i := 10) hf rfl (Wn.none rfl) (rd_pick_f hf rfl rfl rfl) hT rfl rfl ?_
                clear hf; intro a hf
                refine any_takeA (i := 11) hf rfl (Wn.none rfl) (rd_move hf rfl rfl) hT rfl rfl ?_
                clear hf; intro a hf
                refine any_one (i := 12) rfl (by kernel_rfl) (st_rd hf (Wn.some hf rfl rfl rfl rfl) (rd_load1 hf rfl rfl ag3 (by intro _ h; exact ((h.sel (by repeat (first | exact Sel.head | apply Sel.tail)) : Sat W (mkM 3 4 bc br _ :: _) _).unall).cell (by repeat (first | exact Sel.head | apply Sel.tail)) rfl)) hS rfl rfl ?_)
                clear hf; intro a hf
                refine ⟨hT, ?_⟩
                refine any_takeB (i := 13) hf rfl (by kernel_rfl) (by kernel_rfl) (by kernel_rfl) (fun _ _ _ _ h => h) (Wn.some hf rfl rfl rfl rfl) (rd_neq hf rfl rfl rfl) hT rfl rfl ?_ ?_
                ·
                 clear hf; intro hc14 a hf
                 first
                 | (first | exact Bool.noConfusion hc14 | exact absurd rfl hc14 | exact absurd hc14 (by omega) | exact absurd (by omega) hc14; done)
                 | (
                  refine any_takeA (i := 14) hf rfl (Wn.some hf rfl rfl rfl rfl) (rd_move hf rfl rfl) hT rfl rfl ?_
                  clear hf; intro a hf
                  refine any_takeA (i := 16) hf rfl (Wn.some hf rfl rfl rfl rfl) (rd_move hf rfl rfl) hT rfl rfl ?_
                  clear hf; intro a hf
                  refine any_one (i := 15) rfl (by kernel_rfl) (st_rd hf (Wn.some hf rfl rfl rfl rfl) (rd_load1 hf rfl rfl ag3 (by intro _ h; exact ((h.sel (by repeat (first | exact Sel.head | apply Sel.tail)) : Sat W (mkM 3 4 bc br _ :: _) _).unall).cell (by repeat (first | exact Sel.head | apply Sel.tail)) rfl)) hS rfl rfl ?_)
                  clear hf; intro a hf
                  refine ⟨hT, ?_⟩
                  refine any_takeB (i := 17) hf rfl (by kernel_rfl) (by kernel_rfl) (by kernel_rfl) (fun _ _ _ _ h => h) (Wn.some hf rfl rfl rfl rfl) (rd_neq hf rfl rfl rfl) hT rfl rfl ?_ ?_
                  ·
                   clear hf; intro hc15 a hf
                   first
                   | (first | exact Bool.noConfusion hc15 | exact absurd rfl hc15 | exact absurd hc15 (by omega) | exact absurd (by omega) hc15; done)
                   | (
                    refine any_takeA (i := 18) hf rfl (Wn.some hf rfl rfl rfl rfl) (rd_pick_t hf rfl rfl rfl) hT rfl rfl ?_
                    clear hf; intro a hf
                    refine any_takeA (i := 19) hf rfl (Wn.none rfl) (rd_pick_f hf rfl rfl rfl) hT rfl rfl ?_
                    clear hf; intro a hf
                    refine any_takeA (i := 20) hf rfl (Wn.none rfl) (rd_move hf rfl rfl) hT rfl rfl ?_
                    clear hf; intro a hf
                    refine any_skipA (i := 21) hf rfl (Wn.some hf rfl rfl rfl rfl) hT rfl rfl ?_
                    clear hf; intro a hf
                    refine any_skipA (i := 22) hf rfl (Wn.some hf rfl rfl rfl rfl) hT rfl rfl ?_
                    clear hf; intro a hf
                    refine any_skipA (i := 23) hf rfl (Wn.some hf rfl rfl rfl rfl) hT rfl rfl ?_
                    clear hf; intro a hf
                    refine any_skipA (i := 24) hf rfl (Wn.undef hf rfl rfl rfl) hT rfl rfl ?_
                    clear hf; intro a hf
                    refine any_skipA (i := 25) hf rfl (Wn.undef hf rfl rfl rfl) hT rfl rfl ?_
                    clear hf; intro a hf
                    refine any_skipA (i := 26) hf rfl (Wn.undef hf rfl rfl rfl) hT rfl rfl ?_
                    clear hf; intro a hf
                    refine any_skipA (i := 27) hf rfl (Wn.some hf rfl rfl rfl rfl) hT rfl rfl ?_
                    clear hf; intro a hf
                    refine any_skipA (i := 28) hf rfl (Wn.some hf rfl rfl rfl rfl) hT rfl rfl ?_
                    clear hf; intro a hf
                    refine any_skipA (i := 30) hf rfl (Wn.undef hf rfl rfl rfl) hT rfl rfl ?_
                    clear hf; intro a hf
                    refine any_one (i := 29) rfl (by kernel_rfl) (st_skip hf (Wn.undef hf rfl rfl rfl) rfl rfl ?_)
                    clear hf; intro a hf
                    refine ⟨hT, ?_⟩
                    refine any_skipA (i := 31) hf rfl (Wn.undef hf rfl rfl rfl) hT rfl rfl ?_
                    clear hf; intro a hf
                    refine any_skipA (i := 32) hf rfl (Wn.some hf rfl rfl rfl rfl) hT rfl rfl ?_
                    clear hf; intro a hf
                    refine any_takeA (i := 33) hf rfl (Wn.none rfl) (rd_pick_t hf rfl rfl rfl) hT rfl rfl ?_
                    clear hf; intro a hf
                    refine any_done (by kernel_rfl) ?_
                    refine t_normal ?_
                    refine c_true hf rfl ?_
                    refine c_seq ?_
                    refine c_region ?_
                    refine step_l (st_rd hf (Wn.none rfl) (rd_assign hf rfl rfl) hS rfl rfl ?_)
                    clear hf; intro a hf
                    refine done_l ?_
                    refine t_normal ?_
                    refine c_ret ?_
                    refine b_ret ?_
                    refine t_ret ?_
                    refine t_ret ?_
                    refine b_ret ?_
                    refine t_ret ?_
                    refine e_res1 hf.defers rfl (res_tmp hf rfl .nil) ?_
                    exact ⟨rfl, hS.sub (by repeat (first | exact Sub.refl | exact Sub.none | exact Sub.behind | (apply Sub.cons; (focus ((repeat (first | exact Sel.head | apply Sel.tail)); done))) | apply Sub.skip))⟩
                    )
                  ·
                   clear hf; intro hc15 a hf
                   first
                   | (first | exact Bool.noConfusion hc15 | exact absurd rfl hc15 | exact absurd hc15 (by omega) | exact absurd (by omega) hc15; done)
                   | (
                    refine any_takeA (i := 18) hf rfl (Wn.some hf rfl rfl rfl rfl) (rd_pick_t hf rfl rfl rfl) hT rfl rfl ?_
                    clear hf; intro a hf
                    refine any_takeA (i := 19) hf rfl (Wn.none rfl) (rd_pick_f hf rfl rfl rfl) hT rfl rfl ?_
                    clear hf; intro a hf
                    refine any_takeA (i := 20) hf rfl (Wn.none rfl) (rd_move hf rfl rfl) hT rfl rfl ?_
                    clear hf; intro a hf
                    refine any_takeA (i := 21) hf rfl (Wn.some hf rfl rfl rfl rfl) (rd_move hf rfl rfl) hT rfl rfl ?_
                    clear hf; intro a hf
                    refine any_takeB (i := 22) hf rfl (by kernel_rfl) (by kernel_rfl) (by kernel_rfl) (fun _ _ _ _ h => h) (Wn.some hf rfl rfl rfl rfl) (rd_geq hf rfl rfl rfl) hT rfl rfl ?_ ?_
                    ·
                     clear hf; intro hc16 a hf
                     first
                     | (first | exact Bool.noConfusion hc16 | exact absurd rfl hc16 | exact absurd hc16 (by omega) | exact absurd (by omega) hc16; done)
                     | (
                      refine any_takeA (i := 23) hf rfl (Wn.some hf rfl rfl rfl rfl) (rd_move hf rfl rfl) hT rfl rfl ?_
                      clear hf; intro a hf
                      refine any_takeA (i := 24) hf rfl (Wn.some hf rfl rfl rfl rfl) (rd_move hf rfl rfl) hT rfl rfl ?_
                      clear hf; intro a hf
                      refine any_takeA (i := 25) hf rfl (Wn.some hf rfl rfl rfl rfl) (rd_move hf rfl rfl) hT rfl rfl ?_
                      clear hf; intro a hf
                      refine any_takeB (i := 26) hf rfl (by kernel_rfl) (by kernel_rfl) (by kernel_rfl) (fun _ _ _ _ h => h) (Wn.some hf rfl rfl rfl rfl) (rd_lss hf rfl rfl rfl) hT rfl rfl ?_ ?_
                      ·
                       clear hf; intro hc17 a hf
                       first
                       | (first | exact Bool.noConfusion hc17 | exact absurd rfl hc17 | exact absurd hc17 (by omega) | exact absurd (by omega) hc17; done)
                       | (
                        refine any_takeA (i := 27) hf rfl (Wn.some hf rfl rfl rfl rfl) (rd_pick_t hf rfl rfl rfl) hT rfl rfl ?_
                        clear hf; intro a hf
                        refine any_takeA (i := 28) hf rfl (Wn.some hf rfl rfl rfl rfl) (rd_move hf rfl rfl) hT rfl rfl ?_
                        clear hf; intro a hf
                        refine any_takeA (i := 30) hf rfl (Wn.some hf rfl rfl rfl rfl) (rd_move hf rfl rfl) hT rfl rfl ?_
                        clear hf; intro a hf
                        refine any_one (i := 29) rfl (by kernel_rfl) (st_rd hf (Wn.some hf rfl rfl rfl rfl) (rd_load1 hf rfl rfl ag3 (by intro _ h; exact ((h.sel (by repeat (first | exact Sel.head | apply Sel.tail)) : Sat W (mkM 3 4 bc br _ :: _) _).unall).cell (by repeat (first | exact Sel.head | apply Sel.tail)) rfl)) hS rfl rfl ?_)
                        clear hf; intro a hf
                        refine ⟨hT, ?_⟩
                        refine any_takeB (i := 31) hf rfl (by kernel_rfl) (by kernel_rfl) (by kernel_rfl) (fun _ _ _ _ h => h) (Wn.some hf rfl rfl rfl rfl) (rd_neq hf rfl rfl rfl) hT rfl rfl ?_ ?_
                        ·
                         clear hf; intro hc18 a hf
                         first
                         | (first | exact Bool.noConfusion hc18 | exact absurd rfl hc18 | exact absurd hc18 (by omega) | exact absurd (by omega) hc18; done)
                         | (
                          refine any_takeA (i := 32) hf rfl (Wn.some hf rfl rfl rfl rfl) (rd_pick_t hf rfl rfl rfl) hT rfl rfl ?_
                          clear hf; intro a hf
                          refine any_takeA (i := 33) hf rfl (Wn.none rfl) (rd_pick_f hf rfl rfl rfl) hT rfl rfl ?_
                          clear hf; intro a hf
                          refine any_done (by kernel_rfl) ?_
                          refine t_normal ?_
                          refine c_true hf rfl ?_
                          refine c_seq ?_
                          refine c_region ?_
                          refine step_l (st_rd hf (Wn.none rfl) (rd_assign hf rfl rfl) hS rfl rfl ?_)
                          clear hf; intro a hf
                          refine done_l ?_
                          refine t_normal ?_
                          refine c_ret ?_
                          refine b_ret ?_
                          refine t_ret ?_
                          refine t_ret ?_
                          refine b_ret ?_
                          refine t_ret ?_
                          refine e_res1 hf.defers rfl (res_tmp hf rfl .nil) ?_
                          exact ⟨rfl, hS.sub (by repeat (first | exact Sub.refl | exact Sub.none | exact Sub.behind | (apply Sub.cons; (focus ((repeat (first | exact Sel.head | apply Sel.tail)); done))) | apply Sub.skip))⟩
                          )
                        ·
                         clear hf; intro hc18 a hf
                         first
                         | (first | exact Bool.noConfusion hc18 | exact absurd rfl hc18 | exact absurd hc18 (by omega) | exact absurd (by omega) hc18; done)
                         | (
                          refine any_takeA (i := 32) hf rfl (Wn.some hf rfl rfl rfl rfl) (rd_pick_t hf rfl rfl rfl) hT rfl rfl ?_
                          clear hf; intro a hf
                          refine any_takeA (i := 33) hf rfl (Wn.none rfl) (rd_pick_f hf rfl rfl rfl) hT rfl rfl ?_
                          clear hf; intro a hf
                          refine any_done (by kernel_rfl) ?_
                          refine t_normal ?_
                          refine c_false hf rfl ?_
                          refine c_skip ?_
                          refine b_normal ?_
                          refine t_normal ?_
                          refine c_region ?_
                          refine step_l (st_rd hf (Wn.none rfl) (rd_add hf rfl rfl rfl (by first | exact Go.IntWalk.i64_in _ (by omega) | exact rfl)) hS rfl rfl ?_)
                          clear hf; intro a hf
                          refine step_l (st_rd hf (Wn.none rfl) (rd_move hf rfl rfl) hS rfl rfl ?_)
                          clear hf; intro a hf
                          refine done_l ?_
                          refine t_normal ⟨(i + 1, d || decide (inT n x)), ((hf.back (by repeat (first | exact Behind.refl | refine Behind.skip rfl ?_)) hk0).kb hf 37 rfl (by first | rfl | exact int_eq (by omega))), ⟨hS.sub (by repeat (first | exact Sub.refl | exact Sub.none | exact Sub.behind | (apply Sub.cons; (focus ((repeat (first | exact Sel.head | apply Sel.tail)); done))) | apply Sub.skip)), by omega⟩, by first | omega | (simp only []; omega)⟩
                          )
                        )
                      ·
                       clear hf; intro hc17 a hf
                       first
                       | (first | exact Bool.noConfusion hc17 | exact absurd rfl hc17 | exact absurd hc17 (by omega) | exact absurd (by omega) hc17; done)
                       | (
                        refine any_takeA (i := 27) hf rfl (Wn.some hf rfl rfl rfl rfl) (rd_pick_t hf rfl rfl rfl) hT rfl rfl ?_
                        clear hf; intro a hf
                        refine any_takeA (i := 28) hf rfl (Wn.some hf rfl rfl rfl rfl) (rd_move hf rfl rfl) hT rfl rfl ?_
                        clear hf; intro a hf
                        refine any_skipA (i := 30) hf rfl (Wn.some hf rfl rfl rfl rfl) hT rfl rfl ?_
                        clear hf; intro a hf
                        refine any_one (i := 29) rfl (by kernel_rfl) (st_skip hf (Wn.some hf rfl rfl rfl rfl) rfl rfl ?_)
                        clear hf; intro a hf
                        refine ⟨hT, ?_⟩
                        refine any_skipA (i := 31) hf rfl (Wn.some hf rfl rfl rfl rfl) hT rfl rfl ?_
                        clear hf; intro a hf
                        refine any_takeA (i := 32) hf rfl (Wn.some hf rfl rfl rfl rfl) (rd_pick_f hf rfl rfl rfl) hT rfl rfl ?_
                        clear hf; intro a hf
                        refine any_takeA (i := 33) hf rfl (Wn.none rfl) (rd_pick_f hf rfl rfl rfl) hT rfl rfl ?_
                        clear hf; intro a hf
                        refine any_done (by kernel_rfl) ?_
                        refine t_normal ?_
                        refine c_false hf rfl ?_
                        refine c_skip ?_
                        refine b_normal ?_
                        refine t_normal ?_
                        refine c_region ?_
                        refine step_l (st_rd hf (Wn.none rfl) (rd_add hf rfl rfl rfl (by first | exact Go.IntWalk.i64_in _ (by omega) | exact rfl)) hS rfl rfl ?_)
                        clear hf; intro a hf
                        refine step_l (st_rd hf (Wn.none rfl) (rd_move hf rfl rfl) hS rfl rfl ?_)
                        clear hf; intro a hf
                        refine done_l ?_
                        refine t_normal ⟨(i + 1, d || decide (inT n x)), ((hf.back (by repeat (first | exact Behind.refl | refine Behind.skip rfl ?_)) hk0).kb hf 37 rfl (by first | rfl | exact int_eq (by omega))), ⟨hS.sub (by repeat (first | exact Sub.refl | exact Sub.none | exact Sub.behind | (apply Sub.cons; (focus ((repeat (first | exact Sel.head | apply Sel.tail)); done))) | apply Sub.skip)), by omega⟩, by first | omega | (simp only []; omega)⟩
                        )
                      )
                    ·
                     clear hf; intro hc16 a hf
                     first
                     | (first | exact Bool.noConfusion hc16 | exact absurd rfl hc16 | exact absurd hc16 (by omega) | exact absurd (by omega) hc16; done)
                     | (
                      refine any_takeA (i := 23) hf rfl (Wn.some hf rfl rfl rfl rfl) (rd_move hf rfl rfl) hT rfl rfl ?_
                      clear hf; intro a hf
                      refine any_skipA (i := 24) hf rfl (Wn.some hf rfl rfl rfl rfl) hT rfl rfl ?_
                      clear hf; intro a hf
                      refine any_skipA (i := 25) hf rfl (Wn.some hf rfl rfl rfl rfl) hT rfl rfl ?_
                      clear hf; intro a hf
                      refine any_skipA (i := 26) hf rfl (Wn.some hf rfl rfl rfl rfl) hT rfl rfl ?_
                      clear hf; intro a hf
                      refine any_takeA (i := 27) hf rfl (Wn.some hf rfl rfl rfl rfl) (rd_pick_f hf rfl rfl rfl) hT rfl rfl ?_
                      clear hf; intro a hf
                      refine any_takeA (i := 28) hf rfl (Wn.some hf rfl rfl rfl rfl) (rd_move hf rfl rfl) hT rfl rfl ?_
                      clear hf; intro a hf
                      refine any_skipA (i := 30) hf rfl (Wn.some hf rfl rfl rfl rfl) hT rfl rfl ?_
                      clear hf; intro a hf
                      refine any_one (i := 29) rfl (by kernel_rfl) (st_skip hf (Wn.some hf rfl rfl rfl rfl) rfl rfl ?_)
                      clear hf; intro a hf
                      refine ⟨hT, ?_⟩
                      refine any_skipA (i := 31) hf rfl (Wn.some hf rfl rfl rfl rfl) hT rfl rfl ?_
                      clear hf; intro a hf
                      refine any_takeA (i := 32) hf rfl (Wn.some hf rfl rfl rfl rfl) (rd_pick_f hf rfl rfl rfl) hT rfl rfl ?_
                      clear hf; intro a hf
                      refine any_takeA (i := 33) hf rfl (Wn.none rfl) (rd_pick_f hf rfl rfl rfl) hT rfl rfl ?_
                      clear hf; intro a hf
                      refine any_done (by kernel_rfl) ?_
                      refine t_normal ?_
                      refine c_false hf rfl ?_
                      refine c_skip ?_
                      refine b_normal ?_
                      refine t_normal ?_
                      refine c_region ?_
                      refine step_l (st_rd hf (Wn.none rfl) (rd_add hf rfl rfl rfl (by first | exact Go.IntWalk.i64_in _ (by omega) | exact rfl)) hS rfl rfl ?_)
                      clear hf; intro a hf
                      refine step_l (st_rd hf (Wn.none rfl) (rd_move hf rfl rfl) hS rfl rfl ?_)
                      clear hf; intro a hf
                      refine done_l ?_
                      refine t_normal ⟨(i + 1, d || decide (inT n x)), ((hf.back (by repeat (first | exact Behind.refl | refine Behind.skip rfl ?_)) hk0).kb hf 37 rfl (by first | rfl | exact int_eq (by omega))), ⟨hS.sub (by repeat (first | exact Sub.refl | exact Sub.none | exact Sub.behind | (apply Sub.cons; (focus ((repeat (first | exact Sel.head | apply Sel.tail)); done))) | apply Sub.skip)), by omega⟩, by first | omega | (simp only []; omega)⟩
                      )
                    )
                  )
                ·
                 clear hf; intro hc14 a hf
                 first
                 | (first | exact Bool.noConfusion hc14 | exact absurd rfl hc14 | exact absurd hc14 (by omega) | exact absurd (by omega) hc14; done)
                 | (
                  refine any_takeA (i := 14) hf rfl (Wn.some hf rfl rfl rfl rfl) (rd_move hf rfl rfl) hT rfl rfl ?_
                  clear hf; intro a hf
                  refine any_skipA (i := 16) hf rfl (Wn.some hf rfl rfl rfl rfl) hT rfl rfl ?_
                  clear hf; intro a hf
                  refine any_one (i := 15) rfl (by kernel_rfl) (st_skip hf (Wn.some hf rfl rfl rfl rfl) rfl rfl ?_)
                  clear hf; intro a hf
                  refine ⟨hT, ?_⟩
                  refine any_skipA (i := 17) hf rfl (Wn.some hf rfl rfl rfl rfl) hT rfl rfl ?_
                  clear hf; intro a hf
                  refine any_takeA (i := 18) hf rfl (Wn.some hf rfl rfl rfl rfl) (rd_pick_f hf rfl rfl rfl) hT rfl rfl ?_
                  clear hf; intro a hf
                  refine any_takeA (i := 19) hf rfl (Wn.none rfl) (rd_pick_f hf rfl rfl rfl) hT rfl rfl ?_
                  clear hf; intro a hf
                  refine any_takeA (i := 20) hf rfl (Wn.none rfl) (rd_move hf rfl rfl) hT rfl rfl ?_
                  clear hf; intro a hf
                  refine any_takeA (i := 21) hf rfl (Wn.some hf rfl rfl rfl rfl) (rd_move hf rfl rfl) hT rfl rfl ?_
                  clear hf; intro a hf
                  refine any_takeB (i := 22) hf rfl (by kernel_rfl) (by kernel_rfl) (by kernel_rfl) (fun _ _ _ _ h => h) (Wn.some hf rfl rfl rfl rfl) (rd_geq hf rfl rfl rfl) hT rfl rfl ?_ ?_
                  ·
                   clear hf; intro hc19 a hf
                   first
                   | (first | exact Bool.noConfusion hc19 | exact absurd rfl hc19 | exact absurd hc19 (by omega) | exact absurd (by omega) hc19; done)
                   | (
                    refine any_takeA (i := 23) hf rfl (Wn.some hf rfl rfl rfl rfl) (rd_move hf rfl rfl) hT rfl rfl ?_
                    clear hf; intro a hf
                    refine any_takeA (i := 24) hf rfl (Wn.some hf rfl rfl rfl rfl) (rd_move hf rfl rfl) hT rfl rfl ?_
                    clear hf; intro a hf
                    refine any_takeA (i := 25) hf rfl (Wn.some hf rfl rfl rfl rfl) (rd_move hf rfl rfl) hT rfl rfl ?_
                    clear hf; intro a hf
                    refine any_takeB (i := 26) hf rfl (by kernel_rfl) (by kernel_rfl) (by kernel_rfl) (fun _ _ _ _ h => h) (Wn.some hf rfl rfl rfl rfl) (rd_lss hf rfl rfl rfl) hT rfl rfl ?_ ?_
                    ·
                     clear hf; intro hc20 a hf
                     first
                     | (first | exact Bool.noConfusion hc20 | exact absurd rfl hc20 | exact absurd hc20 (by omega) | exact absurd (by omega) hc20; done)
                     | (
                      refine any_takeA (i := 27) hf rfl (Wn.some hf rfl rfl rfl rfl) (rd_pick_t hf rfl rfl rfl) hT rfl rfl ?_
                      clear hf; intro a hf
                      refine any_takeA (i := 28) hf rfl (Wn.some hf rfl rfl rfl rfl) (rd_move hf rfl rfl) hT rfl rfl ?_
                      clear hf; intro a hf
                      refine any_takeA (i := 30) hf rfl (Wn.some hf rfl rfl rfl rfl) (rd_move hf rfl rfl) hT rfl rfl ?_
                      clear hf; intro a hf
                      refine any_one (i := 29) rfl (by kernel_rfl) (st_rd hf (Wn.some hf rfl rfl rfl rfl) (rd_load1 hf rfl rfl ag3 (by intro _ h; exact ((h.sel (by repeat (first | exact Sel.head | apply Sel.tail)) : Sat W (mkM 3 4 bc br _ :: _) _).unall).cell (by repeat (first | exact Sel.head | apply Sel.tail)) rfl)) hS rfl rfl ?_)
                      clear hf; intro a hf
                      refine ⟨hT, ?_⟩
                      refine any_takeB (i := 31) hf rfl (by kernel_rfl) (by kernel_rfl) (by kernel_rfl) (fun _ _ _ _ h => h) (Wn.some hf rfl rfl rfl rfl) (rd_neq hf rfl rfl rfl) hT rfl rfl ?_ ?_
                      ·
                       clear hf; intro hc21 a hf
                       first
                       | (first | exact Bool.noConfusion hc21 | exact absurd rfl hc21 | exact absurd hc21 (by omega) | exact absurd (by omega) hc21; done)
                       | (
                        refine any_takeA (i := 32) hf rfl (Wn.some hf rfl rfl rfl rfl) (rd_pick_t hf rfl rfl rfl) hT rfl rfl ?_
                        clear hf; intro a hf
                        refine any_takeA (i := 33) hf rfl (Wn.none rfl) (rd_pick_f hf rfl rfl rfl) hT rfl rfl ?_
                        clear hf; intro a hf
                        refine any_done (by kernel_rfl) ?_
                        refine t_normal ?_
                        refine c_true hf rfl ?_
                        refine c_seq ?_
                        refine c_region ?_
                        refine step_l (st_rd hf (Wn.none rfl) (rd_assign hf rfl rfl) hS rfl rfl ?_)
                        clear hf; intro a hf
                        refine done_l ?_
                        refine t_normal ?_
                        refine c_ret ?_
                        refine b_ret ?_
                        refine t_ret ?_
                        refine t_ret ?_
                        refine b_ret ?_
                        refine t_ret ?_
                        refine e_res1 hf.defers rfl (res_tmp hf rfl .nil) ?_
                        exact ⟨rfl, hS.sub (by repeat (first | exact Sub.refl | exact Sub.none | exact Sub.behind | (apply Sub.cons; (focus ((repeat (first | exact Sel.head | apply Sel.tail)); done))) | apply Sub.skip))⟩
                        )
                      ·
                       clear hf; intro hc21 a hf
                       first
                       | (first | exact Bool.noConfusion hc21 | exact absurd rfl hc21 | exact absurd hc21 (by omega) | exact absurd (by omega) hc21; done)
                       | (
                        refine any_takeA (i := 32) hf rfl (Wn.some hf rfl rfl rfl rfl) (rd_pick_t hf rfl rfl rfl) hT rfl rfl ?_
                        clear hf; intro a hf
                        refine any_takeA (i := 33) hf rfl (Wn.none rfl) (rd_pick_f hf rfl rfl rfl) hT rfl rfl ?_
                        clear hf; intro a hf
                        refine any_done (by kernel_rfl) ?_
                        refine t_normal ?_
                        refine c_false hf rfl ?_
                        refine c_skip ?_
                        refine b_normal ?_
                        refine t_normal ?_
                        refine c_region ?_
                        refine step_l (st_rd hf (Wn.none rfl) (rd_add hf rfl rfl rfl (by first | exact Go.IntWalk.i64_in _ (by omega) | exact rfl)) hS rfl rfl ?_)
                        clear hf; intro a hf
                        refine step_l (st_rd hf (Wn.none rfl) (rd_move hf rfl rfl) hS rfl rfl ?_)
                        clear hf; intro a hf
                        refine done_l ?_
                        refine t_normal ⟨(i + 1, d || decide (inT n x)), ((hf.back (by repeat (first | exact Behind.refl | refine Behind.skip rfl ?_)) hk0).kb hf 37 rfl (by first | rfl | exact int_eq (by omega))), ⟨hS.sub (by repeat (first | exact Sub.refl | exact Sub.none | exact Sub.behind | (apply Sub.cons; (focus ((repeat (first | exact Sel.head | apply Sel.tail)); done))) | apply Sub.skip)), by omega⟩, by first | omega | (simp only []; omega)⟩
                        )
                      )
                    ·
                     clear hf; intro hc20 a hf
                     first
                     | (first | exact Bool.noConfusion hc20 | exact absurd rfl hc20 | exact absurd hc20 (by omega) | exact absurd (by omega) hc20; done)
                     | (
                      refine any_takeA (i := 27) hf rfl (Wn.some hf rfl rfl rfl rfl) (rd_pick_t hf rfl rfl rfl) hT rfl rfl ?_
                      clear hf; intro a hf
                      refine any_takeA (i := 28) hf rfl (Wn.some hf rfl rfl rfl rfl) (rd_move hf rfl rfl) hT rfl rfl ?_
                      clear hf; intro a hf
                      refine any_skipA (i := 30) hf rfl (Wn.some hf rfl rfl rfl rfl) hT rfl rfl ?_
                      clear hf; intro a hf
                      refine any_one (i := 29) rfl (by kernel_rfl) (st_skip hf (Wn.some hf rfl rfl rfl rfl) rfl rfl ?_)
                      clear hf; intro a hf
                      refine ⟨hT, ?_⟩
                      refine any_skipA (i := 31) hf rfl (Wn.some hf rfl rfl rfl rfl) hT rfl rfl ?_
                      clear hf; intro a hf
                      refine any_takeA (i := 32) hf rfl (Wn.some hf rfl rfl rfl rfl) (rd_pick_f hf rfl rfl rfl) hT rfl rfl ?_
                      clear hf; intro a hf
                      refine any_takeA (i := 33) hf rfl (Wn.none rfl) (rd_pick_f hf rfl rfl rfl) hT rfl rfl ?_
                      clear hf; intro a hf
                      refine any_done (by kernel_rfl) ?_
                      refine t_normal ?_
                      refine c_false hf rfl ?_
                      refine c_skip ?_
                      refine b_normal ?_
                      refine t_normal ?_
                      refine c_region ?_
                      refine step_l (st_rd hf (Wn.none rfl) (rd_add hf rfl rfl rfl (by first | exact Go.IntWalk.i64_in _ (by omega) | exact rfl)) hS rfl rfl ?_)
                      clear hf; intro a hf
                      refine step_l (st_rd hf (Wn.none rfl) (rd_move hf rfl rfl) hS rfl rfl ?_)
                      clear hf; intro a hf
                      refine done_l ?_
                      refine t_normal ⟨(i + 1, d || decide (inT n x)), ((hf.back (by repeat (first | exact Behind.refl | refine Behind.skip rfl ?_)) hk0).kb hf 37 rfl (by first | rfl | exact int_eq (by omega))), ⟨hS.sub (by repeat (first | exact Sub.refl | exact Sub.none | exact Sub.behind | (apply Sub.cons; (focus ((repeat (first | exact Sel.head | apply Sel.tail)); done))) | apply Sub.skip)), by omega⟩, by first | omega | (simp only []; omega)⟩
                      )
                    )
                  ·
                   clear hf; intro hc19 a hf
                   first
                   | (first | exact Bool.noConfusion hc19 | exact absurd rfl hc19 | exact absurd hc19 (by omega) | exact absurd (by omega) hc19; done)
                   | (
                    refine any_takeA (i := 23) hf rfl (Wn.some hf rfl rfl rfl rfl) (rd_move hf rfl rfl) hT rfl rfl ?_
                    clear hf; intro a hf
                    refine any_skipA (i := 24) hf rfl (Wn.some hf rfl rfl rfl rfl) hT rfl rfl ?_
                    clear hf; intro a hf
                    refine any_skipA (i := 25) hf rfl (Wn.some hf rfl rfl rfl rfl) hT rfl rfl ?_
                    clear hf; intro a hf
                    refine any_skipA (i := 26) hf rfl (Wn.some hf rfl rfl rfl rfl) hT rfl rfl ?_
                    clear hf; intro a hf
                    refine any_takeA (i := 27) hf rfl (Wn.some hf rfl rfl rfl rfl) (rd_pick_f hf rfl rfl rfl) hT rfl rfl ?_
                    clear hf; intro a hf
                    refine any_takeA (i := 28) hf rfl (Wn.some hf rfl rfl rfl rfl) (rd_move hf rfl rfl) hT rfl rfl ?_
                    clear hf; intro a hf
                    refine any_skipA (i := 30) hf rfl (Wn.some hf rfl rfl rfl rfl) hT rfl rfl ?_
                    clear hf; intro a hf
                    refine any_one (i := 29) rfl (by kernel_rfl) (st_skip hf (Wn.some hf rfl rfl rfl rfl) rfl rfl ?_)
                    clear hf; intro a hf
                    refine ⟨hT, ?_⟩
                    refine any_skipA (i := 31) hf rfl (Wn.some hf rfl rfl rfl rfl) hT rfl rfl ?_
                    clear hf; intro a hf
                    refine any_takeA (i := 32) hf rfl (Wn.some hf rfl rfl rfl rfl) (rd_pick_f hf rfl rfl rfl) hT rfl rfl ?_
                    clear hf; intro a hf
                    refine any_takeA (i := 33) hf rfl (Wn.none rfl) (rd_pick_f hf rfl rfl rfl) hT rfl rfl ?_
                    clear hf; intro a hf
                    refine any_done (by kernel_rfl) ?_
                    refine t_normal ?_
                    refine c_false hf rfl ?_
                    refine c_skip ?_
                    refine b_normal ?_
                    refine t_normal ?_
                    refine c_region ?_
                    refine step_l (st_rd hf (Wn.none rfl) (rd_add hf rfl rfl rfl (by first | exact Go.IntWalk.i64_in _ (by omega) | exact rfl)) hS rfl rfl ?_)
                    clear hf; intro a hf
                    refine step_l (st_rd hf (Wn.none rfl) (rd_move hf rfl rfl) hS rfl rfl ?_)
                    clear hf; intro a hf
                    refine done_l ?_
                    refine t_normal ⟨(i + 1, d || decide (inT n x)), ((hf.back (by repeat (first | exact Behind.refl | refine Behind.skip rfl ?_)) hk0).kb hf 37 rfl (by first | rfl | exact int_eq (by omega))), ⟨hS.sub (by repeat (first | exact Sub.refl | exact Sub.none | exact Sub.behind | (apply Sub.cons; (focus ((repeat (first | exact Sel.head | apply Sel.tail)); done))) | apply Sub.skip)), by omega⟩, by first | omega | (simp only []; omega)⟩
                    )
                  )
                )
             ·
              skip
              refine st_call hf (Wn.some hf rfl rfl rfl rfl) rfl rfl rfl fn18 (Made_c _ _ _ _ _ (hS.sel (by repeat (first | exact Sel.head | apply Sel.tail)))) rfl rfl ?_
              clear hf hS; rintro v a w ⟨rfl, hS⟩ hf
              replace hT := hS.sub' hT (by repeat (first | exact Sub.refl | exact Sub.none | exact Sub.behind | (apply Sub.cons; (focus ((repeat (first | exact Sel.head | apply Sel.tail)); done))) | apply Sub.skip))
              refine ⟨hT, ?_⟩
              refine any_one (i := 6) rfl (by kernel_rfl) (st_rd hf (Wn.some hf rfl rfl rfl rfl) (rd_load1 hf rfl rfl ag3 (by intro _ h; exact ((h.sel (by repeat (first | exact Sel.head | apply Sel.tail)) : Sat W (mkM 3 4 bc br _ :: _) _).unall).cell (by repeat (first | exact Sel.head | apply Sel.tail)) rfl)) hS rfl rfl ?_)
              clear hf; intro a hf
              refine ⟨hT, ?_⟩
              refine any_takeB (i := 9) hf rfl (by kernel_rfl) (by kernel_rfl) (by kernel_rfl) (fun _ _ _ _ h => h) (Wn.some hf rfl rfl rfl rfl) (rd_neq hf rfl rfl rfl) hT rfl rfl ?_ ?_
              ·
               clear hf; intro hc22 a hf
               first
               | (first | exact Bool.noConfusion hc22 | exact absurd rfl hc22 | exact absurd hc22 (by omega) | exact absurd (by omega) hc22; done)
               | (
                refine any_takeA (i := 10) hf rfl (Wn.none rfl) (rd_pick_f hf rfl rfl rfl) hT rfl rfl ?_
                clear hf; intro a hf
                refine any_takeA (i := 11) hf rfl (Wn.none rfl) (rd_move hf rfl rfl) hT rfl rfl ?_
                clear hf; intro a hf
                refine any_one (i := 12) rfl (by kernel_rfl) (st_skip hf (Wn.some hf rfl rfl rfl rfl) rfl rfl ?_)
                clear hf; intro a hf
                refine ⟨hT, ?_⟩
                refine any_skipA (i := 13) hf rfl (Wn.some hf rfl rfl rfl rfl) hT rfl rfl ?_
                clear hf; intro a hf
                refine any_skipA (i := 14) hf rfl (Wn.some hf rfl rfl rfl rfl) hT rfl rfl ?_
                clear hf; intro a hf
                refine any_skipA (i := 16) hf rfl (Wn.undef hf rfl rfl rfl) hT rfl rfl ?_
                clear hf; intro a hf
                refine any_one (i := 15) rfl (by kernel_rfl) (st_skip hf (Wn.undef hf rfl rfl rfl) rfl rfl ?_)
                clear hf; intro a hf
                refine ⟨hT, ?_⟩
                refine any_skipA (i := 17) hf rfl (Wn.undef hf rfl rfl rfl) hT rfl rfl ?_
                clear hf; intro a hf
                refine any_skipA (i := 18) hf rfl (Wn.some hf rfl rfl rfl rfl) hT rfl rfl ?_
                clear hf; intro a hf
                refine any_takeA (i := 19) hf rfl (Wn.none rfl) (rd_pick_t hf rfl rfl rfl) hT rfl rfl ?_
                clear hf; intro a hf
                refine any_takeA (i := 20) hf rfl (Wn.none rfl) (rd_move hf rfl rfl) hT rfl rfl ?_
                clear hf; intro a hf
                refine any_skipA (i := 21) hf rfl (Wn.some hf rfl rfl rfl rfl) hT rfl rfl ?_
                clear hf; intro a hf
                refine any_skipA (i := 22) hf rfl (Wn.some hf rfl rfl rfl rfl) hT rfl rfl ?_
                clear hf; intro a hf
                refine any_skipA (i := 23) hf rfl (Wn.some hf rfl rfl rfl rfl) hT rfl rfl ?_
                clear hf; intro a hf
                refine any_skipA (i := 24) hf rfl (Wn.undef hf rfl rfl rfl) hT rfl rfl ?_
                clear hf; intro a hf
                refine any_skipA (i := 25) hf rfl (Wn.undef hf rfl rfl rfl) hT rfl rfl ?_
                clear hf; intro a hf
                refine any_skipA (i := 26) hf rfl (Wn.undef hf rfl rfl rfl) hT rfl rfl ?_
                clear hf; intro a hf
                refine any_skipA (i := 27) hf rfl (Wn.some hf rfl rfl rfl rfl) hT rfl rfl ?_
                clear hf; intro a hf
                refine any_skipA (i := 28) hf rfl (Wn.some hf rfl rfl rfl rfl) hT rfl rfl ?_
                clear hf; intro a hf
                refine any_skipA (i := 30) hf rfl (Wn.undef hf rfl rfl rfl) hT rfl rfl ?_
                clear hf; intro a hf
                refine any_one (i := 29) rfl (by kernel_rfl) (st_skip hf (Wn.undef hf rfl rfl rfl) rfl rfl ?_)
                clear hf; intro a hf
                refine ⟨hT, ?_⟩
                refine any_skipA (i := 31) hf rfl (Wn.undef hf rfl rfl rfl) hT rfl rfl ?_
                clear hf; intro a hf
                refine any_skipA (i := 32) hf rfl (Wn.some hf rfl rfl rfl rfl) hT rfl rfl ?_
                clear hf; intro a hf
                refine any_takeA (i := 33) hf rfl (Wn.none rfl) (rd_pick_t hf rfl rfl rfl) hT rfl rfl ?_
                clear hf; intro a hf
                refine any_done (by kernel_rfl) ?_
                refine t_normal ?_
                refine c_true hf rfl ?_
                refine c_seq ?_
                refine c_region ?_
                refine step_l (st_rd hf (Wn.none rfl) (rd_assign hf rfl rfl) hS rfl rfl ?_)
                clear hf; intro a hf
                refine done_l ?_
                refine t_normal ?_
                refine c_ret ?_
                refine b_ret ?_
                refine t_ret ?_
                refine t_ret ?_
                refine b_ret ?_
                refine t_ret ?_
                refine e_res1 hf.defers rfl (res_tmp hf rfl .nil) ?_
                exact ⟨rfl, hS.sub (by repeat (first | exact Sub.refl | exact Sub.none | exact Sub.behind | (apply Sub.cons; (focus ((repeat (first | exact Sel.head | apply Sel.tail)); done))) | apply Sub.skip))⟩
                )
              ·
               clear hf; intro hc22 a hf
               first
               | (first | exact Bool.noConfusion hc22 | exact absurd rfl hc22 | exact absurd hc22 (by omega) | exact absurd (by omega) hc22; done)
               | (
                refine any_takeA (i := 10) hf rfl (Wn.none rfl) (rd_pick_f hf rfl rfl rfl) hT rfl rfl ?_
                clear hf; intro a hf
                refine any_takeA (i := 11) hf rfl (Wn.none rfl) (rd_move hf rfl rfl) hT rfl rfl ?_
                clear hf; intro a hf
                refine any_one (i := 12) rfl (by kernel_rfl) (st_rd hf (Wn.some hf rfl rfl rfl rfl) (rd_load1 hf rfl rfl ag3 (by intro _ h; exact ((h.sel (by repeat (first | exact Sel.head | apply Sel.tail)) : Sat W (mkM 3 4 bc br _ :: _) _).unall).cell (by repeat (first | exact Sel.head | apply Sel.tail)) rfl)) hS rfl rfl ?_)
                clear hf; intro a hf
                refine ⟨hT, ?_⟩
                refine any_takeB (i := 13) hf rfl (by kernel_rfl) (by kernel_rfl) (by kernel_rfl) (fun _ _ _ _ h => h) (Wn.some hf rfl rfl rfl rfl) (rd_neq hf rfl rfl rfl) hT rfl rfl ?_ ?_
                ·
                 clear hf; intro hc23 a hf
                 first
                 | (first | exact Bool.noConfusion hc23 | exact absurd rfl hc23 | exact absurd hc23 (by omega) | exact absurd (by omega) hc23; done)
                 | (
                  refine any_takeA (i := 14) hf rfl (Wn.some hf rfl rfl rfl rfl) (rd_move hf rfl rfl) hT rfl rfl ?_
                  clear hf; intro a hf
                  refine any_takeA (i := 16) hf rfl (Wn.some hf rfl rfl rfl rfl) (rd_move hf rfl rfl) hT rfl rfl ?_
                  clear hf; intro a hf
                  refine any_one (i := 15) rfl (by kernel_rfl) (st_rd hf (Wn.some hf rfl rfl rfl rfl) (rd_load1 hf rfl rfl ag3 (by intro _ h; exact ((h.sel (by repeat (first | exact Sel.head | apply Sel.tail)) : Sat W (mkM 3 4 bc br _ :: _) _).unall).cell (by repeat (first | exact Sel.head | apply Sel.tail)) rfl)) hS rfl rfl ?_)
                  clear hf; intro a hf
                  refine ⟨hT, ?_⟩
                  refine any_takeB (i := 17) hf rfl (by kernel_rfl) (by kernel_rfl) (by kernel_rfl) (fun _ _ _ _ h => h) (Wn.some hf rfl rfl rfl rfl) (rd_neq hf rfl rfl rfl) hT rfl rfl ?_ ?_
                  ·
                   clear hf; intro hc24 a hf
                   first
                   | (first | exact Bool.noConfusion hc24 | exact absurd rfl hc24 | exact absurd hc24 (by omega) | exact absurd (by omega) hc24; done)
                   | (
                    refine any_takeA (i := 18) hf rfl (Wn.some hf rfl rfl rfl rfl) (rd_pick_t hf rfl rfl rfl) hT rfl rfl ?_
                    clear hf; intro a hf
                    refine any_takeA (i := 19) hf rfl (Wn.none rfl) (rd_pick_f hf rfl rfl rfl) hT rfl rfl ?_
                    clear hf; intro a hf
                    refine any_takeA (i := 20) hf rfl (Wn.none rfl) (rd_move hf rfl rfl) hT rfl rfl ?_
                    clear hf; intro a hf
                    refine any_skipA (i := 21) hf rfl (Wn.some hf rfl rfl rfl rfl) hT rfl rfl ?_
                    clear hf; intro a hf
                    refine any_skipA (i := 22) hf rfl (Wn.some hf rfl rfl rfl rfl) hT rfl rfl ?_
                    clear hf; intro a hf
                    refine any_skipA (i := 23) hf rfl (Wn.some hf rfl rfl rfl rfl) hT rfl rfl ?_
                    clear hf; intro a hf
                    refine any_skipA (i := 24) hf rfl (Wn.undef hf rfl rfl rfl) hT rfl rfl ?_
                    clear hf; intro a hf
                    refine any_skipA (i := 25) hf rfl (Wn.undef hf rfl rfl rfl) hT rfl rfl ?_
                    clear hf; intro a hf
                    refine any_skipA (i := 26) hf rfl (Wn.undef hf rfl rfl rfl) hT rfl rfl ?_
                    clear hf; intro a hf
                    refine any_skipA (i := 27) hf rfl (Wn.some hf rfl rfl rfl rfl) hT rfl rfl ?_
                    clear hf; intro a hf
                    refine any_skipA (i := 28) hf rfl (Wn.some hf rfl rfl rfl rfl) hT rfl rfl ?_
                    clear hf; intro a hf
                    refine any_skipA (i := 30) hf rfl (Wn.undef hf rfl rfl rfl) hT rfl rfl ?_
                    clear hf; intro a hf
                    refine any_one (i := 29) rfl (by kernel_rfl) (st_skip hf (Wn.undef hf rfl rfl rfl) rfl rfl ?_)
                    clear hf; intro a hf
                    refine ⟨hT, ?_⟩
                    refine any_skipA (i := 31) hf rfl (Wn.undef hf rfl rfl rfl) hT rfl rfl ?_
                    clear hf; intro a hf
                    refine any_skipA (i := 32) hf rfl (Wn.some hf rfl rfl rfl rfl) hT rfl rfl ?_
                    clear hf; intro a hf
                    refine any_takeA (i := 33) hf rfl (Wn.none rfl) (rd_pick_t hf rfl rfl rfl) hT rfl rfl ?_
                    clear hf; intro a hf
                    refine any_done (by kernel_rfl) ?_
                    refine t_normal ?_
                    refine c_true hf rfl ?_
                    refine c_seq ?_
                    refine c_region ?_
                    refine step_l (st_rd hf (Wn.none rfl) (rd_assign hf rfl rfl) hS rfl rfl ?_)
                    clear hf; intro a hf
                    refine done_l ?_
                    refine t_normal ?_
                    refine c_ret ?_
                    refine b_ret ?_
                    refine t_ret ?_
                    refine t_ret ?_
                    refine b_ret ?_
                    refine t_ret ?_
                    refine e_res1 hf.defers rfl (res_tmp hf rfl .nil) ?_
                    exact ⟨rfl, hS.sub (by repeat (first | exact Sub.refl | exact Sub.none | exact Sub.behind | (apply Sub.cons; (focus ((repeat (first | exact Sel.head | apply Sel.tail)); done))) | apply Sub.skip))⟩
                    )
                  ·
                   clear hf; intro hc24 a hf
                   first
                   | (first | exact Bool.noConfusion hc24 | exact absurd rfl hc24 | exact absurd hc24 (by omega) | exact absurd (by omega) hc24; done)
                   | (
                    refine any_takeA (i := 18) hf rfl (Wn.some hf rfl rfl rfl rfl) (rd_pick_t hf rfl rfl rfl) hT rfl rfl ?_
                    clear hf; intro a hf
                    refine any_takeA (i := 19) hf rfl (Wn.none rfl) (rd_pick_f hf rfl rfl rfl) hT rfl rfl ?_
                    clear hf; intro a hf
                    refine any_takeA (i := 20) hf rfl (Wn.none rfl) (rd_move hf rfl rfl) hT rfl rfl ?_
                    clear hf; intro a hf
                    refine any_takeA (i := 21) hf rfl (Wn.some hf rfl rfl rfl rfl) (rd_move hf rfl rfl) hT rfl rfl ?_
                    clear hf; intro a hf
                    refine any_takeB (i := 22) hf rfl (by kernel_rfl) (by kernel_rfl) (by kernel_rfl) (fun _ _ _ _ h => h) (Wn.some hf rfl rfl rfl rfl) (rd_geq hf rfl rfl rfl) hT rfl rfl ?_ ?_
                    ·
                     clear hf; intro hc25 a hf
                     first
                     | (first | exact Bool.noConfusion hc25 | exact absurd rfl hc25 | exact absurd hc25 (by omega) | exact absurd (by omega) hc25; done)
                     | (
                      refine any_takeA (i := 23) hf rfl (Wn.some hf rfl rfl rfl rfl) (rd_move hf rfl rfl) hT rfl rfl ?_
                      clear hf; intro a hf
                      refine any_takeA (i := 24) hf rfl (Wn.some hf rfl rfl rfl rfl) (rd_move hf rfl rfl) hT rfl rfl ?_
                      clear hf; intro a hf
                      refine any_takeA (i := 25) hf rfl (Wn.some hf rfl rfl rfl rfl) (rd_move hf rfl rfl) hT rfl rfl ?_
                      clear hf; intro a hf
                      refine any_takeB (i := 26) hf rfl (by kernel_rfl) (by kernel_rfl) (by kernel_rfl) (fun _ _ _ _ h => h) (Wn.some hf rfl rfl rfl rfl) (rd_lss hf rfl rfl rfl) hT rfl rfl ?_ ?_
                      ·
                       clear hf; intro hc26 a hf
                       first
                       | (first | exact Bool.noConfusion hc26 | exact absurd rfl hc26 | exact absurd hc26 (by omega) | exact absurd (by omega) hc26; done)
                       | (
                        refine any_takeA (i := 27) hf rfl (Wn.some hf rfl rfl rfl rfl) (rd_pick_t hf rfl rfl rfl) hT rfl rfl ?_
                        clear hf; intro a hf
                        refine any_takeA (i := 28) hf rfl (Wn.some hf rfl rfl rfl rfl) (rd_move hf rfl rfl) hT rfl rfl ?_
                        clear hf; intro a hf
                        refine any_takeA (i := 30) hf rfl (Wn.some hf rfl rfl rfl rfl) (rd_move hf rfl rfl) hT rfl rfl ?_
                        clear hf; intro a hf
                        refine any_one (i := 29) rfl (by kernel_rfl) (st_rd hf (Wn.some hf rfl rfl rfl rfl) (rd_load1 hf rfl rfl ag3 (by intro _ h; exact ((h.sel (by repeat (first | exact Sel.head | apply Sel.tail)) : Sat W (mkM 3 4 bc br _ :: _) _).unall).cell (by repeat (first | exact Sel.head | apply Sel.tail)) rfl)) hS rfl rfl ?_)
                        clear hf; intro a hf
                        refine ⟨hT, ?_⟩
                        refine any_takeB (i := 31) hf rfl (by kernel_rfl) (by kernel_rfl) (by kernel_rfl) (fun _ _ _ _ h => h) (Wn.some hf rfl rfl rfl rfl) (rd_neq hf rfl rfl rfl) hT rfl rfl ?_ ?_
                        ·
                         clear hf; intro hc27 a hf
                         first
                         | (first | exact Bool.noConfusion hc27 | exact absurd rfl hc27 | exact absurd hc27 (by omega) | exact absurd (by omega) hc27; done)
                         | (
                          refine any_takeA (i := 32) hf rfl (Wn.some hf rfl rfl rfl rfl) (rd_pick_t hf rfl rfl rfl) hT rfl rfl ?_
                          clear hf; intro a hf
                          refine any_takeA (i := 33) hf rfl (Wn.none rfl) (rd_pick_f hf rfl rfl rfl) hT rfl rfl ?_
                          clear hf; intro a hf
                          refine any_done (by kernel_rfl) ?_
                          refine t_normal ?_
                          refine c_true hf rfl ?_
                          refine c_seq ?_
                          refine c_region ?_
                          refine step_l (st_rd hf (Wn.none rfl) (rd_assign hf rfl rfl) hS rfl rfl ?_)
                          clear hf; intro a hf
                          refine done_l ?_
                          refine t_normal ?_
                          refine c_ret ?_
                          refine b_ret ?_
                          refine t_ret ?_
                          refine t_ret ?_
                          refine b_ret ?_
                          refine t_ret ?_
                          refine e_res1 hf.defers rfl (res_tmp hf rfl .nil) ?_
                          exact ⟨rfl, hS.sub (by repeat (first | exact Sub.refl | exact Sub.none | exact Sub.behind | (apply Sub.cons; (focus ((repeat (first | exact Sel.head | apply Sel.tail)); done))) | apply Sub.skip))⟩
                          )
                        ·
                         clear hf; intro hc27 a hf
                         first
                         | (first | exact Bool.noConfusion hc27 | exact absurd rfl hc27 | exact absurd hc27 (by omega) | exact absurd (by omega) hc27; done)
                         | (
                          refine any_takeA (i := 32) hf rfl (Wn.some hf rfl rfl rfl rfl) (rd_pick_t hf rfl rfl rfl) hT rfl rfl ?_
                          clear hf; intro a hf
                          refine any_takeA (i := 33) hf rfl (Wn.none rfl) (rd_pick_f hf rfl rfl rfl) hT rfl rfl ?_
                          clear hf; intro a hf
                          refine any_done (by kernel_rfl) ?_
                          refine t_normal ?_
                          refine c_false hf rfl ?_
                          refine c_skip ?_
                          refine b_normal ?_
                          refine t_normal ?_
                          refine c_region ?_
                          refine step_l (st_rd hf (Wn.none rfl) (rd_add hf rfl rfl rfl (by first | exact Go.IntWalk.i64_in _ (by omega) | exact rfl)) hS rfl rfl ?_)
                          clear hf; intro a hf
                          refine step_l (st_rd hf (Wn.none rfl) (rd_move hf rfl rfl) hS rfl rfl ?_)
                          clear hf; intro a hf
                          refine done_l ?_
                          refine t_normal ⟨(i + 1, d || decide (inT n x)), ((hf.back (by repeat (first | exact Behind.refl | refine Behind.skip rfl ?_)) hk0).kb hf 37 rfl (by first | rfl | exact int_eq (by omega))), ⟨hS.sub (by repeat (first | exact Sub.refl | exact Sub.none | exact Sub.behind | (apply Sub.cons; (focus ((repeat (first | exact Sel.head | apply Sel.tail)); done))) | apply Sub.skip)), by omega⟩, by first | omega | (simp only []; omega)⟩
                          )
                        )
                      ·
                       clear hf; intro hc26 a hf
                       first
                       | (first | exact Bool.noConfusion hc26 | exact absurd rfl hc26 | exact absurd hc26 (by omega) | exact absurd (by omega) hc26; done)
                       | (
                        refine any_takeA (i := 27) hf rfl (Wn.some hf rfl rfl rfl rfl) (rd_pick_t hf rfl rfl rfl) hT rfl rfl ?_
                        clear hf; intro a hf
                        refine any_takeA (i := 28) hf rfl (Wn.some hf rfl rfl rfl rfl) (rd_move hf rfl rfl) hT rfl rfl ?_
                        clear hf; intro a hf
                        refine any_skipA (i := 30) hf rfl (Wn.some hf rfl rfl rfl rfl) hT rfl rfl ?_
                        clear hf; intro a hf
                        refine any_one (i := 29) rfl (by kernel_rfl) (st_skip hf (Wn.some hf rfl rfl rfl rfl) rfl rfl ?_)
                        clear hf; intro a hf
                        refine ⟨hT, ?_⟩
                        refine any_skipA (i := 31) hf rfl (Wn.some hf rfl rfl rfl rfl) hT rfl rfl ?_
                        clear hf; intro a hf
                        refine any_takeA (i := 32) hf rfl (Wn.some hf rfl rfl rfl rfl) (rd_pick_f hf rfl rfl rfl) hT rfl rfl ?_
                        clear hf; intro a hf
                        refine any_takeA (i := 33) hf rfl (Wn.none rfl) (rd_pick_f hf rfl rfl rfl) hT rfl rfl ?_
                        clear hf; intro a hf
                        refine any_done (by kernel_rfl) ?_
                        refine t_normal ?_
                        refine c_false hf rfl ?_
                        refine c_skip ?_
                        refine b_normal ?_
                        refine t_normal ?_
                        refine c_region ?_
                        refine step_l (st_rd hf (Wn.none rfl) (rd_add hf rfl rfl rfl (by first | exact Go.IntWalk.i64_in _ (by omega) | exact rfl)) hS rfl rfl ?_)
                        clear hf; intro a hf
                        refine step_l (st_rd hf (Wn.none rfl) (rd_move hf rfl rfl) hS rfl rfl ?_)
                        clear hf; intro a hf
                        refine done_l ?_
                        refine t_normal ⟨(i + 1, d || decide (inT n x)), ((hf.back (by repeat (first | exact Behind.refl | refine Behind.skip rfl ?_)) hk0).kb hf 37 rfl (by first | rfl | exact int_eq (by omega))), ⟨hS.sub (by repeat (first | exact Sub.refl | exact Sub.none | exact Sub.behind | (apply Sub.cons; (focus ((repeat (first | exact Sel.head | apply Sel.tail)); done))) | apply Sub.skip)), by omega⟩, by first | omega | (simp only []; omega)⟩
                        )
                      )
                    ·
                     clear hf; intro hc25 a hf
                     first
                     | (first | exact Bool.noConfusion hc25 | exact absurd rfl hc25 | exact absurd hc25 (by omega) | exact absurd (by omega) hc25; done)
                     | (
                      refine any_takeA (i := 23) hf rfl (Wn.some hf rfl rfl rfl rfl) (rd_move hf rfl rfl) hT rfl rfl ?_
                      clear hf; intro a hf
                      refine any_skipA (i := 24) hf rfl (Wn.some hf rfl rfl rfl rfl) hT rfl rfl ?_
                      clear hf; intro a hf
                      refine any_skipA (i := 25) hf rfl (Wn.some hf rfl rfl rfl rfl) hT rfl rfl ?_
                      clear hf; intro a hf
                      refine any_skipA (i := 26) hf rfl (Wn.some hf rfl rfl rfl rfl) hT rfl rfl ?_
                      clear hf; intro a hf
                      refine any_takeA (i := 27) hf rfl (Wn.some hf rfl rfl rfl rfl) (rd_pick_f hf rfl rfl rfl) hT rfl rfl ?_
                      clear hf; intro a hf
                      refine any_takeA (i := 28) hf rfl (Wn.some hf rfl rfl rfl rfl) (rd_move hf rfl rfl) hT rfl rfl ?_
                      clear hf; intro a hf
                      refine any_skipA (i := 30) hf rfl (Wn.some hf rfl rfl rfl rfl) hT rfl rfl ?_
                      clear hf; intro a hf
                      refine any_one (i := 29) rfl (by kernel_rfl) (st_skip hf (Wn.some hf rfl rfl rfl rfl) rfl rfl ?_)
                      clear hf; intro a hf
                      refine ⟨hT, ?_⟩
                      refine any_skipA (i := 31) hf rfl (Wn.some hf rfl rfl rfl rfl) hT rfl rfl ?_
                      clear hf; intro a hf
                      refine any_takeA (i := 32) hf rfl (Wn.some hf rfl rfl rfl rfl) (rd_pick_f hf rfl rfl rfl) hT rfl rfl ?_
                      clear hf; intro a hf
                      refine any_takeA (i := 33) hf rfl (Wn.none rfl) (rd_pick_f hf rfl rfl rfl) hT rfl rfl ?_
                      clear hf; intro a hf
                      refine any_done (by kernel_rfl) ?_
                      refine t_normal ?_
                      refine c_false hf rfl ?_
                      refine c_skip ?_
                      refine b_normal ?_
                      refine t_normal ?_
                      refine c_region ?_
                      refine step_l (st_rd hf (Wn.none rfl) (rd_add hf rfl rfl rfl (by first | exact Go.IntWalk.i64_in _ (by omega) | exact rfl)) hS rfl rfl ?_)
                      clear hf; intro a hf
                      refine step_l (st_rd hf (Wn.none rfl) (rd_move hf rfl rfl) hS rfl rfl ?_)
                      clear hf; intro a hf
                      refine done_l ?_
                      refine t_normal ⟨(i + 1, d || decide (inT n x)), ((hf.back (by repeat (first | exact Behind.refl | refine Behind.skip rfl ?_)) hk0).kb hf 37 rfl (by first | rfl | exact int_eq (by omega))), ⟨hS.sub (by repeat (first | exact Sub.refl | exact Sub.none | exact Sub.behind | (apply Sub.cons; (focus ((repeat (first | exact Sel.head | apply Sel.tail)); done))) | apply Sub.skip)), by omega⟩, by first | omega | (simp only []; omega)⟩
                      )
                    )
                  )
                ·
                 clear hf; intro hc23 a hf
                 first
                 | (first | exact Bool.noConfusion hc23 | exact absurd rfl hc23 | exact absurd hc23 (by omega) | exact absurd (by omega) hc23; done)
                 | (
                  refine any_takeA (i := 14) hf rfl (Wn.some hf rfl rfl rfl rfl) (rd_move hf rfl rfl) hT rfl rfl ?_
                  clear hf; intro a hf
                  refine any_skipA (i := 16) hf rfl (Wn.some hf rfl rfl rfl rfl) hT rfl rfl ?_
                  clear hf; intro a hf
                  refine any_one (i := 15) rfl (by kernel_rfl) (st_skip hf (Wn.some hf rfl rfl rfl rfl) rfl rfl ?_)
                  clear hf; intro a hf
                  refine ⟨hT, ?_⟩
                  refine any_skipA (i := 17) hf rfl (Wn.some hf rfl rfl rfl rfl) hT rfl rfl ?_
                  clear hf; intro a hf
                  refine any_takeA (i := 18) hf rfl (Wn.some hf rfl rfl rfl rfl) (rd_pick_f hf rfl rfl rfl) hT rfl rfl ?_
                  clear hf; intro a hf
                  refine any_takeA (i := 19) hf rfl (Wn.none rfl) (rd_pick_f hf rfl rfl rfl) hT rfl rfl ?_
                  clear hf; intro a hf
                  refine any_takeA (i := 20) hf rfl (Wn.none rfl) (rd_move hf rfl rfl) hT rfl rfl ?_
                  clear hf; intro a hf
                  refine any_takeA (i := 21) hf rfl (Wn.some hf rfl rfl rfl rfl) (rd_move hf rfl rfl) hT rfl rfl ?_
                  clear hf; intro a hf
                  refine any_takeB (i := 22) hf rfl (by kernel_rfl) (by kernel_rfl) (by kernel_rfl) (fun _ _ _ _ h => h) (Wn.some hf rfl rfl rfl rfl) (rd_geq hf rfl rfl rfl) hT rfl rfl ?_ ?_
                  ·
                   clear hf; intro hc28 a hf
                   first
                   | (first | exact Bool.noConfusion hc28 | exact absurd rfl hc28 | exact absurd hc28 (by omega) | exact absurd (by omega) hc28; done)
                   | (
                    refine any_takeA (i := 23) hf rfl (Wn.some hf rfl rfl rfl rfl) (rd_move hf rfl rfl) hT rfl rfl ?_
                    clear hf; intro a hf
                    refine any_takeA (i := 24) hf rfl (Wn.some hf rfl rfl rfl rfl) (rd_move hf rfl rfl) hT rfl rfl ?_
                    clear hf; intro a hf
                    refine any_takeA (i := 25) hf rfl (Wn.some hf rfl rfl rfl rfl) (rd_move hf rfl rfl) hT rfl rfl ?_
                    clear hf; intro a hf
                    refine any_takeB (i := 26) hf rfl (by kernel_rfl) (by kernel_rfl) (by kernel_rfl) (fun _ _ _ _ h => h) (Wn.some hf rfl rfl rfl rfl) (rd_lss hf rfl rfl rfl) hT rfl rfl ?_ ?_
                    ·
                     clear hf; intro hc29 a hf
                     first
                     | (first | exact Bool.noConfusion hc29 | exact absurd rfl hc29 | exact absurd hc29 (by omega) | exact absurd (by omega) hc29; done)
                     | (
                      refine any_takeA (i := 27) hf rfl (Wn.some hf rfl rfl rfl rfl) (rd_pick_t hf rfl rfl rfl) hT rfl rfl ?_
                      clear hf; intro a hf
                      refine any_takeA (i := 28) hf rfl (Wn.some hf rfl rfl rfl rfl) (rd_move hf rfl rfl) hT rfl rfl ?_
                      clear hf; intro a hf
                      refine any_takeA (i := 30) hf rfl (Wn.some hf rfl rfl rfl rfl) (rd_move hf rfl rfl) hT rfl rfl ?_
                      clear hf; intro a hf
                      refine any_one (i := 29) rfl (by kernel_rfl) (st_rd hf (Wn.some hf rfl rfl rfl rfl) (rd_load1 hf rfl rfl ag3 (by intro _ h; exact ((h.sel (by repeat (first | exact Sel.head | apply Sel.tail)) : Sat W (mkM 3 4 bc br _ :: _) _).unall).cell (by repeat (first | exact Sel.head | apply Sel.tail)) rfl)) hS rfl rfl ?_)
                      clear hf; intro a hf
                      refine ⟨hT, ?_⟩
                      refine any_takeB (i := 31) hf rfl (by kernel_rfl) (by kernel_rfl) (by kernel_rfl) (fun _ _ _ _ h => h) (Wn.some hf rfl rfl rfl rfl) (rd_neq hf rfl rfl rfl) hT rfl rfl ?_ ?_
                      ·
                       clear hf; intro hc30 a hf
                       first
                       | (first | exact Bool.noConfusion hc30 | exact absurd rfl hc30 | exact absurd hc30 (by omega) | exact absurd (by omega) hc30; done)
                       | (
                        refine any_takeA (i := 32) hf rfl (Wn.some hf rfl rfl rfl rfl) (rd_pick_t hf rfl rfl rfl) hT rfl rfl ?_
                        clear hf; intro a hf
                        refine any_takeA (i := 33) hf rfl (Wn.none rfl) (rd_pick_f hf rfl rfl rfl) hT rfl rfl ?_
                        clear hf; intro a hf
                        refine any_done (by kernel_rfl) ?_
                        refine t_normal ?_
                        refine c_true hf rfl ?_
                        refine c_seq ?_
                        refine c_region ?_
                        refine step_l (st_rd hf (Wn.none rfl) (rd_assign hf rfl rfl) hS rfl rfl ?_)
                        clear hf; intro a hf
                        refine done_l ?_
                        refine t_normal ?_
                        refine c_ret ?_
                        refine b_ret ?_
                        refine t_ret ?_
                        refine t_ret ?_
                        refine b_ret ?_
                        refine t_ret ?_
                        refine e_res1 hf.defers rfl (res_tmp hf rfl .nil) ?_
                        exact ⟨rfl, hS.sub (by repeat (first | exact Sub.refl | exact Sub.none | exact Sub.behind | (apply Sub.cons; (focus ((repeat (first | exact Sel.head | apply Sel.tail)); done))) | apply Sub.skip))⟩
                        )
                      ·
                       clear hf; intro hc30 a hf
                       first
                       | (first | exact Bool.noConfusion hc30 | exact absurd rfl hc30 | exact absurd hc30 (by omega) | exact absurd (by omega) hc30; done)
                       | (
                        refine any_takeA (i := 32) hf rfl (Wn.some hf rfl rfl rfl rfl) (rd_pick_t hf rfl rfl rfl) hT rfl rfl ?_
                        clear hf; intro a hf
                        refine any_takeA (i := 33) hf rfl (Wn.none rfl) (rd_pick_f hf rfl rfl rfl) hT rfl rfl ?_
                        clear hf; intro a hf
                        refine any_done (by kernel_rfl) ?_
                        refine t_normal ?_
                        refine c_false hf rfl ?_
                        refine c_skip ?_
                        refine b_normal ?_
                        refine t_normal ?_
                        refine c_region ?_
                        refine step_l (st_rd hf (Wn.none rfl) (rd_add hf rfl rfl rfl (by first | exact Go.IntWalk.i64_in _ (by omega) | exact rfl)) hS rfl rfl ?_)
                        clear hf; intro a hf
                        refine step_l (st_rd hf (Wn.none rfl) (rd_move hf rfl rfl) hS rfl rfl ?_)
                        clear hf; intro a hf
                        refine done_l ?_
                        refine t_normal ⟨(i + 1, d || decide (inT n x)), ((hf.back (by repeat (first | exact Behind.refl | refine Behind.skip rfl ?_)) hk0).kb hf 37 rfl (by first | rfl | exact int_eq (by omega))), ⟨hS.sub (by repeat (first | exact Sub.refl | exact Sub.none | exact Sub.behind | (apply Sub.cons; (focus ((repeat (first | exact Sel.head | apply Sel.tail)); done))) | apply Sub.skip)), by omega⟩, by first | omega | (simp only []; omega)⟩
                        )
                      )
                    ·
                     clear hf; intro hc29 a hf
                     first
                     | (first | exact Bool.noConfusion hc29 | exact absurd rfl hc29 | exact absurd hc29 (by omega) | exact absurd (by omega) hc29; done)
                     | (
                      refine any_takeA (i := 27) hf rfl (Wn.some hf rfl rfl rfl rfl) (rd_pick_t hf rfl rfl rfl) hT rfl rfl ?_
                      clear hf; intro a hf
                      refine any_takeA (i := 28) hf rfl (Wn.some hf rfl rfl rfl rfl) (rd_move hf rfl rfl) hT rfl rfl ?_
                      clear hf; intro a hf
                      refine any_skipA (i := 30) hf rfl (Wn.some hf rfl rfl rfl rfl) hT rfl rfl ?_
                      clear hf; intro a hf
                      refine any_one (i := 29) rfl (by kernel_rfl) (st_skip hf (Wn.some hf rfl rfl rfl rfl) rfl rfl ?_)
                      clear hf; intro a hf
                      refine ⟨hT, ?_⟩
                      refine any_skipA (i := 31) hf rfl (Wn.some hf rfl rfl rfl rfl) hT rfl rfl ?_
                      clear hf; intro a hf
                      refine any_takeA (i := 32) hf rfl (Wn.some hf rfl rfl rfl rfl) (rd_pick_f hf rfl rfl rfl) hT rfl rfl ?_
                      clear hf; intro a hf
                      refine any_takeA (i := 33) hf rfl (Wn.none rfl) (rd_pick_f hf rfl rfl rfl) hT rfl rfl ?_
                      clear hf; intro a hf
                      refine any_done (by kernel_rfl) ?_
                      refine t_normal ?_
                      refine c_false hf rfl ?_
                      refine c_skip ?_
                      refine b_normal ?_
                      refine t_normal ?_
                      refine c_region ?_
                      refine step_l (st_rd hf (Wn.none rfl) (rd_add hf rfl rfl rfl (by first | exact Go.IntWalk.i64_in _ (by omega) | exact rfl)) hS rfl rfl ?_)
                      clear hf; intro a hf
                      refine step_l (st_rd hf (Wn.none rfl) (rd_move hf rfl rfl) hS rfl rfl ?_)
                      clear hf; intro a hf
                      refine done_l ?_
                      refine t_normal ⟨(i + 1, d || decide (inT n x)), ((hf.back (by repeat (first | exact Behind.refl | refine Behind.skip rfl ?_)) hk0).kb hf 37 rfl (by first | rfl | exact int_eq (by omega))), ⟨hS.sub (by repeat (first | exact Sub.refl | exact Sub.none | exact Sub.behind | (apply Sub.cons; (focus ((repeat (first | exact Sel.head | apply Sel.tail)); done))) | apply Sub.skip)), by omega⟩, by first | omega | (simp only []; omega)⟩
                      )
                    )
                  ·
                   clear hf; intro hc28 a hf
                   first
                   | (first | exact Bool.noConfusion hc28 | exact absurd rfl hc28 | exact absurd hc28 (by omega) | exact absurd (by omega) hc28; done)
                   | (
                    refine any_takeA (i := 23) hf rfl (Wn.some hf rfl rfl rfl rfl) (rd_move hf rfl rfl) hT rfl rfl ?_
                    clear hf; intro a hf
                    refine any_skipA (i := 24) hf rfl (Wn.some hf rfl rfl rfl rfl) hT rfl rfl ?_
                    clear hf; intro a hf
                    refine any_skipA (i := 25) hf rfl (Wn.some hf rfl rfl rfl rfl) hT rfl rfl ?_
                    clear hf; intro a hf
                    refine any_skipA (i := 26) hf rfl (Wn.some hf rfl rfl rfl rfl) hT rfl rfl ?_
                    clear hf; intro a hf
                    refine any_takeA (i := 27) hf rfl (Wn.some hf rfl rfl rfl rfl) (rd_pick_f hf rfl rfl rfl) hT rfl rfl ?_
                    clear hf; intro a hf
                    refine any_takeA (i := 28) hf rfl (Wn.some hf rfl rfl rfl rfl) (rd_move hf rfl rfl) hT rfl rfl ?_
                    clear hf; intro a hf
                    refine any_skipA (i := 30) hf rfl (Wn.some hf rfl rfl rfl rfl) hT rfl rfl ?_
                    clear hf; intro a hf
                    refine any_one (i := 29) rfl (by kernel_rfl) (st_skip hf (Wn.some hf rfl rfl rfl rfl) rfl rfl ?_)
                    clear hf; intro a hf
                    refine ⟨hT, ?_⟩
                    refine any_skipA (i := 31) hf rfl (Wn.some hf rfl rfl rfl rfl) hT rfl rfl ?_
                    clear hf; intro a hf
                    refine any_takeA (i := 32) hf rfl (Wn.some hf rfl rfl rfl rfl) (rd_pick_f hf rfl rfl rfl) hT rfl rfl ?_
                    clear hf; intro a hf
                    refine any_takeA (i := 33) hf rfl (Wn.none rfl) (rd_pick_f hf rfl rfl rfl) hT rfl rfl ?_
                    clear hf; intro a hf
                    refine any_done (by kernel_rfl) ?_
                    refine t_normal ?_
                    refine c_false hf rfl ?_
                    refine c_skip ?_
                    refine b_normal ?_
                    refine t_normal ?_
                    refine c_region ?_
                    refine step_l (st_rd hf (Wn.none rfl) (rd_add hf rfl rfl rfl (by first | exact Go.IntWalk.i64_in _ (by omega) | exact rfl)) hS rfl rfl ?_)
                    clear hf; intro a hf
                    refine step_l (st_rd hf (Wn.none rfl) (rd_move hf rfl rfl) hS rfl rfl ?_)
                    clear hf; intro a hf
                    refine done_l ?_
                    refine t_normal ⟨(i + 1, d || decide (inT n x)), ((hf.back (by repeat (first | exact Behind.refl | refine Behind.skip rfl ?_)) hk0).kb hf 37 rfl (by first | rfl | exact int_eq (by omega))), ⟨hS.sub (by repeat (first | exact Sub.refl | exact Sub.none | exact Sub.behind | (apply Sub.cons; (focus ((repeat (first | exact Sel.head | apply Sel.tail)); done))) | apply Sub.skip)), by omega⟩, by first | omega | (simp only []; omega)⟩
                    )
                  )
                )
             )
          ·
           clear hf; intro hc11 a hf
           have hv := tAt_out (n := n) (vals := tvals (mf y) mg 0 n) (i := x) (by omega)
           refine step_l (st_rd hf (Wn.none rfl) (rd_pick_t hf rfl rfl rfl) hS rfl rfl ?_)
           clear hf; intro a hf
           refine done_l ?_
           refine t_normal ?_
           refine c_false hf rfl ?_
           refine c_skip ?_
           refine t_normal ?_
           refine c_seq ?_
           refine any_begin (S := Sat W (R)) mixed (hS.drew.sub (by repeat (first | exact Sub.refl | exact Sub.none | exact Sub.behind | (apply Sub.cons; (focus ((repeat (first | exact Sel.head | apply Sel.tail)); done))) | apply Sub.skip))) ?_
           have hT : Sat W (R) _ := hS.drew.sub (by repeat (first | exact Sub.refl | exact Sub.none | exact Sub.behind | (apply Sub.cons; (focus ((repeat (first | exact Sel.head | apply Sel.tail)); done))) | apply Sub.skip))
           replace hS := hS.drew
           refine any_takeA (i := 0) hf rfl (Wn.none rfl) (rd_move hf rfl rfl) hT rfl rfl ?_
           clear hf; intro a hf
           refine any_takeA (i := 1) hf rfl (Wn.none rfl) (rd_move hf rfl rfl) hT rfl rfl ?_
           clear hf; intro a hf
           refine any_takeA (i := 3) hf rfl (Wn.none rfl) (rd_move hf rfl rfl) hT rfl rfl ?_
           clear hf; intro a hf
           refine any_one (i := 2) rfl (by kernel_rfl) (st_call hf (Wn.none rfl) rfl rfl rfl fn14 (At_c (mkM 3 4 bc br) (mf y) mg 0 pt n 17 [] [Value.pointer (some ⟨br, 0, none⟩), Value.pointer (some ⟨bc, 0, none⟩), Value.pointer (some ⟨by_, 0, none⟩)] x d (show Sat W (TbP 63 24 pt n (.func (.func 17) [].toArray [Value.pointer (some ⟨br, 0, none⟩), Value.pointer (some ⟨bc, 0, none⟩), Value.pointer (some ⟨by_, 0, none⟩)].toArray) (tvals (mf y) mg 0 n) d :: mkM 3 4 bc br (if d = true then mst mg 0 n else 0) :: Blk by_ [u32v y] 24 :: R) _ from by rw [mst_id]; exact hS.sub (by repeat (first | exact Sub.refl | exact Sub.none | exact Sub.behind | (apply Sub.cons; (focus ((repeat (first | exact Sel.head | apply Sel.tail)); done))) | apply Sub.skip))) fn17 (mk_makes bc br by_ n y hn4 _ (fun w h => h.cell (by repeat (first | exact Sel.head | apply Sel.tail)) rfl)) hn4) rfl rfl ?_)
           clear hf hS; rintro v a w ⟨hvr, hS⟩ hf; rw [mst_id] at hS; rw [hv] at hvr; subst hvr; have hq1 := ite_mk (d || decide (inT n x)) n; have hq2 : 0 ≤ x → x < n → (if (d || decide (inT n x)) = true then n else 0) = n := fun h1 h2 => by rw [decide_eq_true (show inT n x from ⟨h1, h2⟩), Bool.or_true, if_pos rfl]
           replace hT := hS.sub' hT (by repeat (first | exact Sub.refl | exact Sub.none | exact Sub.behind | (apply Sub.cons; (focus ((repeat (first | exact Sel.head | apply Sel.tail)); done))) | apply Sub.skip))
           refine ⟨hT, ?_⟩
           refine any_takeB (i := 4) hf rfl (by kernel_rfl) (by kernel_rfl) (by kernel_rfl) (fun _ _ _ _ h => h) (Wn.none rfl) (rd_neq hf rfl rfl rfl) hT rfl rfl ?_ ?_
           ·
            clear hf; intro hc31 a hf
            first
            | (first | exact Bool.noConfusion hc31 | exact absurd rfl hc31 | exact absurd hc31 (by omega) | exact absurd (by omega) hc31; done)
            | (
             refine any_takeA (i := 5) hf rfl (Wn.none rfl) (rd_move hf rfl rfl) hT rfl rfl ?_
             clear hf; intro a hf
             refine any_skipA (i := 7) hf rfl (Wn.some hf rfl rfl rfl rfl) hT rfl rfl ?_
             clear hf; intro a hf
             refine any_skipA (i := 8) hf rfl (Wn.some hf rfl rfl rfl rfl) hT rfl rfl ?_
             clear hf; intro a hf
             refine any_one (i := 6) rfl (by kernel_rfl) (st_skip hf (Wn.some hf rfl rfl rfl rfl) rfl rfl ?_)
             clear hf; intro a hf
             refine ⟨hT, ?_⟩
             refine any_skipA (i := 9) hf rfl (Wn.some hf rfl rfl rfl rfl) hT rfl rfl ?_
             clear hf; intro a hf
             refine any_takeA (i := 10) hf rfl (Wn.none rfl) (rd_pick_t hf rfl rfl rfl) hT rfl rfl ?_
             clear hf; intro a hf
             refine any_takeA (i := 11) hf rfl (Wn.none rfl) (rd_move hf rfl rfl) hT rfl rfl ?_
             clear hf; intro a hf
             refine any_one (i := 12) rfl (by kernel_rfl) (st_skip hf (Wn.some hf rfl rfl rfl rfl) rfl rfl ?_)
             clear hf; intro a hf
             refine ⟨hT, ?_⟩
             refine any_skipA (i := 13) hf rfl (Wn.some hf rfl rfl rfl rfl) hT rfl rfl ?_
             clear hf; intro a hf
             refine any_skipA (i := 14) hf rfl (Wn.some hf rfl rfl rfl rfl) hT rfl rfl ?_
             clear hf; intro a hf
             refine any_skipA (i := 16) hf rfl (Wn.undef hf rfl rfl rfl) hT rfl rfl ?_
             clear hf; intro a hf
             refine any_one (i := 15) rfl (by kernel_rfl) (st_skip hf (Wn.undef hf rfl rfl rfl) rfl rfl ?_)
             clear hf; intro a hf
             refine ⟨hT, ?_⟩
             refine any_skipA (i := 17) hf rfl (Wn.undef hf rfl rfl rfl) hT rfl rfl ?_
             clear hf; intro a hf
             refine any_skipA (i := 18) hf rfl (Wn.some hf rfl rfl rfl rfl) hT rfl rfl ?_
             clear hf; intro a hf
             refine any_takeA (i := 19) hf rfl (Wn.none rfl) (rd_pick_t hf rfl rfl rfl) hT rfl rfl ?_
             clear hf; intro a hf
             refine any_takeA (i := 20) hf rfl (Wn.none rfl) (rd_move hf rfl rfl) hT rfl rfl ?_
             clear hf; intro a hf
             refine any_skipA (i := 21) hf rfl (Wn.some hf rfl rfl rfl rfl) hT rfl rfl ?_
             clear hf; intro a hf
             refine any_skipA (i := 22) hf rfl (Wn.some hf rfl rfl rfl rfl) hT rfl rfl ?_
             clear hf; intro a hf
             refine any_skipA (i := 23) hf rfl (Wn.some hf rfl rfl rfl rfl) hT rfl rfl ?_
             clear hf; intro a hf
             refine any_skipA (i := 24) hf rfl (Wn.undef hf rfl rfl rfl) hT rfl rfl ?_
             clear hf; intro a hf
             refine any_skipA (i := 25) hf rfl (Wn.undef hf rfl rfl rfl) hT rfl rfl ?_
             clear hf; intro a hf
             refine any_skipA (i := 26) hf rfl (Wn.undef hf rfl rfl rfl) hT rfl rfl ?_
             clear hf; intro a hf
             refine any_skipA (i := 27) hf rfl (Wn.some hf rfl rfl rfl rfl) hT rfl rfl ?_
             clear hf; intro a hf
             refine any_skipA (i := 28) hf rfl (Wn.some hf rfl rfl rfl rfl) hT rfl rfl ?_
             clear hf; intro a hf
             refine any_skipA (i := 30) hf rfl (Wn.undef hf rfl rfl rfl) hT rfl rfl ?_
             clear hf; intro a hf
             refine any_one (i := 29) rfl (by kernel_rfl) (st_skip hf (Wn.undef hf rfl rfl rfl) rfl rfl ?_)
             clear hf; intro a hf
             refine ⟨hT, ?_⟩
             refine any_skipA (i := 31) hf rfl (Wn.undef hf rfl rfl rfl) hT rfl rfl ?_
             clear hf; intro a hf
             refine any_skipA (i := 32) hf rfl (Wn.some hf rfl rfl rfl rfl) hT rfl rfl ?_
             clear hf; intro a hf
             refine any_takeA (i := 33) hf rfl (Wn.none rfl) (rd_pick_t hf rfl rfl rfl) hT rfl rfl ?_
             clear hf; intro a hf
             refine any_done (by kernel_rfl) ?_
             refine t_normal ?_
             refine c_true hf rfl ?_
             refine c_seq ?_
             refine c_region ?_
             refine step_l (st_rd hf (Wn.none rfl) (rd_assign hf rfl rfl) hS rfl rfl ?_)
             clear hf; intro a hf
             refine done_l ?_
             refine t_normal ?_
             refine c_ret ?_
             refine b_ret ?_
             refine t_ret ?_
             refine t_ret ?_
             refine b_ret ?_
             refine t_ret ?_
             refine e_res1 hf.defers rfl (res_tmp hf rfl .nil) ?_
             exact ⟨rfl, hS.sub (by repeat (first | exact Sub.refl | exact Sub.none | exact Sub.behind | (apply Sub.cons; (focus ((repeat (first | exact Sel.head | apply Sel.tail)); done))) | apply Sub.skip))⟩
             )
           ·
            clear hf; intro hc31 a hf
            first
            | (first | exact Bool.noConfusion hc31 | exact absurd rfl hc31 | exact absurd hc31 (by omega) | exact absurd (by omega) hc31; done)
            | (
             refine any_takeA (i := 5) hf rfl (Wn.none rfl) (rd_move hf rfl rfl) hT rfl rfl ?_
             clear hf; intro a hf
             refine any_takeA (i := 7) hf rfl (Wn.some hf rfl rfl rfl rfl) (rd_move hf rfl rfl) hT rfl rfl ?_
             clear hf; intro a hf
             refine any_two (i := 6) (j := 8) rfl rfl (by kernel_rfl) ?_ ?_
             ·
              skip
              refine st_rd hf (Wn.some hf rfl rfl rfl rfl) (rd_load1 hf rfl rfl ag3 (by intro _ h; exact ((h.sel (by repeat (first | exact Sel.head | apply Sel.tail)) : Sat W (mkM 3 4 bc br _ :: _) _).unall).cell (by repeat (first | exact Sel.head | apply Sel.tail)) rfl)) hS rfl rfl ?_
              clear hf; intro a hf
              refine ⟨hT, ?_⟩
              refine any_one (i := 8) rfl (by kernel_rfl) (st_call hf (Wn.some hf rfl rfl rfl rfl) rfl rfl rfl fn18 (Made_c _ _ _ _ _ (hS.sel (by repeat (first | exact Sel.head | apply Sel.tail)))) rfl rfl ?_)
              clear hf hS; rintro v a w ⟨rfl, hS⟩ hf
              replace hT := hS.sub' hT (by repeat (first | exact Sub.refl | exact Sub.none | exact Sub.behind | (apply Sub.cons; (focus ((repeat (first | exact Sel.head | apply Sel.tail)); done))) | apply Sub.skip))
              refine ⟨hT, ?_⟩
              refine any_takeB (i := 9) hf rfl (by kernel_rfl) (by kernel_rfl) (by kernel_rfl) (fun _ _ _ _ h => h) (Wn.some hf rfl rfl rfl rfl) (rd_neq hf rfl rfl rfl) hT rfl rfl ?_ ?_
              ·
               clear hf; intro hc32 a hf
               first
               | (first | exact Bool.noConfusion hc32 | exact absurd rfl hc32 | exact absurd hc32 (by omega) | exact absurd (by omega) hc32; done)
               | (
                refine any_takeA (i := 10) hf rfl (Wn.none rfl) (rd_pick_f hf rfl rfl rfl) hT rfl rfl ?_
                clear hf; intro a hf
                refine any_takeA (i := 11) hf rfl (Wn.none rfl) (rd_move hf rfl rfl) hT rfl rfl ?_
                clear hf; intro a hf
                refine any_one (i := 12) rfl (by kernel_rfl) (st_skip hf (Wn.some hf rfl rfl rfl rfl) rfl rfl ?_)
                clear hf; intro a hf
                refine ⟨hT, ?_⟩
                refine any_skipA (i := 13) hf rfl (Wn.some hf rfl rfl rfl rfl) hT rfl rfl ?_
                clear hf; intro a hf
                refine any_skipA (i := 14) hf rfl (Wn.some hf rfl rfl rfl rfl) hT rfl rfl ?_
                clear hf; intro a hf
                refine any_skipA (i := 16) hf rfl (Wn.undef hf rfl rfl rfl) hT rfl rfl ?_
                clear hf; intro a hf
                refine any_one (i := 15) rfl (by kernel_rfl) (st_skip hf (Wn.undef hf rfl rfl rfl) rfl rfl ?_)
                clear hf; intro a hf
                refine ⟨hT, ?_⟩
                refine any_skipA (i := 17) hf rfl (Wn.undef hf rfl rfl rfl) hT rfl rfl ?_
                clear hf; intro a hf
                refine any_skipA (i := 18) hf rfl (Wn.some hf rfl rfl rfl rfl) hT rfl rfl ?_
                clear hf; intro a hf
                refine any_takeA (i := 19) hf rfl (Wn.none rfl) (rd_pick_t hf rfl rfl rfl) hT rfl rfl ?_
                clear hf; intro a hf
                refine any_takeA (i := 20) hf rfl (Wn.none rfl) (rd_move hf rfl rfl) hT rfl rfl ?_
                clear hf; intro a hf
                refine any_skipA (i := 21) hf rfl (Wn.some hf rfl rfl rfl rfl) hT rfl rfl ?_
                clear hf; intro a hf
                refine any_skipA (i := 22) hf rfl (Wn.some hf rfl rfl rfl rfl) hT rfl rfl ?_
                clear hf; intro a hf
                refine any_skipA (i := 23) hf rfl (Wn.some hf rfl rfl rfl rfl) hT rfl rfl ?_
                clear hf; intro a hf
                refine any_skipA (i := 24) hf rfl (Wn.undef hf rfl rfl rfl) hT rfl rfl ?_
                clear hf; intro a hf
                refine any_skipA (i := 25) hf rfl (Wn.undef hf rfl rfl rfl) hT rfl rfl ?_
                clear hf; intro a hf
                refine any_skipA (i := 26) hf rfl (Wn.undef hf rfl rfl rfl) hT rfl rfl ?_
                clear hf; intro a hf
                refine any_skipA (i := 27) hf rfl (Wn.some hf rfl rfl rfl rfl) hT rfl rfl ?_
                clear hf; intro a hf
                refine any_skipA (i := 28) hf rfl (Wn.some hf rfl rfl rfl rfl) hT rfl rfl ?_
                clear hf; intro a hf
                refine any_skipA (i := 30) hf rfl (Wn.undef hf rfl rfl rfl) hT rfl rfl ?_
                clear hf; intro a hf
                refine any_one (i := 29) rfl (by kernel_rfl) (st_skip hf (Wn.undef hf rfl rfl rfl) rfl rfl ?_)
                clear hf; intro a hf
                refine ⟨hT, ?_⟩
                refine any_skipA (i := 31) hf rfl (Wn.undef hf rfl rfl rfl) hT rfl rfl ?_
                clear hf; intro a hf
                refine any_skipA (i := 32) hf rfl (Wn.some hf rfl rfl rfl rfl) hT rfl rfl ?_
                clear hf; intro a hf
                refine any_takeA (i := 33) hf rfl (Wn.none rfl) (rd_pick_t hf rfl rfl rfl) hT rfl rfl ?_
                clear hf; intro a hf
                refine any_done (by kernel_rfl) ?_
                refine t_normal ?_
                refine c_true hf rfl ?_
                refine c_seq ?_
                refine c_region ?_
                refine step_l (st_rd hf (Wn.none rfl) (rd_assign hf rfl rfl) hS rfl rfl ?_)
                clear hf; intro a hf
                refine done_l ?_
                refine t_normal ?_
                refine c_ret ?_
                refine b_ret ?_
                refine t_ret ?_
                refine t_ret ?_
                refine b_ret ?_
                refine t_ret ?_
                refine e_res1 hf.defers rfl (res_tmp hf rfl .nil) ?_
                exact ⟨rfl, hS.sub (by repeat (first | exact Sub.refl | exact Sub.none | exact Sub.behind | (apply Sub.cons; (focus ((repeat (first | exact Sel.head | apply Sel.tail)); done))) | apply Sub.skip))⟩
                )
              ·
               clear hf; intro hc32 a hf
               first
               | (first | exact Bool.noConfusion hc32 | exact absurd rfl hc32 | exact absurd hc32 (by omega) | exact absurd (by omega) hc32; done)
               | (
                refine any_takeA (i := 10) hf rfl (Wn.none rfl) (rd_pick_f hf rfl rfl rfl) hT rfl rfl ?_
                clear hf; intro a hf
                refine any_takeA (i := 11) hf rfl (Wn.none rfl) (rd_move hf rfl rfl) hT rfl rfl ?_
                clear hf; intro a hf
                refine any_one (i := 12) rfl (by kernel_rfl) (st_rd hf (Wn.some hf rfl rfl rfl rfl) (rd_load1 hf rfl rfl ag3 (by intro _ h; exact ((h.sel (by repeat (first | exact Sel.head | apply Sel.tail)) : Sat W (mkM 3 4 bc br _ :: _) _).unall).cell (by repeat (first | exact Sel.head | apply Sel.tail)) rfl)) hS rfl rfl ?_)
                clear hf; intro a hf
                refine ⟨hT, ?_⟩
                refine any_takeB (i := 13) hf rfl (by kernel_rfl) (by kernel_rfl) (by kernel_rfl) (fun _ _ _ _ h => h) (Wn.some hf rfl rfl rfl rfl) (rd_neq hf rfl rfl rfl) hT rfl rfl ?_ ?_
                ·
                 clear hf; intro hc33 a hf
                 first
                 | (first | exact Bool.noConfusion hc33 | exact absurd rfl hc33 | exact absurd hc33 (by omega) | exact absurd (by omega) hc33; done)
                 | (
                  refine any_takeA (i := 14) hf rfl (Wn.some hf rfl rfl rfl rfl) (rd_move hf rfl rfl) hT rfl rfl ?_
                  clear hf; intro a hf
                  refine any_takeA (i := 16) hf rfl (Wn.some hf rfl rfl rfl rfl) (rd_move hf rfl rfl) hT rfl rfl ?_
                  clear hf; intro a hf
                  refine any_one (i := 15) rfl (by kernel_rfl) (st_rd hf (Wn.some hf rfl rfl rfl rfl) (rd_load1 hf rfl rfl ag3 (by intro _ h; exact ((h.sel (by repeat (first | exact Sel.head | apply Sel.tail)) : Sat W (mkM 3 4 bc br _ :: _) _).unall).cell (by repeat (first | exact Sel.head | apply Sel.tail)) rfl)) hS rfl rfl ?_)
                  clear hf; intro a hf
                  refine ⟨hT, ?_⟩
                  refine any_takeB (i := 17) hf rfl (by kernel_rfl) (by kernel_rfl) (by kernel_rfl) (fun _ _ _ _ h => h) (Wn.some hf rfl rfl rfl rfl) (rd_neq hf rfl rfl rfl) hT rfl rfl ?_ ?_
                  ·
                   clear hf; intro hc34 a hf
                   first
                   | (first | exact Bool.noConfusion hc34 | exact absurd rfl hc34 | exact absurd hc34 (by omega) | exact absurd (by omega) hc34; done)
                   | (
                    refine any_takeA (i := 18) hf rfl (Wn.some hf rfl rfl rfl rfl) (rd_pick_t hf rfl rfl rfl) hT rfl rfl ?_
                    clear hf; intro a hf
                    refine any_takeA (i := 19) hf rfl (Wn.none rfl) (rd_pick_f hf rfl rfl rfl) hT rfl rfl ?_
                    clear hf; intro a hf
                    refine any_takeA (i := 20) hf rfl (Wn.none rfl) (rd_move hf rfl rfl) hT rfl rfl ?_
                    clear hf; intro a hf
                    refine any_skipA (i := 21) hf rfl (Wn.some hf rfl rfl rfl rfl) hT rfl rfl ?_
                    clear hf; intro a hf
                    refine any_skipA (i := 22) hf rfl (Wn.some hf rfl rfl rfl rfl) hT rfl rfl ?_
                    clear hf; intro a hf
                    refine any_skipA (i := 23) hf rfl (Wn.some hf rfl rfl rfl rfl) hT rfl rfl ?_
                    clear hf; intro a hf
                    refine any_skipA (i := 24) hf rfl (Wn.undef hf rfl rfl rfl) hT rfl rfl ?_
                    clear hf; intro a hf
                    refine any_skipA (i := 25) hf rfl (Wn.undef hf rfl rfl rfl) hT rfl rfl ?_
                    clear hf; intro a hf
                    refine any_skipA (i := 26) hf rfl (Wn.undef hf rfl rfl rfl) hT rfl rfl ?_
                    clear hf; intro a hf
                    refine any_skipA (i := 27) hf rfl (Wn.some hf rfl rfl rfl rfl) hT rfl rfl ?_
                    clear hf; intro a hf
                    refine any_skipA (i := 28) hf rfl (Wn.some hf rfl rfl rfl rfl) hT rfl rfl ?_
                    clear hf; intro a hf
                    refine any_skipA (i := 30) hf rfl (Wn.undef hf rfl rfl rfl) hT rfl rfl ?_
                    clear hf; intro a hf
                    refine any_one (i := 29) rfl (by kernel_rfl) (st_skip hf (Wn.undef hf rfl rfl rfl) rfl rfl ?_)
                    clear hf; intro a hf
                    refine ⟨hT, ?_⟩
                    refine any_skipA (i := 31) hf rfl (Wn.undef hf rfl rfl rfl) hT rfl rfl ?_
                    clear hf; intro a hf
                    refine any_skipA (i := 32) hf rfl (Wn.some hf rfl rfl rfl rfl) hT rfl rfl ?_
                    clear hf; intro a hf
                    refine any_takeA (i := 33) hf rfl (Wn.none rfl) (rd_pick_t hf rfl rfl rfl) hT rfl rfl ?_
                    clear hf; intro a hf
                    refine any_done (by kernel_rfl) ?_
                    refine t_normal ?_
                    refine c_true hf rfl ?_
                    refine c_seq ?_
                    refine c_region ?_
                    refine step_l (st_rd hf (Wn.none rfl) (rd_assign hf rfl rfl) hS rfl rfl ?_)
                    clear hf; intro a hf
                    refine done_l ?_
                    refine t_normal ?_
                    refine c_ret ?_
                    refine b_ret ?_
                    refine t_ret ?_
                    refine t_ret ?_
                    refine b_ret ?_
                    refine t_ret ?_
                    refine e_res1 hf.defers rfl (res_tmp hf rfl .nil) ?_
                    exact ⟨rfl, hS.sub (by repeat (first | exact Sub.refl | exact Sub.none | exact Sub.behind | (apply Sub.cons; (focus ((repeat (first | exact Sel.head | apply Sel.tail)); done))) | apply Sub.skip))⟩
                    )
                  ·
                   clear hf; intro hc34 a hf
                   first
                   | (first | exact Bool.noConfusion hc34 | exact absurd rfl hc34 | exact absurd hc34 (by omega) | exact absurd (by omega) hc34; done)
                   | (
                    refine any_takeA (i := 18) hf rfl (Wn.some hf rfl rfl rfl rfl) (rd_pick_t hf rfl rfl rfl) hT rfl rfl ?_
                    clear hf; intro a hf
                    refine any_takeA (i := 19) hf rfl (Wn.none rfl) (rd_pick_f hf rfl rfl rfl) hT rfl rfl ?_
                    clear hf; intro a hf
                    refine any_takeA (i := 20) hf rfl (Wn.none rfl) (rd_move hf rfl rfl) hT rfl rfl ?_
                    clear hf; intro a hf
                    refine any_takeA (i := 21) hf rfl (Wn.some hf rfl rfl rfl rfl) (rd_move hf rfl rfl) hT rfl rfl ?_
                    clear hf; intro a hf
                    refine any_takeB (i := 22) hf rfl (by kernel_rfl) (by kernel_rfl) (by kernel_rfl) (fun _ _ _ _ h => h) (Wn.some hf rfl rfl rfl rfl) (rd_geq hf rfl rfl rfl) hT rfl rfl ?_ ?_
                    ·
                     clear hf; intro hc35 a hf
                     first
                     | (first | exact Bool.noConfusion hc35 | exact absurd rfl hc35 | exact absurd hc35 (by omega) | exact absurd (by omega) hc35; done)
                     | (
                      refine any_takeA (i := 23) hf rfl (Wn.some hf rfl rfl rfl rfl) (rd_move hf rfl rfl) hT rfl rfl ?_
                      clear hf; intro a hf
                      refine any_takeA (i := 24) hf rfl (Wn.some hf rfl rfl rfl rfl) (rd_move hf rfl rfl) hT rfl rfl ?_
                      clear hf; intro a hf
                      refine any_takeA (i := 25) hf rfl (Wn.some hf rfl rfl rfl rfl) (rd_move hf rfl rfl) hT rfl rfl ?_
                      clear hf; intro a hf
                      refine any_takeB (i := 26) hf rfl (by kernel_rfl) (by kernel_rfl) (by kernel_rfl) (fun _ _ _ _ h => h) (Wn.some hf rfl rfl rfl rfl) (rd_lss hf rfl rfl rfl) hT rfl rfl ?_ ?_
                      ·
                       clear hf; intro hc36 a hf
                       first
                       | (first | exact Bool.noConfusion hc36 | exact absurd rfl hc36 | exact absurd hc36 (by omega) | exact absurd (by omega) hc36; done)
                       | (
                        refine any_takeA (i := 27) hf rfl (Wn.some hf rfl rfl rfl rfl) (rd_pick_t hf rfl rfl rfl) hT rfl rfl ?_
                        clear hf; intro a hf
                        refine any_takeA (i := 28) hf rfl (Wn.some hf rfl rfl rfl rfl) (rd_move hf rfl rfl) hT rfl rfl ?_
                        clear hf; intro a hf
                        refine any_takeA (i := 30) hf rfl (Wn.some hf rfl rfl rfl rfl) (rd_move hf rfl rfl) hT rfl rfl ?_
                        clear hf; intro a hf
                        refine any_one (i := 29) rfl (by kernel_rfl) (st_rd hf (Wn.some hf rfl rfl rfl rfl) (rd_load1 hf rfl rfl ag3 (by intro _ h; exact ((h.sel (by repeat (first | exact Sel.head | apply Sel.tail)) : Sat W (mkM 3 4 bc br _ :: _) _).unall).cell (by repeat (first | exact Sel.head | apply Sel.tail)) rfl)) hS rfl rfl ?_)
                        clear hf; intro a hf
                        refine ⟨hT, ?_⟩
                        refine any_takeB (i := 31) hf rfl (by kernel_rfl) (by kernel_rfl) (by kernel_rfl) (fun _ _ _ _ h => h) (Wn.some hf rfl rfl rfl rfl) (rd_neq hf rfl rfl rfl) hT rfl rfl ?_ ?_
                        ·
                         clear hf; intro hc37 a hf
                         first
                         | (first | exact Bool.noConfusion hc37 | exact absurd rfl hc37 | exact absurd hc37 (by omega) | exact absurd (by omega) hc37; done)
                         | (
                          refine any_takeA (i := 32) hf rfl (Wn.some hf rfl rfl rfl rfl) (rd_pick_t hf rfl rfl rfl) hT rfl rfl ?_
                          clear hf; intro a hf
                          refine any_takeA (i := 33) hf rfl (Wn.none rfl) (rd_pick_f hf rfl rfl rfl) hT rfl rfl ?_
                          clear hf; intro a hf
                          refine any_done (by kernel_rfl) ?_
                          refine t_normal ?_
                          refine c_true hf rfl ?_
                          refine c_seq ?_
                          refine c_region ?_
                          refine step_l (st_rd hf (Wn.none rfl) (rd_assign hf rfl rfl) hS rfl rfl ?_)
                          clear hf; intro a hf
                          refine done_l ?_
                          refine t_normal ?_
                          refine c_ret ?_
                          refine b_ret ?_
                          refine t_ret ?_
                          refine t_ret ?_
                          refine b_ret ?_
                          refine t_ret ?_
                          refine e_res1 hf.defers rfl (res_tmp hf rfl .nil) ?_
                          exact ⟨rfl, hS.sub (by repeat (first | exact Sub.refl | exact Sub.none | exact Sub.behind | (apply Sub.cons; (focus ((repeat (first | exact Sel.head | apply Sel.tail)); done))) | apply Sub.skip))⟩
                          )
                        ·
                         clear hf; intro hc37 a hf
                         first
                         | (first | exact Bool.noConfusion hc37 | exact absurd rfl hc37 | exact absurd hc37 (by omega) | exact absurd (by omega) hc37; done)
                         | (
                          refine any_takeA (i := 32) hf rfl (Wn.some hf rfl rfl rfl rfl) (rd_pick_t hf rfl rfl rfl) hT rfl rfl ?_
                          clear hf; intro a hf
                          refine any_takeA (i := 33) hf rfl (Wn.none rfl) (rd_pick_f hf rfl rfl rfl) hT rfl rfl ?_
                          clear hf; intro a hf
                          refine any_done (by kernel_rfl) ?_
                          refine t_normal ?_
                          refine c_false hf rfl ?_
                          refine c_skip ?_
                          refine b_normal ?_
                          refine t_normal ?_
                          refine c_region ?_
                          refine step_l (st_rd hf (Wn.none rfl) (rd_add hf rfl rfl rfl (by first | exact Go.IntWalk.i64_in _ (by omega) | exact rfl)) hS rfl rfl ?_)
                          clear hf; intro a hf
                          refine step_l (st_rd hf (Wn.none rfl) (rd_move hf rfl rfl) hS rfl rfl ?_)
                          clear hf; intro a hf
                          refine done_l ?_
                          refine t_normal ⟨(i + 1, d || decide (inT n x)), ((hf.back (by repeat (first | exact Behind.refl | refine Behind.skip rfl ?_)) hk0).kb hf 37 rfl (by first | rfl | exact int_eq (by omega))), ⟨hS.sub (by repeat (first | exact Sub.refl | exact Sub.none | exact Sub.behind | (apply Sub.cons; (focus ((repeat (first | exact Sel.head | apply Sel.tail)); done))) | apply Sub.skip)), by omega⟩, by first | omega | (simp only []; omega)⟩
                          )
                        )
                      ·
                       clear hf; intro hc36 a hf
                       first
                       | (first | exact Bool.noConfusion hc36 | exact absurd rfl hc36 | exact absurd hc36 (by omega) | exact absurd (by omega) hc36; done)
                       | (
                        refine any_takeA (i := 27) hf rfl (Wn.some hf rfl rfl rfl rfl) (rd_pick_t hf rfl rfl rfl) hT rfl rfl ?_
                        clear hf; intro a hf
                        refine any_takeA (i := 28) hf rfl (Wn.some hf rfl rfl rfl rfl) (rd_move hf rfl rfl) hT rfl rfl ?_
                        clear hf; intro a hf
                        refine any_skipA (i := 30) hf rfl (Wn.some hf rfl rfl rfl rfl) hT rfl rfl ?_
                        clear hf; intro a hf
                        refine any_one (i := 29) rfl (by kernel_rfl) (st_skip hf (Wn.some hf rfl rfl rfl rfl) rfl rfl ?_)
                        clear hf; intro a hf
                        refine ⟨hT, ?_⟩
                        refine any_skipA (i := 31) hf rfl (Wn.some hf rfl rfl rfl rfl) hT rfl rfl ?_
                        clear hf; intro a hf
                        refine any_takeA (i := 32) hf rfl (Wn.some hf rfl rfl rfl rfl) (rd_pick_f hf rfl rfl rfl) hT rfl rfl ?_
                        clear hf; intro a hf
                        refine any_takeA (i := 33) hf rfl (Wn.none rfl) (rd_pick_f hf rfl rfl rfl) hT rfl rfl ?_
                        clear hf; intro a hf
                        refine any_done (by kernel_rfl) ?_
                        refine t_normal ?_
                        refine c_false hf rfl ?_
                        refine c_skip ?_
                        refine b_normal ?_
                        refine t_normal ?_
                        refine c_region ?_
                        refine step_l (st_rd hf (Wn.none rfl) (rd_add hf rfl rfl rfl (by first | exact Go.IntWalk.i64_in _ (by omega) | exact rfl)) hS rfl rfl ?_)
                        clear hf; intro a hf
                        refine step_l (st_rd hf (Wn.none rfl) (rd_move hf rfl rfl) hS rfl rfl ?_)
                        clear hf; intro a hf
                        refine done_l ?_
                        refine t_normal ⟨(i + 1, d || decide (inT n x)), ((hf.back (by repeat (first | exact Behind.refl | refine Behind.skip rfl ?_)) hk0).kb hf 37 rfl (by first | rfl | exact int_eq (by omega))), ⟨hS.sub (by repeat (first | exact Sub.refl | exact Sub.none | exact Sub.behind | (apply Sub.cons; (focus ((repeat (first | exact Sel.head | apply Sel.tail)); done))) | apply Sub.skip)), by omega⟩, by first | omega | (simp only []; omega)⟩
                        )
                      )
                    ·
                     clear hf; intro hc35 a hf
                     first
                     | (first | exact Bool.noConfusion hc35 | exact absurd rfl hc35 | exact absurd hc35 (by omega) | exact absurd (by omega) hc35; done)
                     | (
                      refine any_takeA (i := 23) hf rfl (Wn.some hf rfl rfl rfl rfl) (rd_move hf rfl rfl) hT rfl rfl ?_
                      clear hf; intro a hf
                      refine any_skipA (i := 24) hf rfl (Wn.some hf rfl rfl rfl rfl) hT rfl rfl ?_
                      clear hf; intro a hf
                      refine any_skipA (i := 25) hf rfl (Wn.some hf rfl rfl rfl rfl) hT rfl rfl ?_
                      clear hf; intro a hf
                      refine any_skipA (i := 26) hf rfl (Wn.some hf rfl rfl rfl rfl) hT rfl rfl ?_
                      clear hf; intro a hf
                      refine any_takeA (i := 27) hf rfl (Wn.some hf rfl rfl rfl rfl) (rd_pick_f hf rfl rfl rfl) hT rfl rfl ?_
                      clear hf; intro a hf
                      refine any_takeA (i := 28) hf rfl (Wn.some hf rfl rfl rfl rfl) (rd_move hf rfl rfl) hT rfl rfl ?_
                      clear hf; intro a hf
                      refine any_skipA (i := 30) hf rfl (Wn.some hf rfl rfl rfl rfl) hT rfl rfl ?_
                      clear hf; intro a hf
                      refine any_one (i := 29) rfl (by kernel_rfl) (st_skip hf (Wn.some hf rfl rfl rfl rfl) rfl rfl ?_)
                      clear hf; intro a hf
                      refine ⟨hT, ?_⟩
                      refine any_skipA (i := 31) hf rfl (Wn.some hf rfl rfl rfl rfl) hT rfl rfl ?_
                      clear hf; intro a hf
                      refine any_takeA (i := 32) hf rfl (Wn.some hf rfl rfl rfl rfl) (rd_pick_f hf rfl rfl rfl) hT rfl rfl ?_
                      clear hf; intro a hf
                      refine any_takeA (i := 33) hf rfl (Wn.none rfl) (rd_pick_f hf rfl rfl rfl) hT rfl rfl ?_
                      clear hf; intro a hf
                      refine any_done (by kernel_rfl) ?_
                      refine t_normal ?_
                      refine c_false hf rfl ?_
                      refine c_skip ?_
                      refine b_normal ?_
                      refine t_normal ?_
                      refine c_region ?_
                      refine step_l (st_rd hf (Wn.none rfl) (rd_add hf rfl rfl rfl (by first | exact Go.IntWalk.i64_in _ (by omega) | exact rfl)) hS rfl rfl ?_)
                      clear hf; intro a hf
                      refine step_l (st_rd hf (Wn.none rfl) (rd_move hf rfl rfl) hS rfl rfl ?_)
                      clear hf; intro a hf
                      refine done_l ?_
                      refine t_normal ⟨(i + 1, d || decide (inT n x)), ((hf.back (by repeat (first | exact Behind.refl | refine Behind.skip rfl ?_)) hk0).kb hf 37 rfl (by first | rfl | exact int_eq (by omega))), ⟨hS.sub (by repeat (first | exact Sub.refl | exact Sub.none | exact Sub.behind | (apply Sub.cons; (focus ((repeat (first | exact Sel.head | apply Sel.tail)); done))) | apply Sub.skip)), by omega⟩, by first | omega | (simp only []; omega)⟩
                      )
                    )
                  )
                ·
                 clear hf; intro hc33 a hf
                 first
                 | (first | exact Bool.noConfusion hc33 | exact absurd rfl hc33 | exact absurd hc33 (by omega) | exact absurd (by omega) hc33; done)
                 | (
                  refine any_takeA (i := 14) hf rfl (Wn.some hf rfl rfl rfl rfl) (rd_move hf rfl rfl) hT rfl rfl ?_
                  clear hf; intro a hf
                  refine any_skipA (i := 16) hf rfl (Wn.some hf rfl rfl rfl rfl) hT rfl rfl ?_
                  clear hf; intro a hf
                  refine any_one (i := 15) rfl (by kernel_rfl) (st_skip hf (Wn.some hf rfl rfl rfl rfl) rfl rfl ?_)
                  clear hf; intro a hf
                  refine ⟨hT, ?_⟩
                  refine any_skipA (i := 17) hf rfl (Wn.some hf rfl rfl rfl rfl) hT rfl rfl ?_
                  clear hf; intro a hf
                  refine any_takeA (i := 18) hf rfl (Wn.some hf rfl rfl rfl rfl) (rd_pick_f hf rfl rfl rfl) hT rfl rfl ?_
                  clear hf; intro a hf
                  refine any_takeA (i := 19) hf rfl (Wn.none rfl) (rd_pick_f hf rfl rfl rfl) hT rfl rfl ?_
                  clear hf; intro a hf
                  refine any_takeA (i := 20) hf rfl (Wn.none rfl) (rd_move hf rfl rfl) hT rfl rfl ?_
                  clear hf; intro a hf
                  refine any_takeA (i := 21) hf rfl (Wn.some hf rfl rfl rfl rfl) (rd_move hf rfl rfl) hT rfl rfl ?_
                  clear hf; intro a hf
                  refine any_takeB (i := 22) hf rfl (by kernel_rfl) (by kernel_rfl) (by kernel_rfl) (fun _ _ _ _ h => h) (Wn.some hf rfl rfl rfl rfl) (rd_geq hf rfl rfl rfl) hT rfl rfl ?_ ?_
                  ·
                   clear hf; intro hc38 a hf
                   first
                   | (first | exact Bool.noConfusion hc38 | exact absurd rfl hc38 | exact absurd hc38 (by omega) | exact absurd (by omega) hc38; done)
                   | (
                    refine any_takeA (i := 23) hf rfl (Wn.some hf rfl rfl rfl rfl) (rd_move hf rfl rfl) hT rfl rfl ?_
                    clear hf; intro a hf
                    refine any_takeA (i := 24) hf rfl (Wn.some hf rfl rfl rfl rfl) (rd_move hf rfl rfl) hT rfl rfl ?_
                    clear hf; intro a hf
                    refine any_takeA (i := 25) hf rfl (Wn.some hf rfl rfl rfl rfl) (rd_move hf rfl rfl) hT rfl rfl ?_
                    clear hf; intro a hf
                    refine any_takeB (i := 26) hf rfl (by kernel_rfl) (by kernel_rfl) (by kernel_rfl) (fun _ _ _ _ h => h) (Wn.some hf rfl rfl rfl rfl) (rd_lss hf rfl rfl rfl) hT rfl rfl ?_ ?_
                    ·
                     clear hf; intro hc39 a hf
                     first
                     | (first | exact Bool.noConfusion hc39 | exact absurd rfl hc39 | exact absurd hc39 (by omega) | exact absurd (by omega) hc39; done)
                     | (
                      refine any_takeA (i := 27) hf rfl (Wn.some hf rfl rfl rfl rfl) (rd_pick_t hf rfl rfl rfl) hT rfl rfl ?_
                      clear hf; intro a hf
                      refine any_takeA (i := 28) hf rfl (Wn.some hf rfl rfl rfl rfl) (rd_move hf rfl rfl) hT rfl rfl ?_
                      clear hf; intro a hf
                      refine any_takeA (i := 30) hf rfl (Wn.some hf rfl rfl rfl rfl) (rd_move hf rfl rfl) hT rfl rfl ?_
                      clear hf; intro a hf
                      refine any_one (i := 29) rfl (by kernel_rfl) (st_rd hf (Wn.some hf rfl rfl rfl rfl) (rd_load1 hf rfl rfl ag3 (by intro _ h; exact ((h.sel (by repeat (first | exact Sel.head | apply Sel.tail)) : Sat W (mkM 3 4 bc br _ :: _) _).unall).cell (by repeat (first | exact Sel.head | apply Sel.tail)) rfl)) hS rfl rfl ?_)
                      clear hf; intro a hf
                      refine ⟨hT, ?_⟩
                      refine any_takeB (i := 31) hf rfl (by kernel_rfl) (by kernel_rfl) (by kernel_rfl) (fun _ _ _ _ h => h) (Wn.some hf rfl rfl rfl rfl) (rd_neq hf rfl rfl rfl) hT rfl rfl ?_ ?_
                      ·
                       clear hf; intro hc40 a hf
                       first
                       | (first | exact Bool.noConfusion hc40 | exact absurd rfl hc40 | exact absurd hc40 (by omega) | exact absurd (by omega) hc40; done)
                       | (
                        refine any_takeA (i := 32) hf rfl (Wn.some hf rfl rfl rfl rfl) (rd_pick_t hf rfl rfl rfl) hT rfl rfl ?_
                        clear hf; intro a hf
                        refine any_takeA (i := 33) hf rfl (Wn.none rfl) (rd_pick_f hf rfl rfl rfl) hT rfl rfl ?_
                        clear hf; intro a hf
                        refine any_done (by kernel_rfl) ?_
                        refine t_normal ?_
                        refine c_true hf rfl ?_
                        refine c_seq ?_
                        refine c_region ?_
                        refine step_l (st_rd hf (Wn.none rfl) (rd_assign hf rfl rfl) hS rfl rfl ?_)
                        clear hf; intro a hf
                        refine done_l ?_
                        refine t_normal ?_
                        refine c_ret ?_
                        refine b_ret ?_
                        refine t_ret ?_
                        refine t_ret ?_
                        refine b_ret ?_
                        refine t_ret ?_
                        refine e_res1 hf.defers rfl (res_tmp hf rfl .nil) ?_
                        exact ⟨rfl, hS.sub (by repeat (first | exact Sub.refl | exact Sub.none | exact Sub.behind | (apply Sub.cons; (focus ((repeat (first | exact Sel.head | apply Sel.tail)); done))) | apply Sub.skip))⟩
                        )
                      ·
                       clear hf; intro hc40 a hf
                       first
                       | (first | exact Bool.noConfusion hc40 | exact absurd rfl hc40 | exact absurd hc40 (by omega) | exact absurd (by omega) hc40; done)
                       | (
                        refine any_takeA (i := 32) hf rfl (Wn.some hf rfl rfl rfl rfl) (rd_pick_t hf rfl rfl rfl) hT rfl rfl ?_
                        clear hf; intro a hf
                        refine any_takeA (i := 33) hf rfl (Wn.none rfl) (rd_pick_f hf rfl rfl rfl) hT rfl rfl ?_
                        clear hf; intro a hf
                        refine any_done (by kernel_rfl) ?_
                        refine t_normal ?_
                        refine c_false hf rfl ?_
                        refine c_skip ?_
                        refine b_normal ?_
                        refine t_normal ?_
                        refine c_region ?_
                        refine step_l (st_rd hf (Wn.none rfl) (rd_add hf rfl rfl rfl (by first | exact Go.IntWalk.i64_in _ (by omega) | exact rfl)) hS rfl rfl ?_)
                        clear hf; intro a hf
                        refine step_l (st_rd hf (Wn.none rfl) (rd_move hf rfl rfl) hS rfl rfl ?_)
                        clear hf; intro a hf
                        refine done_l ?_
                        refine t_normal ⟨(i + 1, d || decide (inT n x)), ((hf.back (by repeat (first | exact Behind.refl | refine Behind.skip rfl ?_)) hk0).kb hf 37 rfl (by first | rfl | exact int_eq (by omega))), ⟨hS.sub (by repeat (first | exact Sub.refl | exact Sub.none | exact Sub.behind | (apply Sub.cons; (focus ((repeat (first | exact Sel.head | apply Sel.tail)); done))) | apply Sub.skip)), by omega⟩, by first | omega | (simp only []; omega)⟩
                        )
                      )
                    ·
                     clear hf; intro hc39 a hf
                     first
                     | (first | exact Bool.noConfusion hc39 | exact absurd rfl hc39 | exact absurd hc39 (by omega) | exact absurd (by omega) hc39; done)
                     | (
                      refine any_takeA (i := 27) hf rfl (Wn.some hf rfl rfl rfl rfl) (rd_pick_t hf rfl rfl rfl) hT rfl rfl ?_
                      clear hf; intro a hf
                      refine any_takeA (i := 28) hf rfl (Wn.some hf rfl rfl rfl rfl) (rd_move hf rfl rfl) hT rfl rfl ?_
                      clear hf; intro a hf
                      refine any_skipA (i := 30) hf rfl (Wn.some hf rfl rfl rfl rfl) hT rfl rfl ?_
                      clear hf; intro a hf
                      refine any_one (i := 29) rfl (by kernel_rfl) (st_skip hf (Wn.some hf rfl rfl rfl rfl) rfl rfl ?_)
                      clear hf; intro a hf
                      refine ⟨hT, ?_⟩
                      refine any_skipA (i := 31) hf rfl (Wn.some hf rfl rfl rfl rfl) hT rfl rfl ?_
                      clear hf; intro a hf
                      refine any_takeA (i := 32) hf rfl (Wn.some hf rfl rfl rfl rfl) (rd_pick_f hf rfl rfl rfl) hT rfl rfl ?_
                      clear hf; intro a hf
                      refine any_takeA (i := 33) hf rfl (Wn.none rfl) (rd_pick_f hf rfl rfl rfl) hT rfl rfl ?_
                      clear hf; intro a hf
                      refine any_done (by kernel_rfl) ?_
                      refine t_normal ?_
                      refine c_false hf rfl ?_
                      refine c_skip ?_
                      refine b_normal ?_
                      refine t_normal ?_
                      refine c_region ?_
                      refine step_l (st_rd hf (Wn.none rfl) (rd_add hf rfl rfl rfl (by first | exact Go.IntWalk.i64_in _ (by omega) | exact rfl)) hS rfl rfl ?_)
                      clear hf; intro a hf
                      refine step_l (st_rd hf (Wn.none rfl) (rd_move hf rfl rfl) hS rfl rfl ?_)
                      clear hf; intro a hf
                      refine done_l ?_
                      refine t_normal ⟨(i + 1, d || decide (inT n x)), ((hf.back (by repeat (first | exact Behind.refl | refine Behind.skip rfl ?_)) hk0).kb hf 37 rfl (by first | rfl | exact int_eq (by omega))), ⟨hS.sub (by repeat (first | exact Sub.refl | exact Sub.none | exact Sub.behind | (apply Sub.cons; (focus ((repeat (first | exact Sel.head | apply Sel.tail)); done))) | apply Sub.skip)), by omega⟩, by first | omega | (simp only []; omega)⟩
                      )
                    )
                  ·
                   clear hf; intro hc38 a hf
                   first
                   | (first | exact Bool.noConfusion hc38 | exact absurd rfl hc38 | exact absurd hc38 (by omega) | exact absurd (by omega) hc38; done)
                   | (
                    refine any_takeA (i := 23) hf rfl (Wn.some hf rfl rfl rfl rfl) (rd_move hf rfl rfl) hT rfl rfl ?_
                    clear hf; intro a hf
                    refine any_skipA (i := 24) hf rfl (Wn.some hf rfl rfl rfl rfl) hT rfl rfl ?_
                    clear hf; intro a hf
                    refine any_skipA (i := 25) hf rfl (Wn.some hf rfl rfl rfl rfl) hT rfl rfl ?_
                    clear hf; intro a hf
                    refine any_skipA (i := 26) hf rfl (Wn.some hf rfl rfl rfl rfl) hT rfl rfl ?_
                    clear hf; intro a hf
                    refine any_takeA (i := 27) hf rfl (Wn.some hf rfl rfl rfl rfl) (rd_pick_f hf rfl rfl rfl) hT rfl rfl ?_
                    clear hf; intro a hf
                    refine any_takeA (i := 28) hf rfl (Wn.some hf rfl rfl rfl rfl) (rd_move hf rfl rfl) hT rfl rfl ?_
                    clear hf; intro a hf
                    refine any_skipA (i := 30) hf rfl (Wn.some hf rfl rfl rfl rfl) hT rfl rfl ?_
                    clear hf; intro a hf
                    refine any_one (i := 29) rfl (by kernel_rfl) (st_skip hf (Wn.some hf rfl rfl rfl rfl) rfl rfl ?_)
                    clear hf; intro a hf
                    refine ⟨hT, ?_⟩
                    refine any_skipA (i := 31) hf rfl (Wn.some hf rfl rfl rfl rfl) hT rfl rfl ?_
                    clear hf; intro a hf
                    refine any_takeA (i := 32) hf rfl (Wn.some hf rfl rfl rfl rfl) (rd_pick_f hf rfl rfl rfl) hT rfl rfl ?_
                    clear hf; intro a hf
                    refine any_takeA (i := 33) hf rfl (Wn.none rfl) (rd_pick_f hf rfl rfl rfl) hT rfl rfl ?_
                    clear hf; intro a hf
                    refine any_done (by kernel_rfl) ?_
                    refine t_normal ?_
                    refine c_false hf rfl ?_
                    refine c_skip ?_
                    refine b_normal ?_
                    refine t_normal ?_
                    refine c_region ?_
                    refine step_l (st_rd hf (Wn.none rfl) (rd_add hf rfl rfl rfl (by first | exact Go.IntWalk.i64_in _ (by omega) | exact rfl)) hS rfl rfl ?_)
                    clear hf; intro a hf
                    refine step_l (st_rd hf (Wn.none rfl) (rd_move hf rfl rfl) hS rfl rfl ?_)
                    clear hf; intro a hf
                    refine done_l ?_
                    refine t_normal ⟨(i + 1, d || decide (inT n x)), ((hf.back (by repeat (first | exact Behind.refl | refine Behind.skip rfl ?_)) hk0).kb hf 37 rfl (by first | rfl | exact int_eq (by omega))), ⟨hS.sub (by repeat (first | exact Sub.refl | exact Sub.none | exact Sub.behind | (apply Sub.cons; (focus ((repeat (first | exact Sel.head | apply Sel.tail)); done))) | apply Sub.skip)), by omega⟩, by first | omega | (simp only []; omega)⟩
                    )
                  )
                )
             ·
              skip
              refine st_call hf (Wn.some hf rfl rfl rfl rfl) rfl rfl rfl fn18 (Made_c _ _ _ _ _ (hS.sel (by repeat (first | exact Sel.head | apply Sel.tail)))) rfl rfl ?_
              clear hf hS; rintro v a w ⟨rfl, hS⟩ hf
              replace hT := hS.sub' hT (by repeat (first | exact Sub.refl | exact Sub.none | exact Sub.behind | (apply Sub.cons; (focus ((repeat (first | exact Sel.head | apply Sel.tail)); done))) | apply Sub.skip))
              refine ⟨hT, ?_⟩
              refine any_one (i := 6) rfl (by kernel_rfl) (st_rd hf (Wn.some hf rfl rfl rfl rfl) (rd_load1 hf rfl rfl ag3 (by intro _ h; exact ((h.sel (by repeat (first | exact Sel.head | apply Sel.tail)) : Sat W (mkM 3 4 bc br _ :: _) _).unall).cell (by repeat (first | exact Sel.head | apply Sel.tail)) rfl)) hS rfl rfl ?_)
              clear hf; intro a hf
              refine ⟨hT, ?_⟩
              refine any_takeB (i := 9) hf rfl (by kernel_rfl) (by kernel_rfl) (by kernel_rfl) (fun _ _ _ _ h => h) (Wn.some hf rfl rfl rfl rfl) (rd_neq hf rfl rfl rfl) hT rfl rfl ?_ ?_
              ·
               clear hf; intro hc41 a hf
               first
               | (first | exact Bool.noConfusion hc41 | exact absurd rfl hc41 | exact absurd hc41 (by omega) | exact absurd (by omega) hc41; done)
               | (
                refine any_takeA (i := 10) hf rfl (Wn.none rfl) (rd_pick_f hf rfl rfl rfl) hT rfl rfl ?_
                clear hf; intro a hf
                refine any_takeA (i := 11) hf rfl (Wn.none rfl) (rd_move hf rfl rfl) hT rfl rfl ?_
                clear hf; intro a hf
                refine any_one (i := 12) rfl (by kernel_rfl) (st_skip hf (Wn.some hf rfl rfl rfl rfl) rfl rfl ?_)
                clear hf; intro a hf
                refine ⟨hT, ?_⟩
                refine any_skipA (i := 13) hf rfl (Wn.some hf rfl rfl rfl rfl) hT rfl rfl ?_
                clear hf; intro a hf
                refine any_skipA (i := 14) hf rfl (Wn.some hf rfl rfl rfl rfl) hT rfl rfl ?_
                clear hf; intro a hf
                refine any_skipA (i := 16) hf rfl (Wn.undef hf rfl rfl rfl) hT rfl rfl ?_
                clear hf; intro a hf
                refine any_one (i := 15) rfl (by kernel_rfl) (st_skip hf (Wn.undef hf rfl rfl rfl) rfl rfl ?_)
                clear hf; intro a hf
                refine ⟨hT, ?_⟩
                refine any_skipA (i := 17) hf rfl (Wn.undef hf rfl rfl rfl) hT rfl rfl ?_
                clear hf; intro a hf
                refine any_skipA (i := 18) hf rfl (Wn.some hf rfl rfl rfl rfl) hT rfl rfl ?_
                clear hf; intro a hf
                refine any_takeA (i := 19) hf rfl (Wn.none rfl) (rd_pick_t hf rfl rfl rfl) hT rfl rfl ?_
                clear hf; intro a hf
                refine any_takeA (i := 20) hf rfl (Wn.none rfl) (rd_move hf rfl rfl) hT rfl rfl ?_
                clear hf; intro a hf
                refine any_skipA (i := 21) hf rfl (Wn.some hf rfl rfl rfl rfl) hT rfl rfl ?_
                clear hf; intro a hf
                refine any_skipA (i := 22) hf rfl (Wn.some hf rfl rfl rfl rfl) hT rfl rfl ?_
                clear hf; intro a hf
                refine any_skipA (i := 23) hf rfl (Wn.some hf rfl rfl rfl rfl) hT rfl rfl ?_
                clear hf; intro a hf
                refine any_skipA (i := 24) hf rfl (Wn.undef hf rfl rfl rfl) hT rfl rfl ?_
                clear hf; intro a hf
                refine any_skipA (i := 25) hf rfl (Wn.undef hf rfl rfl rfl) hT rfl rfl ?_
                clear hf; intro a hf
                refine any_skipA (i := 26) hf rfl (Wn.undef hf rfl rfl rfl) hT rfl rfl ?_
                clear hf; intro a hf
                refine any_skipA (i := 27) hf rfl (Wn.some hf rfl rfl rfl rfl) hT rfl rfl ?_
                clear hf; intro a hf
                refine any_skipA (i := 28) hf rfl (Wn.some hf rfl rfl rfl rfl) hT rfl rfl ?_
                clear hf; intro a hf
                refine any_skipA (i := 30) hf rfl (Wn.undef hf rfl rfl rfl) hT rfl rfl ?_
                clear hf; intro a hf
                refine any_one (i := 29) rfl (by kernel_rfl) (st_skip hf (Wn.undef hf rfl rfl rfl) rfl rfl ?_)
                clear hf; intro a hf
                refine ⟨hT, ?_⟩
                refine any_skipA (i := 31) hf rfl (Wn.undef hf rfl rfl rfl) hT rfl rfl ?_
                clear hf; intro a hf
                refine any_skipA (i := 32) hf rfl (Wn.some hf rfl rfl rfl rfl) hT rfl rfl ?_
                clear hf; intro a hf
                refine any_takeA (i := 33) hf rfl (Wn.none rfl) (rd_pick_t hf rfl rfl rfl) hT rfl rfl ?_
                clear hf; intro a hf
                refine any_done (by kernel_rfl) ?_
                refine t_normal ?_
                refine c_true hf rfl ?_
                refine c_seq ?_
                refine c_region ?_
                refine step_l (st_rd hf (Wn.none rfl) (rd_assign hf rfl rfl) hS rfl rfl ?_)
                clear hf; intro a hf
                refine done_l ?_
                refine t_normal ?_
                refine c_ret ?_
                refine b_ret ?_
                refine t_ret ?_
                refine t_ret ?_
                refine b_ret ?_
                refine t_ret ?_
                refine e_res1 hf.defers rfl (res_tmp hf rfl .nil) ?_
                exact ⟨rfl, hS.sub (by repeat (first | exact Sub.refl | exact Sub.none | exact Sub.behind | (apply Sub.cons; (focus ((repeat (first | exact Sel.head | apply Sel.tail)); done))) | apply Sub.skip))⟩
                )
              ·
               clear hf; intro hc41 a hf
               first
               | (first | exact Bool.noConfusion hc41 | exact absurd rfl hc41 | exact absurd hc41 (by omega) | exact absurd (by omega) hc41; done)
               | (
                refine any_takeA (i := 10) hf rfl (Wn.none rfl) (rd_pick_f hf rfl rfl rfl) hT rfl rfl ?_
                clear hf; intro a hf
                refine any_takeA (i := 11) hf rfl (Wn.none rfl) (rd_move hf rfl rfl) hT rfl rfl ?_
                clear hf; intro a hf
                refine any_one (i := 12) rfl (by kernel_rfl) (st_rd hf (Wn.some hf rfl rfl rfl rfl) (rd_load1 hf rfl rfl ag3 (by intro _ h; exact ((h.sel (by repeat (first | exact Sel.head | apply Sel.tail)) : Sat W (mkM 3 4 bc br _ :: _) _).unall).cell (by repeat (first | exact Sel.head | apply Sel.tail)) rfl)) hS rfl rfl ?_)
                clear hf; intro a hf
                refine ⟨hT, ?_⟩
                refine any_takeB (i := 13) hf rfl (by kernel_rfl) (by kernel_rfl) (by kernel_rfl) (fun _ _ _ _ h => h) (Wn.some hf rfl rfl rfl rfl) (rd_neq hf rfl rfl rfl) hT rfl rfl ?_ ?_
                ·
                 clear hf; intro hc42 a hf
                 first
                 | (first | exact Bool.noConfusion hc42 | exact absurd rfl hc42 | exact absurd hc42 (by omega) | exact absurd (by omega) hc42; done)
                 | (
                  refine any_takeA (i := 14) hf rfl (Wn.some hf rfl rfl rfl rfl) (rd_move hf rfl rfl) hT rfl rfl ?_
                  clear hf; intro a hf
                  refine any_takeA (i := 16) hf rfl (Wn.some hf rfl rfl rfl rfl) (rd_move hf rfl rfl) hT rfl rfl ?_
                  clear hf; intro a hf
                  refine any_one (i := 15) rfl (by kernel_rfl) (st_rd hf (Wn.some hf rfl rfl rfl rfl) (rd_load1 hf rfl rfl ag3 (by intro _ h; exact ((h.sel (by repeat (first | exact Sel.head | apply Sel.tail)) : Sat W (mkM 3 4 bc br _ :: _) _).unall).cell (by repeat (first | exact Sel.head | apply Sel.tail)) rfl)) hS rfl rfl ?_)
                  clear hf; intro a hf
                  refine ⟨hT, ?_⟩
                  refine any_takeB (i := 17) hf rfl (by kernel_rfl) (by kernel_rfl) (by kernel_rfl) (fun _ _ _ _ h => h) (Wn.some hf rfl rfl rfl rfl) (rd_neq hf rfl rfl rfl) hT rfl rfl ?_ ?_
                  ·
                   clear hf; intro hc43 a hf
                   first
                   | (first | exact Bool.noConfusion hc43 | exact absurd rfl hc43 | exact absurd hc43 (by omega) | exact absurd (by omega) hc43; done)
                   | (
                    refine any_takeA (i := 18) hf rfl (Wn.some hf rfl rfl rfl rfl) (rd_pick_t hf rfl rfl rfl) hT rfl rfl ?_
                    clear hf; intro a hf
                    refine any_takeA (i := 19) hf rfl (Wn.none rfl) (rd_pick_f hf rfl rfl rfl) hT rfl rfl ?_
                    clear hf; intro a hf
                    refine any_takeA (i := 20) hf rfl (Wn.none rfl) (rd_move hf rfl rfl) hT rfl rfl ?_
                    clear hf; intro a hf
                    refine any_skipA (i := 21) hf rfl (Wn.some hf rfl rfl rfl rfl) hT rfl rfl ?_
                    clear hf; intro a hf
                    refine any_skipA (i := 22) hf rfl (Wn.some hf rfl rfl rfl rfl) hT rfl rfl ?_
                    clear hf; intro a hf
                    refine any_skipA (i := 23) hf rfl (Wn.some hf rfl rfl rfl rfl) hT rfl rfl ?_
                    clear hf; intro a hf
                    refine any_skipA (i := 24) hf rfl (Wn.undef hf rfl rfl rfl) hT rfl rfl ?_
                    clear hf; intro a hf
                    refine any_skipA (i := 25) hf rfl (Wn.undef hf rfl rfl rfl) hT rfl rfl ?_
                    clear hf; intro a hf
                    refine any_skipA (i := 26) hf rfl (Wn.undef hf rfl rfl rfl) hT rfl rfl ?_
                    clear hf; intro a hf
                    refine any_skipA (i := 27) hf rfl (Wn.some hf rfl rfl rfl rfl) hT rfl rfl ?_
                    clear hf; intro a hf
                    refine any_skipA (i := 28) hf rfl (Wn.some hf rfl rfl rfl rfl) hT rfl rfl ?_
                    clear hf; intro a hf
                    refine any_skipA (i := 30) hf rfl (Wn.undef hf rfl rfl rfl) hT rfl rfl ?_
                    clear hf; intro a hf
                    refine any_one (i := 29) rfl (by kernel_rfl) (st_skip hf (Wn.undef hf rfl rfl rfl) rfl rfl ?_)
                    clear hf; intro a hf
                    refine ⟨hT, ?_⟩
                    refine any_skipA (i := 31) hf rfl (Wn.undef hf rfl rfl rfl) hT rfl rfl ?_
                    clear hf; intro a hf
                    refine any_skipA (i := 32) hf rfl (Wn.some hf rfl rfl rfl rfl) hT rfl rfl ?_
                    clear hf; intro a hf
                    refine any_takeA (i := 33) hf rfl (Wn.none rfl) (rd_pick_t hf rfl rfl rfl) hT rfl rfl ?_
                    clear hf; intro a hf
                    refine any_done (by kernel_rfl) ?_
                    refine t_normal ?_
                    refine c_true hf rfl ?_
                    refine c_seq ?_
                    refine c_region ?_
                    refine step_l (st_rd hf (Wn.none rfl) (rd_assign hf rfl rfl) hS rfl rfl ?_)
                    clear hf; intro a hf
                    refine done_l ?_
                    refine t_normal ?_
                    refine c_ret ?_
                    refine b_ret ?_
                    refine t_ret ?_
                    refine t_ret ?_
                    refine b_ret ?_
                    refine t_ret ?_
                    refine e_res1 hf.defers rfl (res_tmp hf rfl .nil) ?_
                    exact ⟨rfl, hS.sub (by repeat (first | exact Sub.refl | exact Sub.none | exact Sub.behind | (apply Sub.cons; (focus ((repeat (first | exact Sel.head | apply Sel.tail)); done))) | apply Sub.skip))⟩
                    )
                  ·
                   clear hf; intro hc43 a hf
                   first
                   | (first | exact Bool.noConfusion hc43 | exact absurd rfl hc43 | exact absurd hc43 (by omega) | exact absurd (by omega) hc43; done)
                   | (
                    refine any_takeA (i := 18) hf rfl (Wn.some hf rfl rfl rfl rfl) (rd_pick_t hf rfl rfl rfl) hT rfl rfl ?_
                    clear hf; intro a hf
                    refine any_takeA (i := 19) hf rfl (Wn.none rfl) (rd_pick_f hf rfl rfl rfl) hT rfl rfl ?_
                    clear hf; intro a hf
                    refine any_takeA (i := 20) hf rfl (Wn.none rfl) (rd_move hf rfl rfl) hT rfl rfl ?_
                    clear hf; intro a hf
                    refine any_takeA (i := 21) hf rfl (Wn.some hf rfl rfl rfl rfl) (rd_move hf rfl rfl) hT rfl rfl ?_
                    clear hf; intro a hf
                    refine any_takeB (i := 22) hf rfl (by kernel_rfl) (by kernel_rfl) (by kernel_rfl) (fun _ _ _ _ h => h) (Wn.some hf rfl rfl rfl rfl) (rd_geq hf rfl rfl rfl) hT rfl rfl ?_ ?_
                    ·
                     clear hf; intro hc44 a hf
                     first
                     | (first | exact Bool.noConfusion hc44 | exact absurd rfl hc44 | exact absurd hc44 (by omega) | exact absurd (by omega) hc44; done)
                     | (
                      refine any_takeA (i := 23) hf rfl (Wn.some hf rfl rfl rfl rfl) (rd_move hf rfl rfl) hT rfl rfl ?_
                      clear hf; intro a hf
                      refine any_takeA (i := 24) hf rfl (Wn.some hf rfl rfl rfl rfl) (rd_move hf rfl rfl) hT rfl rfl ?_
                      clear hf; intro a hf
                      refine any_takeA (i := 25) hf rfl (Wn.some hf rfl rfl rfl rfl) (rd_move hf rfl rfl) hT rfl rfl ?_
                      clear hf; intro a hf
                      refine any_takeB (i := 26) hf rfl (by kernel_rfl) (by kernel_rfl) (by kernel_rfl) (fun _ _ _ _ h => h) (Wn.some hf rfl rfl rfl rfl) (rd_lss hf rfl rfl rfl) hT rfl rfl ?_ ?_
                      ·
                       clear hf; intro hc45 a hf
                       first
                       | (first | exact Bool.noConfusion hc45 | exact absurd rfl hc45 | exact absurd hc45 (by omega) | exact absurd (by omega) hc45; done)
                       | (
                        refine any_takeA (i := 27) hf rfl (Wn.some hf rfl rfl rfl rfl) (rd_pick_t hf rfl rfl rfl) hT rfl rfl ?_
                        clear hf; intro a hf
                        refine any_takeA (i := 28) hf rfl (Wn.some hf rfl rfl rfl rfl) (rd_move hf rfl rfl) hT rfl rfl ?_
                        clear hf; intro a hf
                        refine any_takeA (i := 30) hf rfl (Wn.some hf rfl rfl rfl rfl) (rd_move hf rfl rfl) hT rfl rfl ?_
                        clear hf; intro a hf
                        refine any_one (i := 29) rfl (by kernel_rfl) (st_rd hf (Wn.some hf rfl rfl rfl rfl) (rd_load1 hf rfl rfl ag3 (by intro _ h; exact ((h.sel (by repeat (first | exact Sel.head | apply Sel.tail)) : Sat W (mkM 3 4 bc br _ :: _) _).unall).cell (by repeat (first | exact Sel.head | apply Sel.tail)) rfl)) hS rfl rfl ?_)
                        clear hf; intro a hf
                        refine ⟨hT, ?_⟩
                        refine any_takeB (i := 31) hf rfl (by kernel_rfl) (by kernel_rfl) (by kernel_rfl) (fun _ _ _ _ h => h) (Wn.some hf rfl rfl rfl rfl) (rd_neq hf rfl rfl rfl) hT rfl rfl ?_ ?_
                        ·
                         clear hf; intro hc46 a hf
                         first
                         | (first | exact Bool.noConfusion hc46 | exact absurd rfl hc46 | exact absurd hc46 (by omega) | exact absurd (by omega) hc46; done)
                         | (
                          refine any_takeA (i := 32) hf rfl (Wn.some hf rfl rfl rfl rfl) (rd_pick_t hf rfl rfl rfl) hT rfl rfl ?_
                          clear hf; intro a hf
                          refine any_takeA (i := 33) hf rfl (Wn.none rfl) (rd_pick_f hf rfl rfl rfl) hT rfl rfl ?_
                          clear hf; intro a hf
                          refine any_done (by kernel_rfl) ?_
                          refine t_normal ?_
                          refine c_true hf rfl ?_
                          refine c_seq ?_
                          refine c_region ?_
                          refine step_l (st_rd hf (Wn.none rfl) (rd_assign hf rfl rfl) hS rfl rfl ?_)
                          clear hf; intro a hf
                          refine done_l ?_
                          refine t_normal ?_
                          refine c_ret ?_
                          refine b_ret ?_
                          refine t_ret ?_
                          refine t_ret ?_
                          refine b_ret ?_
                          refine t_ret ?_
                          refine e_res1 hf.defers rfl (res_tmp hf rfl .nil) ?_
                          exact ⟨rfl, hS.sub (by repeat (first | exact Sub.refl | exact Sub.none | exact Sub.behind | (apply Sub.cons; (focus ((repeat (first | exact Sel.head | apply Sel.tail)); done))) | apply Sub.skip))⟩
                          )
                        ·
                         clear hf; intro hc46 a hf
                         first
                         | (first | exact Bool.noConfusion hc46 | exact absurd rfl hc46 | exact absurd hc46 (by omega) | exact absurd (by omega) hc46; done)
                         | (
                          refine any_takeA (i := 32) hf rfl (Wn.some hf rfl rfl rfl rfl) (rd_pick_t hf rfl rfl rfl) hT rfl rfl ?_
                          clear hf; intro a hf
                          refine any_takeA (i := 33) hf rfl (Wn.none rfl) (rd_pick_f hf rfl rfl rfl) hT rfl rfl ?_
                          clear hf; intro a hf
                          refine any_done (by kernel_rfl) ?_
                          refine t_normal ?_
                          refine c_false hf rfl ?_
                          refine c_skip ?_
                          refine b_normal ?_
                          refine t_normal ?_
                          refine c_region ?_
                          refine step_l (st_rd hf (Wn.none rfl) (rd_add hf rfl rfl rfl (by first | exact Go.IntWalk.i64_in _ (by omega) | exact rfl)) hS rfl rfl ?_)
                          clear hf; intro a hf
                          refine step_l (st_rd hf (Wn.none rfl) (rd_move hf rfl rfl) hS rfl rfl ?_)
                          clear hf; intro a hf
                          refine done_l ?_
                          refine t_normal ⟨(i + 1, d || decide (inT n x)), ((hf.back (by repeat (first | exact Behind.refl | refine Behind.skip rfl ?_)) hk0).kb hf 37 rfl (by first | rfl | exact int_eq (by omega))), ⟨hS.sub (by repeat (first | exact Sub.refl | exact Sub.none | exact Sub.behind | (apply Sub.cons; (focus ((repeat (first | exact Sel.head | apply Sel.tail)); done))) | apply Sub.skip)), by omega⟩, by first | omega | (simp only []; omega)⟩
                          )
                        )
                      ·
                       clear hf; intro hc45 a hf
                       first
                       | (first | exact Bool.noConfusion hc45 | exact absurd rfl hc45 | exact absurd hc45 (by omega) | exact absurd (by omega) hc45; done)
                       | (
                        refine any_takeA (i := 27) hf rfl (Wn.some hf rfl rfl rfl rfl) (rd_pick_t hf rfl rfl rfl) hT rfl rfl ?_
                        clear hf; intro a hf
                        refine any_takeA (i := 28) hf rfl (Wn.some hf rfl rfl rfl rfl) (rd_move hf rfl rfl) hT rfl rfl ?_
                        clear hf; intro a hf
                        refine any_skipA (i := 30) hf rfl (Wn.some hf rfl rfl rfl rfl) hT rfl rfl ?_
                        clear hf; intro a hf
                        refine any_one (i := 29) rfl (by kernel_rfl) (st_skip hf (Wn.some hf rfl rfl rfl rfl) rfl rfl ?_)
                        clear hf; intro a hf
                        refine ⟨hT, ?_⟩
                        refine any_skipA (i := 31) hf rfl (Wn.some hf rfl rfl rfl rfl) hT rfl rfl ?_
                        clear hf; intro a hf
                        refine any_takeA (i := 32) hf rfl (Wn.some hf rfl rfl rfl rfl) (rd_pick_f hf rfl rfl rfl) hT rfl rfl ?_
                        clear hf; intro a hf
                        refine any_takeA (i := 33) hf rfl (Wn.none rfl) (rd_pick_f hf rfl rfl rfl) hT rfl rfl ?_
                        clear hf; intro a hf
                        refine any_done (by kernel_rfl) ?_
                        refine t_normal ?_
                        refine c_false hf rfl ?_
                        refine c_skip ?_
                        refine b_normal ?_
                        refine t_normal ?_
                        refine c_region ?_
                        refine step_l (st_rd hf (Wn.none rfl) (rd_add hf rfl rfl rfl (by first | exact Go.IntWalk.i64_in _ (by omega) | exact rfl)) hS rfl rfl ?_)
                        clear hf; intro a hf
                        refine step_l (st_rd hf (Wn.none rfl) (rd_move hf rfl rfl) hS rfl rfl ?_)
                        clear hf; intro a hf
                        refine done_l ?_
                        refine t_normal ⟨(i + 1, d || decide (inT n x)), ((hf.back (by repeat (first | exact Behind.refl | refine Behind.skip rfl ?_)) hk0).kb hf 37 rfl (by first | rfl | exact int_eq (by omega))), ⟨hS.sub (by repeat (first | exact Sub.refl | exact Sub.none | exact Sub.behind | (apply Sub.cons; (focus ((repeat (first | exact Sel.head | apply Sel.tail)); done))) | apply Sub.skip)), by omega⟩, by first | omega | (simp only []; omega)⟩
                        )
                      )
                    ·
                     clear hf; intro hc44 a hf
                     first
                     | (first | exact Bool.noConfusion hc44 | exact absurd rfl hc44 | exact absurd hc44 (by omega) | exact absurd (by omega) hc44; done)
                     | (
                      refine any_takeA (i := 23) hf rfl (Wn.some hf rfl rfl rfl rfl) (rd_move hf rfl rfl) hT rfl rfl ?_
                      clear hf; intro a hf
                      refine any_skipA (i := 24) hf rfl (Wn.some hf rfl rfl rfl rfl) hT rfl rfl ?_
                      clear hf; intro a hf
                      refine any_skipA (i := 25) hf rfl (Wn.some hf rfl rfl rfl rfl) hT rfl rfl ?_
                      clear hf; intro a hf
                      refine any_skipA (i := 26) hf rfl (Wn.some hf rfl rfl rfl rfl) hT rfl rfl ?_
                      clear hf; intro a hf
                      refine any_takeA (i := 27) hf rfl (Wn.some hf rfl rfl rfl rfl) (rd_pick_f hf rfl rfl rfl) hT rfl rfl ?_
                      clear hf; intro a hf
                      refine any_takeA (i := 28) hf rfl (Wn.some hf rfl rfl rfl rfl) (rd_move hf rfl rfl) hT rfl rfl ?_
                      clear hf; intro a hf
                      refine any_skipA (i := 30) hf rfl (Wn.some hf rfl rfl rfl rfl) hT rfl rfl ?_
                      clear hf; intro a hf
                      refine any_one (i := 29) rfl (by kernel_rfl) (st_skip hf (Wn.some hf rfl rfl rfl rfl) rfl rfl ?_)
                      clear hf; intro a hf
                      refine ⟨hT, ?_⟩
                      refine any_skipA (i := 31) hf rfl (Wn.some hf rfl rfl rfl rfl) hT rfl rfl ?_
                      clear hf; intro a hf
                      refine any_takeA (i := 32) hf rfl (Wn.some hf rfl rfl rfl rfl) (rd_pick_f hf rfl rfl rfl) hT rfl rfl ?_
                      clear hf; intro a hf
                      refine any_takeA (i := 33) hf rfl (Wn.none rfl) (rd_pick_f hf rfl rfl rfl) hT rfl rfl ?_
                      clear hf; intro a hf
                      refine any_done (by kernel_rfl) ?_
                      refine t_normal ?_
                      refine c_false hf rfl ?_
                      refine c_skip ?_
                      refine b_normal ?_
                      refine t_normal ?_
                      refine c_region ?_
                      refine step_l (st_rd hf (Wn.none rfl) (rd_add hf rfl rfl rfl (by first | exact Go.IntWalk.i64_in _ (by omega) | exact rfl)) hS rfl rfl ?_)
                      clear hf; intro a hf
                      refine step_l (st_rd hf (Wn.none rfl) (rd_move hf rfl rfl) hS rfl rfl ?_)
                      clear hf; intro a hf
                      refine done_l ?_
                      refine t_normal ⟨(i + 1, d || decide (inT n x)), ((hf.back (by repeat (first | exact Behind.refl | refine Behind.skip rfl ?_)) hk0).kb hf 37 rfl (by first | rfl | exact int_eq (by omega))), ⟨hS.sub (by repeat (first | exact Sub.refl | exact Sub.none | exact Sub.behind | (apply Sub.cons; (focus ((repeat (first | exact Sel.head | apply Sel.tail)); done))) | apply Sub.skip)), by omega⟩, by first | omega | (simp only []; omega)⟩
                      )
                    )
                  )
                ·
                 clear hf; intro hc42 a hf
                 first
                 | (first | exact Bool.noConfusion hc42 | exact absurd rfl hc42 | exact absurd hc42 (by omega) | exact absurd (by omega) hc42; done)
                 | (
                  refine any_takeA (i := 14) hf rfl (Wn.some hf rfl rfl rfl rfl) (rd_move hf rfl rfl) hT rfl rfl ?_
                  clear hf; intro a hf
                  refine any_skipA (i := 16) hf rfl (Wn.some hf rfl rfl rfl rfl) hT rfl rfl ?_
                  clear hf; intro a hf
                  refine any_one (i := 15) rfl (by kernel_rfl) (st_skip hf (Wn.some hf rfl rfl rfl rfl) rfl rfl ?_)
                  clear hf; intro a hf
                  refine ⟨hT, ?_⟩
                  refine any_skipA (i := 17) hf rfl (Wn.some hf rfl rfl rfl rfl) hT rfl rfl ?_
                  clear hf; intro a hf
                  refine any_takeA (i := 18) hf rfl (Wn.some hf rfl rfl rfl rfl) (rd_pick_f hf rfl rfl rfl) hT rfl rfl ?_
                  clear hf; intro a hf
                  refine any_takeA (i := 19) hf rfl (Wn.none rfl) (rd_pick_f hf rfl rfl rfl) hT rfl rfl ?_
                  clear hf; intro a hf
                  refine any_takeA (i := 20) hf rfl (Wn.none rfl) (rd_move hf rfl rfl) hT rfl rfl ?_
                  clear hf; intro a hf
                  refine any_takeA (i := 21) hf rfl (Wn.some hf rfl rfl rfl rfl) (rd_move hf rfl rfl) hT rfl rfl ?_
                  clear hf; intro a hf
                  refine any_takeB (i := 22) hf rfl (by kernel_rfl) (by kernel_rfl) (by kernel_rfl) (fun _ _ _ _ h => h) (Wn.some hf rfl rfl rfl rfl) (rd_geq hf rfl rfl rfl) hT rfl rfl ?_ ?_
                  ·
                   clear hf; intro hc47 a hf
                   first
                   | (first | exact Bool.noConfusion hc47 | exact absurd rfl hc47 | exact absurd hc47 (by omega) | exact absurd (by omega) hc47; done)
                   | (
                    refine any_takeA (i := 23) hf rfl (Wn.some hf rfl rfl rfl rfl) (rd_move hf rfl rfl) hT rfl rfl ?_
                    clear hf; intro a hf
                    refine any_takeA (i := 24) hf rfl (Wn.some hf rfl rfl rfl rfl) (rd_move hf rfl rfl) hT rfl rfl ?_
                    clear hf; intro a hf
                    refine any_takeA (i := 25) hf rfl (Wn.some hf rfl rfl rfl rfl) (rd_move hf rfl rfl) hT rfl rfl ?_
                    clear hf; intro a hf
                    refine any_takeB (i := 26) hf rfl (by kernel_rfl) (by kernel_rfl) (by kernel_rfl) (fun _ _ _ _ h => h) (Wn.some hf rfl rfl rfl rfl) (rd_lss hf rfl rfl rfl) hT rfl rfl ?_ ?_
                    ·
                     clear hf; intro hc48 a hf
                     first
                     | (first | exact Bool.noConfusion hc48 | exact absurd rfl hc48 | exact absurd hc48 (by omega) | exact absurd (by omega) hc48; done)
                     | (
                      refine any_takeA (i := 27) hf rfl (Wn.some hf rfl rfl rfl rfl) (rd_pick_t hf rfl rfl rfl) hT rfl rfl ?_
                      clear hf; intro a hf
                      refine any_takeA (i := 28) hf rfl (Wn.some hf rfl rfl rfl rfl) (rd_move hf rfl rfl) hT rfl rfl ?_
                      clear hf; intro a hf
                      refine any_takeA (i := 30) hf rfl (Wn.some hf rfl rfl rfl rfl) (rd_move hf rfl rfl) hT rfl rfl ?_
                      clear hf; intro a hf
                      refine any_one (i := 29) rfl (by kernel_rfl) (st_rd hf (Wn.some hf rfl rfl rfl rfl) (rd_load1 hf rfl rfl ag3 (by intro _ h; exact ((h.sel (by repeat (first | exact Sel.head | apply Sel.tail)) : Sat W (mkM 3 4 bc br _ :: _) _).unall).cell (by repeat (first | exact Sel.head | apply Sel.tail)) rfl)) hS rfl rfl ?_)
                      clear hf; intro a hf
                      refine ⟨hT, ?_⟩
                      refine any_takeB (i := 31) hf rfl (by kernel_rfl) (by kernel_rfl) (by kernel_rfl) (fun _ _ _ _ h => h) (Wn.some hf rfl rfl rfl rfl) (rd_neq hf rfl rfl rfl) hT rfl rfl ?_ ?_
                      ·
                       clear hf; intro hc49 a hf
                       first
                       | (first | exact Bool.noConfusion hc49 | exact absurd rfl hc49 | exact absurd hc49 (by omega) | exact absurd (by omega) hc49; done)
                       | (
                        refine any_takeA (i := 32) hf rfl (Wn.some hf rfl rfl rfl rfl) (rd_pick_t hf rfl rfl rfl) hT rfl rfl ?_
                        clear hf; intro a hf
                        refine any_takeA (i := 33) hf rfl (Wn.none rfl) (rd_pick_f hf rfl rfl rfl) hT rfl rfl ?_
                        clear hf; intro a hf
                        refine any_done (by kernel_rfl) ?_
                        refine t_normal ?_
                        refine c_true hf rfl ?_
                        refine c_seq ?_
                        refine c_region ?_
                        refine step_l (st_rd hf (Wn.none rfl) (rd_assign hf rfl rfl) hS rfl rfl ?_)
                        clear hf; intro a hf
                        refine done_l ?_
                        refine t_normal ?_
                        refine c_ret ?_
                        refine b_ret ?_
                        refine t_ret ?_
                        refine t_ret ?_
                        refine b_ret ?_
                        refine t_ret ?_
                        refine e_res1 hf.defers rfl (res_tmp hf rfl .nil) ?_
                        exact ⟨rfl, hS.sub (by repeat (first | exact Sub.refl | exact Sub.none | exact Sub.behind | (apply Sub.cons; (focus ((repeat (first | exact Sel.head | apply Sel.tail)); done))) | apply Sub.skip))⟩
                        )
                      ·
                       clear hf; intro hc49 a hf
                       first
                       | (first | exact Bool.noConfusion hc49 | exact absurd rfl hc49 | exact absurd hc49 (by omega) | exact absurd (by omega) hc49; done)
                       | (
                        refine any_takeA (i := 32) hf rfl (Wn.some hf rfl rfl rfl rfl) (rd_pick_t hf rfl rfl rfl) hT rfl rfl ?_
                        clear hf; intro a hf
                        refine any_takeA (i := 33) hf rfl (Wn.none rfl) (rd_pick_f hf rfl rfl rfl) hT rfl rfl ?_
                        clear hf; intro a hf
                        refine any_done (by kernel_rfl) ?_
                        refine t_normal ?_
                        refine c_false hf rfl ?_
                        refine c_skip ?_
                        refine b_normal ?_
                        refine t_normal ?_
                        refine c_region ?_
                        refine step_l (st_rd hf (Wn.none rfl) (rd_add hf rfl rfl rfl (by first | exact Go.IntWalk.i64_in _ (by omega) | exact rfl)) hS rfl rfl ?_)
                        clear hf; intro a hf
                        refine step_l (st_rd hf (Wn.none rfl) (rd_move hf rfl rfl) hS rfl rfl ?_)
                        clear hf; intro a hf
                        refine done_l ?_
                        refine t_normal ⟨(i + 1, d || decide (inT n x)), ((hf.back (by repeat (first | exact Behind.refl | refine Behind.skip rfl ?_)) hk0).kb hf 37 rfl (by first | rfl | exact int_eq (by omega))), ⟨hS.sub (by repeat (first | exact Sub.refl | exact Sub.none | exact Sub.behind | (apply Sub.cons; (focus ((repeat (first | exact Sel.head | apply Sel.tail)); done))) | apply Sub.skip)), by omega⟩, by first | omega | (simp only []; omega)⟩
                        )
                      )
                    ·
                     clear hf; intro hc48 a hf
                     first
                     | (first | exact Bool.noConfusion hc48 | exact absurd rfl hc48 | exact absurd hc48 (by omega) | exact absurd (by omega) hc48; done)
                     | (
                      refine any_takeA (i := 27) hf rfl (Wn.some hf rfl rfl rfl rfl) (rd_pick_t hf rfl rfl rfl) hT rfl rfl ?_
                      clear hf; intro a hf
                      refine any_takeA (i := 28) hf rfl (Wn.some hf rfl rfl rfl rfl) (rd_move hf rfl rfl) hT rfl rfl ?_
                      clear hf; intro a hf
                      refine any_skipA (i := 30) hf rfl (Wn.some hf rfl rfl rfl rfl) hT rfl rfl ?_
                      clear hf; intro a hf
                      refine any_one (i := 29) rfl (by kernel_rfl) (st_skip hf (Wn.some hf rfl rfl rfl rfl) rfl rfl ?_)
                      clear hf; intro a hf
                      refine ⟨hT, ?_⟩
                      refine any_skipA (i := 31) hf rfl (Wn.some hf rfl rfl rfl rfl) hT rfl rfl ?_
                      clear hf; intro a hf
                      refine any_takeA (i := 32) hf rfl (Wn.some hf rfl rfl rfl rfl) (rd_pick_f hf rfl rfl rfl) hT rfl rfl ?_
                      clear hf; intro a hf
                      refine any_takeA (i := 33) hf rfl (Wn.none rfl) (rd_pick_f hf rfl rfl rfl) hT rfl rfl ?_
                      clear hf; intro a hf
                      refine any_done (by kernel_rfl) ?_
                      refine t_normal ?_
                      refine c_false hf rfl ?_
                      refine c_skip ?_
                      refine b_normal ?_
                      refine t_normal ?_
                      refine c_region ?_
                      refine step_l (st_rd hf (Wn.none rfl) (rd_add hf rfl rfl rfl (by first | exact Go.IntWalk.i64_in _ (by omega) | exact rfl)) hS rfl rfl ?_)
                      clear hf; intro a hf
                      refine step_l (st_rd hf (Wn.none rfl) (rd_move hf rfl rfl) hS rfl rfl ?_)
                      clear hf; intro a hf
                      refine done_l ?_
                      refine t_normal ⟨(i + 1, d || decide (inT n x)), ((hf.back (by repeat (first | exact Behind.refl | refine Behind.skip rfl ?_)) hk0).kb hf 37 rfl (by first | rfl | exact int_eq (by omega))), ⟨hS.sub (by repeat (first | exact Sub.refl | exact Sub.none | exact Sub.behind | (apply Sub.cons; (focus ((repeat (first | exact Sel.head | apply Sel.tail)); done))) | apply Sub.skip)), by omega⟩, by first | omega | (simp only []; omega)⟩
                      )
                    )
                  ·
                   clear hf; intro hc47 a hf
                   first
                   | (first | exact Bool.noConfusion hc47 | exact absurd rfl hc47 | exact absurd hc47 (by omega) | exact absurd (by omega) hc47; done)
                   | (
                    refine any_takeA (i := 23) hf rfl (Wn.some hf rfl rfl rfl rfl) (rd_move hf rfl rfl) hT rfl rfl ?_
                    clear hf; intro a hf
                    refine any_skipA (i := 24) hf rfl (Wn.some hf rfl rfl rfl rfl) hT rfl rfl ?_
                    clear hf; intro a hf
                    refine any_skipA (i := 25) hf rfl (Wn.some hf rfl rfl rfl rfl) hT rfl rfl ?_
                    clear hf; intro a hf
                    refine any_skipA (i := 26) hf rfl (Wn.some hf rfl rfl rfl rfl) hT rfl rfl ?_
                    clear hf; intro a hf
                    refine any_takeA (i := 27) hf rfl (Wn.some hf rfl rfl rfl rfl) (rd_pick_f hf rfl rfl rfl) hT rfl rfl ?_
                    clear hf; intro a hf
                    refine any_takeA (i := 28) hf rfl (Wn.some hf rfl rfl rfl rfl) (rd_move hf rfl rfl) hT rfl rfl ?_
                    clear hf; intro a hf
                    refine any_skipA (i := 30) hf rfl (Wn.some hf rfl rfl rfl rfl) hT rfl rfl ?_
                    clear hf; intro a hf
                    refine any_one (i := 29) rfl (by kernel_rfl) (st_skip hf (Wn.some hf rfl rfl rfl rfl) rfl rfl ?_)
                    clear hf; intro a hf
                    refine ⟨hT, ?_⟩
                    refine any_skipA (i := 31) hf rfl (Wn.some hf rfl rfl rfl rfl) hT rfl rfl ?_
                    clear hf; intro a hf
                    refine any_takeA (i := 32) hf rfl (Wn.some hf rfl rfl rfl rfl) (rd_pick_f hf rfl rfl rfl) hT rfl rfl ?_
                    clear hf; intro a hf
                    refine any_takeA (i := 33) hf rfl (Wn.none rfl) (rd_pick_f hf rfl rfl rfl) hT rfl rfl ?_
                    clear hf; intro a hf
                    refine any_done (by kernel_rfl) ?_
                    refine t_normal ?_
                    refine c_false hf rfl ?_
                    refine c_skip ?_
                    refine b_normal ?_
                    refine t_normal ?_
                    refine c_region ?_
                    refine step_l (st_rd hf (Wn.none rfl) (rd_add hf rfl rfl rfl (by first | exact Go.IntWalk.i64_in _ (by omega) | exact rfl)) hS rfl rfl ?_)
                    clear hf; intro a hf
                    refine step_l (st_rd hf (Wn.none rfl) (rd_move hf rfl rfl) hS rfl rfl ?_)
                    clear hf; intro a hf
                    refine done_l ?_
                    refine t_normal ⟨(i + 1, d || decide (inT n x)), ((hf.back (by repeat (first | exact Behind.refl | refine Behind.skip rfl ?_)) hk0).kb hf 37 rfl (by first | rfl | exact int_eq (by omega))), ⟨hS.sub (by repeat (first | exact Sub.refl | exact Sub.none | exact Sub.behind | (apply Sub.cons; (focus ((repeat (first | exact Sel.head | apply Sel.tail)); done))) | apply Sub.skip)), by omega⟩, by first | omega | (simp only []; omega)⟩
                    )
                  )
                )
             )
         ·
          clear hf; intro hc10 a hf
          have hv := tAt_out (n := n) (vals := tvals (mf y) mg 0 n) (i := x) (by omega)
          refine step_l (st_rd hf (Wn.none rfl) (rd_move hf rfl rfl) hS rfl rfl ?_)
          clear hf; intro a hf
          refine step_l (st_skip hf (Wn.some hf rfl rfl rfl rfl) rfl rfl ?_)
          clear hf; intro a hf
          refine step_l (st_skip hf (Wn.some hf rfl rfl rfl rfl) rfl rfl ?_)
          clear hf; intro a hf
          refine step_l (st_skip hf (Wn.some hf rfl rfl rfl rfl) rfl rfl ?_)
          clear hf; intro a hf
          refine step_l (st_rd hf (Wn.none rfl) (rd_pick_f hf rfl rfl rfl) hS rfl rfl ?_)
          clear hf; intro a hf
          refine done_l ?_
          refine t_normal ?_
          refine c_false hf rfl ?_
          refine c_skip ?_
          refine t_normal ?_
          refine c_seq ?_
          refine any_begin (S := Sat W (R)) mixed (hS.drew.sub (by repeat (first | exact Sub.refl | exact Sub.none | exact Sub.behind | (apply Sub.cons; (focus ((repeat (first | exact Sel.head | apply Sel.tail)); done))) | apply Sub.skip))) ?_
          have hT : Sat W (R) _ := hS.drew.sub (by repeat (first | exact Sub.refl | exact Sub.none | exact Sub.behind | (apply Sub.cons; (focus ((repeat (first | exact Sel.head | apply Sel.tail)); done))) | apply Sub.skip))
          replace hS := hS.drew
          refine any_takeA (i := 0) hf rfl (Wn.none rfl) (rd_move hf rfl rfl) hT rfl rfl ?_
          clear hf; intro a hf
          refine any_takeA (i := 1) hf rfl (Wn.none rfl) (rd_move hf rfl rfl) hT rfl rfl ?_
          clear hf; intro a hf
          refine any_takeA (i := 3) hf rfl (Wn.none rfl) (rd_move hf rfl rfl) hT rfl rfl ?_
          clear hf; intro a hf
          refine any_one (i := 2) rfl (by kernel_rfl) (st_call hf (Wn.none rfl) rfl rfl rfl fn14 (At_c (mkM 3 4 bc br) (mf y) mg 0 pt n 17 [] [Value.pointer (some ⟨br, 0, none⟩), Value.pointer (some ⟨bc, 0, none⟩), Value.pointer (some ⟨by_, 0, none⟩)] x d (show Sat W (TbP 63 24 pt n (.func (.func 17) [].toArray [Value.pointer (some ⟨br, 0, none⟩), Value.pointer (some ⟨bc, 0, none⟩), Value.pointer (some ⟨by_, 0, none⟩)].toArray) (tvals (mf y) mg 0 n) d :: mkM 3 4 bc br (if d = true then mst mg 0 n else 0) :: Blk by_ [u32v y] 24 :: R) _ from by rw [mst_id]; exact hS.sub (by repeat (first | exact Sub.refl | exact Sub.none | exact Sub.behind | (apply Sub.cons; (focus ((repeat (first | exact Sel.head | apply Sel.tail)); done))) | apply Sub.skip))) fn17 (mk_makes bc br by_ n y hn4 _ (fun w h => h.cell (by repeat (first | exact Sel.head | apply Sel.tail)) rfl)) hn4) rfl rfl ?_)
          clear hf hS; rintro v a w ⟨hvr, hS⟩ hf; rw [mst_id] at hS; rw [hv] at hvr; subst hvr; have hq1 := ite_mk (d || decide (inT n x)) n; have hq2 : 0 ≤ x → x < n → (if (d || decide (inT n x)) = true then n else 0) = n := fun h1 h2 => by rw [decide_eq_true (show inT n x from ⟨h1, h2⟩), Bool.or_true, if_pos rfl]
          replace hT := hS.sub' hT (by repeat (first | exact Sub.refl | exact Sub.none | exact Sub.behind | (apply Sub.cons; (focus ((repeat (first | exact Sel.head | apply Sel.tail)); done))) | apply Sub.skip))
          refine ⟨hT, ?_⟩
          refine any_takeB (i := 4) hf rfl (by kernel_rfl) (by kernel_rfl) (by kernel_rfl) (fun _ _ _ _ h => h) (Wn.none rfl) (rd_neq hf rfl rfl rfl) hT rfl rfl ?_ ?_
          ·
           clear hf; intro hc50 a hf
           first
           | (first | exact Bool.noConfusion hc50 | exact absurd rfl hc50 | exact absurd hc50 (by omega) | exact absurd (by omega) hc50; done)
           | (
            refine any_takeA (i := 5) hf rfl (Wn.none rfl) (rd_move hf rfl rfl) hT rfl rfl ?_
            clear hf; intro a hf
            refine any_skipA (i := 7) hf rfl (Wn.some hf rfl rfl rfl rfl) hT rfl rfl ?_
            clear hf; intro a hf
            refine any_skipA (i := 8) hf rfl (Wn.some hf rfl rfl rfl rfl) hT rfl rfl ?_
            clear hf; intro a hf
            refine any_one (i := 6) rfl (by kernel_rfl) (st_skip hf (Wn.some hf rfl rfl rfl rfl) rfl rfl ?_)
            clear hf; intro a hf
            refine ⟨hT, ?_⟩
            refine any_skipA (i := 9) hf rfl (Wn.some hf rfl rfl rfl rfl) hT rfl rfl ?_
            clear hf; intro a hf
            refine any_takeA (i := 10) hf rfl (Wn.none rfl) (rd_pick_t hf rfl rfl rfl) hT rfl rfl ?_
            clear hf; intro a hf
            refine any_takeA (i := 11) hf rfl (Wn.none rfl) (rd_move hf rfl rfl) hT rfl rfl ?_
            clear hf; intro a hf
            refine any_one (i := 12) rfl (by kernel_rfl) (st_skip hf (Wn.some hf rfl rfl rfl rfl) rfl rfl ?_)
            clear hf; intro a hf
            refine ⟨hT, ?_⟩
            refine any_skipA (i := 13) hf rfl (Wn.some hf rfl rfl rfl rfl) hT rfl rfl ?_
            clear hf; intro a hf
            refine any_skipA (i := 14) hf rfl (Wn.some hf rfl rfl rfl rfl) hT rfl rfl ?_
            clear hf; intro a hf
            refine any_skipA (i := 16) hf rfl (Wn.undef hf rfl rfl rfl) hT rfl rfl ?_
            clear hf; intro a hf
            refine any_one (i := 15) rfl (by kernel_rfl) (st_skip hf (Wn.undef hf rfl rfl rfl) rfl rfl ?_)
            clear hf; intro a hf
            refine ⟨hT, ?_⟩
            refine any_skipA (i := 17) hf rfl (Wn.undef hf rfl rfl rfl) hT rfl rfl ?_
            clear hf; intro a hf
            refine any_skipA (i := 18) hf rfl (Wn.some hf rfl rfl rfl rfl) hT rfl rfl ?_
            clear hf; intro a hf
            refine any_takeA (i := 19) hf rfl (Wn.none rfl) (rd_pick_t hf rfl rfl rfl) hT rfl rfl ?_
            clear hf; intro a hf
            refine any_takeA (i := 20) hf rfl (Wn.none rfl) (rd_move hf rfl rfl) hT rfl rfl ?_
            clear hf; intro a hf
            refine any_skipA (i := 21) hf rfl (Wn.some hf rfl rfl rfl rfl) hT rfl rfl ?_
            clear hf; intro a hf
            refine any_skipA (i := 22) hf rfl (Wn.some hf rfl rfl rfl rfl) hT rfl rfl ?_
            clear hf; intro a hf
            refine any_skipA (i := 23) hf rfl (Wn.some hf rfl rfl rfl rfl) hT rfl rfl ?_
            clear hf; intro a hf
            refine any_skipA (i := 24) hf rfl (Wn.undef hf rfl rfl rfl) hT rfl rfl ?_
            clear hf; intro a hf
            refine any_skipA (i := 25) hf rfl (Wn.undef hf rfl rfl rfl) hT rfl rfl ?_
            clear hf; intro a hf
            refine any_skipA (i := 26) hf rfl (Wn.undef hf rfl rfl rfl) hT rfl rfl ?_
            clear hf; intro a hf
            refine any_skipA (i := 27) hf rfl (Wn.some hf rfl rfl rfl rfl) hT rfl rfl ?_
            clear hf; intro a hf
            refine any_skipA (i := 28) hf rfl (Wn.some hf rfl rfl rfl rfl) hT rfl rfl ?_
            clear hf; intro a hf
            refine any_skipA (i := 30) hf rfl (Wn.undef hf rfl rfl rfl) hT rfl rfl ?_
            clear hf; intro a hf
            refine any_one (i := 29) rfl (by kernel_rfl) (st_skip hf (Wn.undef hf rfl rfl rfl) rfl rfl ?_)
            clear hf; intro a hf
            refine ⟨hT, ?_⟩
            refine any_skipA (i := 31) hf rfl (Wn.undef hf rfl rfl rfl) hT rfl rfl ?_
            clear hf; intro a hf
            refine any_skipA (i := 32) hf rfl (Wn.some hf rfl rfl rfl rfl) hT rfl rfl ?_
            clear hf; intro a hf
            refine any_takeA (i := 33) hf rfl (Wn.none rfl) (rd_pick_t hf rfl rfl rfl) hT rfl rfl ?_
            clear hf; intro a hf
            refine any_done (by kernel_rfl) ?_
            refine t_normal ?_
            refine c_true hf rfl ?_
            refine c_seq ?_
            refine c_region ?_
            refine step_l (st_rd hf (Wn.none rfl) (rd_assign hf rfl rfl) hS rfl rfl ?_)
            clear hf; intro a hf
            refine done_l ?_
            refine t_normal ?_
            refine c_ret ?_
            refine b_ret ?_
            refine t_ret ?_
            refine t_ret ?_
            refine b_ret ?_
            refine t_ret ?_
            refine e_res1 hf.defers rfl (res_tmp hf rfl .nil) ?_
            exact ⟨rfl, hS.sub (by repeat (first | exact Sub.refl | exact Sub.none | exact Sub.behind | (apply Sub.cons; (focus ((repeat (first | exact Sel.head | apply Sel.tail)); done))) | apply Sub.skip))⟩
            )
          ·
           clear hf; intro hc50 a hf
           first
           | (first | exact Bool.noConfusion hc50 | exact absurd rfl hc50 | exact absurd hc50 (by omega) | exact absurd (by omega) hc50; done)
           | (
            refine any_takeA (i := 5) hf rfl (Wn.none rfl) (rd_move hf rfl rfl) hT rfl rfl ?_
            clear hf; intro a hf
            refine any_takeA (i := 7) hf rfl (Wn.some hf rfl rfl rfl rfl) (rd_move hf rfl rfl) hT rfl rfl ?_
            clear hf; intro a hf
            refine any_two (i := 6) (j := 8) rfl rfl (by kernel_rfl) ?_ ?_
            ·
             skip
             refine st_rd hf (Wn.some hf rfl rfl rfl rfl) (rd_load1 hf rfl rfl ag3 (by intro _ h; exact ((h.sel (by repeat (first | exact Sel.head | apply Sel.tail)) : Sat W (mkM 3 4 bc br _ :: _) _).unall).cell (by repeat (first | exact Sel.head | apply Sel.tail)) rfl)) hS rfl rfl ?_
             clear hf; intro a hf
             refine ⟨hT, ?_⟩
             refine any_one (i := 8) rfl (by kernel_rfl) (st_call hf (Wn.some hf rfl rfl rfl rfl) rfl rfl rfl fn18 (Made_c _ _ _ _ _ (hS.sel (by repeat (first | exact Sel.head | apply Sel.tail)))) rfl rfl ?_)
             clear hf hS; rintro v a w ⟨rfl, hS⟩ hf
             replace hT := hS.sub' hT (by repeat (first | exact Sub.refl | exact Sub.none | exact Sub.behind | (apply Sub.cons; (focus ((repeat (first | exact Sel.head | apply Sel.tail)); done))) | apply Sub.skip))
             refine ⟨hT, ?_⟩
             refine any_takeB (i := 9) hf rfl (by kernel_rfl) (by kernel_rfl) (by kernel_rfl) (fun _ _ _ _ h => h) (Wn.some hf rfl rfl rfl rfl) (rd_neq hf rfl rfl rfl) hT rfl rfl ?_ ?_
             ·
              clear hf; intro hc51 a hf
              first
              | (first | exact Bool.noConfusion hc51 | exact absurd rfl hc51 | exact absurd hc51 (by omega) | exact absurd (by omega) hc51; done)
              | (
               refine any_takeA (i := 10) hf rfl (Wn.none rfl) (rd_pick_f hf rfl rfl rfl) hT rfl rfl ?_
               clear hf; intro a hf
               refine any_takeA (i := 11) hf rfl (Wn.none rfl) (rd_move hf rfl rfl) hT rfl rfl ?_
               clear hf; intro a hf
               refine any_one (i := 12) rfl (by kernel_rfl) (st_skip hf (Wn.some hf rfl rfl rfl rfl) rfl rfl ?_)
               clear hf; intro a hf
               refine ⟨hT, ?_⟩
               refine any_skipA (i := 13) hf rfl (Wn.some hf rfl rfl rfl rfl) hT rfl rfl ?_
               clear hf; intro a hf
               refine any_skipA (i := 14) hf rfl (Wn.some hf rfl rfl rfl rfl) hT rfl rfl ?_
               clear hf; intro a hf
               refine any_skipA (i := 16) hf rfl (Wn.undef hf rfl rfl rfl) hT rfl rfl ?_
               clear hf; intro a hf
               refine any_one (i := 15) rfl (by kernel_rfl) (st_skip hf (Wn.undef hf rfl rfl rfl) rfl rfl ?_)
               clear hf; intro a hf
               refine ⟨hT, ?_⟩
               refine any_skipA (i := 17) hf rfl (Wn.undef hf rfl rfl rfl) hT rfl rfl ?_
               clear hf; intro a hf
               refine any_skipA (i := 18) hf rfl (Wn.some hf rfl rfl rfl rfl) hT rfl rfl ?_
               clear hf; intro a hf
               refine any_takeA (i := 19) hf rfl (Wn.none rfl) (rd_pick_t hf rfl rfl rfl) hT rfl rfl ?_
               clear hf; intro a hf
               refine any_takeA (i := 20) hf rfl (Wn.none rfl) (rd_move hf rfl rfl) hT rfl rfl ?_
               clear hf; intro a hf
               refine any_skipA (i := 21) hf rfl (Wn.some hf rfl rfl rfl rfl) hT rfl rfl ?_
               clear hf; intro a hf
               refine any_skipA (i := 22) hf rfl (Wn.some hf rfl rfl rfl rfl) hT rfl rfl ?_
               clear hf; intro a hf
               refine any_skipA (i := 23) hf rfl (Wn.some hf rfl rfl rfl rfl) hT rfl rfl ?_
               clear hf; intro a hf
               refine any_skipA (i := 24) hf rfl (Wn.undef hf rfl rfl rfl) hT rfl rfl ?_
               clear hf; intro a hf
               refine any_skipA (i := 25) hf rfl (Wn.undef hf rfl rfl rfl) hT rfl rfl ?_
               clear hf; intro a hf
               refine any_skipA (i := 26) hf rfl (Wn.undef hf rfl rfl rfl) hT rfl rfl ?_
               clear hf; intro a hf
               refine any_skipA (i := 27) hf rfl (Wn.some hf rfl rfl rfl rfl) hT rfl rfl ?_
               clear hf; intro a hf
               refine any_skipA (i := 28) hf rfl (Wn.some hf rfl rfl rfl rfl) hT rfl rfl ?_
               clear hf; intro a hf
               refine any_skipA (i := 30) hf rfl (Wn.undef hf rfl rfl rfl) hT rfl rfl ?_
               clear hf; intro a hf
               refine any_one (i := 29) rfl (by kernel_rfl) (st_skip hf (Wn.undef hf rfl rfl rfl) rfl rfl ?_)
               clear hf; intro a hf
               refine ⟨hT, ?_⟩
               refine any_skipA (i := 31) hf rfl (Wn.undef hf rfl rfl rfl) hT rfl rfl ?_
               clear hf; intro a hf
               refine any_skipA (i := 32) hf rfl (Wn.some hf rfl rfl rfl rfl) hT rfl rfl ?_
               clear hf; intro a hf
               refine any_takeA (i := 33) hf rfl (Wn.none rfl) (rd_pick_t hf rfl rfl rfl) hT rfl rfl ?_
               clear hf; intro a hf
               refine any_done (by kernel_rfl) ?_
               refine t_normal ?_
               refine c_true hf rfl ?_
               refine c_seq ?_
               refine c_region ?_
               refine step_l (st_rd hf (Wn.none rfl) (rd_assign hf rfl rfl) hS rfl rfl ?_)
               clear hf; intro a hf
               refine done_l ?_
               refine t_normal ?_
               refine c_ret ?_
               refine b_ret ?_
               refine t_ret ?_
               refine t_ret ?_
               refine b_ret ?_
               refine t_ret ?_
               refine e_res1 hf.defers rfl (res_tmp hf rfl .nil) ?_
               exact ⟨rfl, hS.sub (by repeat (first | exact Sub.refl | exact Sub.none | exact Sub.behind | (apply Sub.cons; (focus ((repeat (first | exact Sel.head | apply Sel.tail)); done))) | apply Sub.skip))⟩
               )
             ·
              clear hf; intro hc51 a hf
              first
              | (first | exact Bool.noConfusion hc51 | exact absurd rfl hc51 | exact absurd hc51 (by omega) | exact absurd (by omega) hc51; done)
              | (
               refine any_takeA (i := 10) hf rfl (Wn.none rfl) (rd_pick_f hf rfl rfl rfl) hT rfl rfl ?_
               clear hf; intro a hf
               refine any_takeA (i := 11) hf rfl (Wn.none rfl) (rd_move hf rfl rfl) hT rfl rfl ?_
               clear hf; intro a hf
               refine any_one (i := 12) rfl (by kernel_rfl) (st_rd hf (Wn.some hf rfl rfl rfl rfl) (rd_load1 hf rfl rfl ag3 (by intro _ h; exact ((h.sel (by repeat (first | exact Sel.head | apply Sel.tail)) : Sat W (mkM 3 4 bc br _ :: _) _).unall).cell (by repeat (first | exact Sel.head | apply Sel.tail)) rfl)) hS rfl rfl ?_)
               clear hf; intro a hf
               refine ⟨hT, ?_⟩
               refine any_takeB (i := 13) hf rfl (by kernel_rfl) (by kernel_rfl) (by kernel_rfl) (fun _ _ _ _ h => h) (Wn.some hf rfl rfl rfl rfl) (rd_neq hf rfl rfl rfl) hT rfl rfl ?_ ?_
               ·
                clear hf; intro hc52 a hf
                first
                | (first | exact Bool.noConfusion hc52 | exact absurd rfl hc52 | exact absurd hc52 (by omega) | exact absurd (by omega) hc52; done)
                | (
                 refine any_takeA (i := 14) hf rfl (Wn.some hf rfl rfl rfl rfl) (rd_move hf rfl rfl) hT rfl rfl ?_
                 clear hf; intro a hf
                 refine any_takeA (i := 16) hf rfl (Wn.some hf rfl rfl rfl rfl) (rd_move hf rfl rfl) hT rfl rfl ?_
                 clear hf; intro a hf
                 refine any_one (i := 15) rfl (by kernel_rfl) (st_rd hf (Wn.some hf rfl rfl rfl rfl) (rd_load1 hf rfl rfl ag3 (by intro _ h; exact ((h.sel (by repeat (first | exact Sel.head | apply Sel.tail)) : Sat W (mkM 3 4 bc br _ :: _) _).unall).cell (by repeat (first | exact Sel.head | apply Sel.tail)) rfl)) hS rfl rfl ?_)
                 clear hf; intro a hf
                 refine ⟨hT, ?_⟩
                 refine any_takeB (i := 17) hf rfl (by kernel_rfl) (by kernel_rfl) (by kernel_rfl) (fun _ _ _ _ h => h) (Wn.some hf rfl rfl rfl rfl) (rd_neq hf rfl rfl rfl) hT rfl rfl ?_ ?_
                 ·
                  clear hf; intro hc53 a hf
                  first
                  | (first | exact Bool.noConfusion hc53 | exact absurd rfl hc53 | exact absurd hc53 (by omega) | exact absurd (by omega) hc53; done)
                  | (
                   refine any_takeA (i := 18) hf rfl (Wn.some hf rfl rfl rfl rfl) (rd_pick_t hf rfl rfl rfl) hT rfl rfl ?_
                   clear hf; intro a hf
                   refine any_takeA (i := 19) hf rfl (Wn.none rfl) (rd_pick_f hf rfl rfl rfl) hT rfl rfl ?_
                   clear hf; intro a hf
                   refine any_takeA (i := 20) hf rfl (Wn.none rfl) (rd_move hf rfl rfl) hT rfl rfl ?_
                   clear hf; intro a hf
                   refine any_skipA (i := 21) hf rfl (Wn.some hf rfl rfl rfl rfl) hT rfl rfl ?_
                   clear hf; intro a hf
                   refine any_skipA (i := 22) hf rfl (Wn.some hf rfl rfl rfl rfl) hT rfl rfl ?_
                   clear hf; intro a hf
                   refine any_skipA (i := 23) hf rfl (Wn.some hf rfl rfl rfl rfl) hT rfl rfl ?_
                   clear hf; intro a hf
                   refine any_skipA (i := 24) hf rfl (Wn.undef hf rfl rfl rfl) hT rfl rfl ?_
                   clear hf; intro a hf
                   refine any_skipA (i := 25) hf rfl (Wn.undef hf rfl rfl rfl) hT rfl rfl ?_
                   clear hf; intro a hf
                   refine any_skipA (i := 26) hf rfl (Wn.undef hf rfl rfl rfl) hT rfl rfl ?_
                   clear hf; intro a hf
                   refine any_skipA (i := 27) hf rfl (Wn.some hf rfl rfl rfl rfl) hT rfl rfl ?_
                   clear hf; intro a hf
                   refine any_skipA (i := 28) hf rfl (Wn.some hf rfl rfl rfl rfl) hT rfl rfl ?_
                   clear hf; intro a hf
                   refine any_skipA (i := 30) hf rfl (Wn.undef hf rfl rfl rfl) hT rfl rfl ?_
                   clear hf; intro a hf
                   refine any_one (i := 29) rfl (by kernel_rfl) (st_skip hf (Wn.undef hf rfl rfl rfl) rfl rfl ?_)
                   clear hf; intro a hf
                   refine ⟨hT, ?_⟩
                   refine any_skipA (i := 31) hf rfl (Wn.undef hf rfl rfl rfl) hT rfl rfl ?_
                   clear hf; intro a hf
                   refine any_skipA (i := 32) hf rfl (Wn.some hf rfl rfl rfl rfl) hT rfl rfl ?_
                   clear hf; intro a hf
                   refine any_takeA (i := 33) hf rfl (Wn.none rfl) (rd_pick_t hf rfl rfl rfl) hT rfl rfl ?_
                   clear hf; intro a hf
                   refine any_done (by kernel_rfl) ?_
                   refine t_normal ?_
                   refine c_true hf rfl ?_
                   refine c_seq ?_
                   refine c_region ?_
                   refine step_l (st_rd hf (Wn.none rfl) (rd_assign hf rfl rfl) hS rfl rfl ?_)
                   clear hf; intro a hf
                   refine done_l ?_
                   refine t_normal ?_
                   refine c_ret ?_
                   refine b_ret ?_
                   refine t_ret ?_
                   refine t_ret ?_
                   refine b_ret ?_
                   refine t_ret ?_
                   refine e_res1 hf.defers rfl (res_tmp hf rfl .nil) ?_
                   exact ⟨rfl, hS.sub (by repeat (first | exact Sub.refl | exact Sub.none | exact Sub.behind | (apply Sub.cons; (focus ((repeat (first | exact Sel.head | apply Sel.tail)); done))) | apply Sub.skip))⟩
                   )
                 ·
                  clear hf; intro hc53 a hf
                  first
                  | (first | exact Bool.noConfusion hc53 | exact absurd rfl hc53 | exact absurd hc53 (by omega) | exact absurd (by omega) hc53; done)
                  | (
                   refine any_takeA (i := 18) hf rfl (Wn.some hf rfl rfl rfl rfl) (rd_pick_t hf rfl rfl rfl) hT rfl rfl ?_
                   clear hf; intro a hf
                   refine any_takeA (i := 19) hf rfl (Wn.none rfl) (rd_pick_f hf rfl rfl rfl) hT rfl rfl ?_
                   clear hf; intro a hf
                   refine any_takeA (i := 20) hf rfl (Wn.none rfl) (rd_move hf rfl rfl) hT rfl rfl ?_
                   clear hf; intro a hf
                   refine any_takeA (i := 21) hf rfl (Wn.some hf rfl rfl rfl rfl) (rd_move hf rfl rfl) hT rfl rfl ?_
                   clear hf; intro a hf
                   refine any_takeB (i := 22) hf rfl (by kernel_rfl) (by kernel_rfl) (by kernel_rfl) (fun _ _ _ _ h => h) (Wn.some hf rfl rfl rfl rfl) (rd_geq hf rfl rfl rfl) hT rfl rfl ?_ ?_
                   ·
                    clear hf; intro hc54 a hf
                    first
                    | (first | exact Bool.noConfusion hc54 | exact absurd rfl hc54 | exact absurd hc54 (by omega) | exact absurd (by omega) hc54; done)
                    | (
                     refine any_takeA (i := 23) hf rfl (Wn.some hf rfl rfl rfl rfl) (rd_move hf rfl rfl) hT rfl rfl ?_
                     clear hf; intro a hf
                     refine any_takeA (i := 24) hf rfl (Wn.some hf rfl rfl rfl rfl) (rd_move hf rfl rfl) hT rfl rfl ?_
                     clear hf; intro a hf
                     refine any_takeA (i := 25) hf rfl (Wn.some hf rfl rfl rfl rfl) (rd_move hf rfl rfl) hT rfl rfl ?_
                     clear hf; intro a hf
                     refine any_takeB (i := 26) hf rfl (by kernel_rfl) (by kernel_rfl) (by kernel_rfl) (fun _ _ _ _ h => h) (Wn.some hf rfl rfl rfl rfl) (rd_lss hf rfl rfl rfl) hT rfl rfl ?_ ?_
                     ·
                      clear hf; intro hc55 a hf
                      first
                      | (first | exact Bool.noConfusion hc55 | exact absurd rfl hc55 | exact absurd hc55 (by omega) | exact absurd (by omega) hc55; done)
                      | (
                       refine any_takeA (i := 27) hf rfl (Wn.some hf rfl rfl rfl rfl) (rd_pick_t hf rfl rfl rfl) hT rfl rfl ?_
                       clear hf; intro a hf
                       refine any_takeA (i := 28) hf rfl (Wn.some hf rfl rfl rfl rfl) (rd_move hf rfl rfl) hT rfl rfl ?_
                       clear hf; intro a hf
                       refine any_takeA (i := 30) hf rfl (Wn.some hf rfl rfl rfl rfl) (rd_move hf rfl rfl) hT rfl rfl ?_
                       clear hf; intro a hf
                       refine any_one (i := 29) rfl (by kernel_rfl) (st_rd hf (Wn.some hf rfl rfl rfl rfl) (rd_load1 hf rfl rfl ag3 (by intro _ h; exact ((h.sel (by repeat (first | exact Sel.head | apply Sel.tail)) : Sat W (mkM 3 4 bc br _ :: _) _).unall).cell (by repeat (first | exact Sel.head | apply Sel.tail)) rfl)) hS rfl rfl ?_)
                       clear hf; intro a hf
                       refine ⟨hT, ?_⟩
                       refine any_takeB (i := 31) hf rfl (by kernel_rfl) (by kernel_rfl) (by kernel_rfl) (fun _ _ _ _ h => h) (Wn.some hf rfl rfl rfl rfl) (rd_neq hf rfl rfl rfl) hT rfl rfl ?_ ?_
                       ·
                        clear hf; intro hc56 a hf
                        first
                        | (first | exact Bool.noConfusion hc56 | exact absurd rfl hc56 | exact absurd hc56 (by omega) | exact absurd (by omega) hc56; done)
                        | (
                         refine any_takeA (i := 32) hf rfl (Wn.some hf rfl rfl rfl rfl) (rd_pick_t hf rfl rfl rfl) hT rfl rfl ?_
                         clear hf; intro a hf
                         refine any_takeA (i := 33) hf rfl (Wn.none rfl) (rd_pick_f hf rfl rfl rfl) hT rfl rfl ?_
                         clear hf; intro a hf
                         refine any_done (by kernel_rfl) ?_
                         refine t_normal ?_
                         refine c_true hf rfl ?_
                         refine c_seq ?_
                         refine c_region ?_
                         refine step_l (st_rd hf (Wn.none rfl) (rd_assign hf rfl rfl) hS rfl rfl ?_)
                         clear hf; intro a hf
                         refine done_l ?_
                         refine t_normal ?_
                         refine c_ret ?_
                         refine b_ret ?_
                         refine t_ret ?_
                         refine t_ret ?_
                         refine b_ret ?_
                         refine t_ret ?_
                         refine e_res1 hf.defers rfl (res_tmp hf rfl .nil) ?_
                         exact ⟨rfl, hS.sub (by repeat (first | exact Sub.refl | exact Sub.none | exact Sub.behind | (apply Sub.cons; (focus ((repeat (first | exact Sel.head | apply Sel.tail)); done))) | apply Sub.skip))⟩
                         )
                       ·
                        clear hf; intro hc56 a hf
                        first
                        | (first | exact Bool.noConfusion hc56 | exact absurd rfl hc56 | exact absurd hc56 (by omega) | exact absurd (by omega) hc56; done)
                        | (
                         refine any_takeA (i := 32) hf rfl (Wn.some hf rfl rfl rfl rfl) (rd_pick_t hf rfl rfl rfl) hT rfl rfl ?_
                         clear hf; intro a hf
                         refine any_takeA (i := 33) hf rfl (Wn.none rfl) (rd_pick_f hf rfl rfl rfl) hT rfl rfl ?_
                         clear hf; intro a hf
                         refine any_done (by kernel_rfl) ?_
                         refine t_normal ?_
                         refine c_false hf rfl ?_
                         refine c_skip ?_
                         refine b_normal ?_
                         refine t_normal ?_
                         refine c_region ?_
                         refine step_l (st_rd hf (Wn.none rfl) (rd_add hf rfl rfl rfl (by first | exact Go.IntWalk.i64_in _ (by omega) | exact rfl)) hS rfl rfl ?_)
                         clear hf; intro a hf
                         refine step_l (st_rd hf (Wn.none rfl) (rd_move hf rfl rfl) hS rfl rfl ?_)
                         clear hf; intro a hf
                         refine done_l ?_
                         refine t_normal ⟨(i + 1, d || decide (inT n x)), ((hf.back (by repeat (first | exact Behind.refl | refine Behind.skip rfl ?_)) hk0).kb hf 37 rfl (by first | rfl | exact int_eq (by omega))), ⟨hS.sub (by repeat (first | exact Sub.refl | exact Sub.none | exact Sub.behind | (apply Sub.cons; (focus ((repeat (first | exact Sel.head | apply Sel.tail)); done))) | apply Sub.skip)), by omega⟩, by first | omega | (simp only []; omega)⟩
                         )
                       )
                     ·
                      clear hf; intro hc55 a hf
                      first
                      | (first | exact Bool.noConfusion hc55 | exact absurd rfl hc55 | exact absurd hc55 (by omega) | exact absurd (by omega) hc55; done)
                      | (
                       refine any_takeA (i := 27) hf rfl (Wn.some hf rfl rfl rfl rfl) (rd_pick_t hf rfl rfl rfl) hT rfl rfl ?_
                       clear hf; intro a hf
                       refine any_takeA (i := 28) hf rfl (Wn.some hf rfl rfl rfl rfl) (rd_move hf rfl rfl) hT rfl rfl ?_
                       clear hf; intro a hf
                       refine any_skipA (i := 30) hf rfl (Wn.some hf rfl rfl rfl rfl) hT rfl rfl ?_
                       clear hf; intro a hf
                       refine any_one (i := 29) rfl (by kernel_rfl) (st_skip hf (Wn.some hf rfl rfl rfl rfl) rfl rfl ?_)
                       clear hf; intro a hf
                       refine ⟨hT, ?_⟩
                       refine any_skipA (i := 31) hf rfl (Wn.some hf rfl rfl rfl rfl) hT rfl rfl ?_
                       clear hf; intro a hf
                       refine any_takeA (i := 32) hf rfl (Wn.some hf rfl rfl rfl rfl) (rd_pick_f hf rfl rfl rfl) hT rfl rfl ?_
                       clear hf; intro a hf
                       refine any_takeA (i := 33) hf rfl (Wn.none rfl) (rd_pick_f hf rfl rfl rfl) hT rfl rfl ?_
                       clear hf; intro a hf
                       refine any_done (by kernel_rfl) ?_
                       refine t_normal ?_
                       refine c_false hf rfl ?_
                       refine c_skip ?_
                       refine b_normal ?_
                       refine t_normal ?_
                       refine c_region ?_
                       refine step_l (st_rd hf (Wn.none rfl) (rd_add hf rfl rfl rfl (by first | exact Go.IntWalk.i64_in _ (by omega) | exact rfl)) hS rfl rfl ?_)
                       clear hf; intro a hf
                       refine step_l (st_rd hf (Wn.none rfl) (rd_move hf rfl rfl) hS rfl rfl ?_)
                       clear hf; intro a hf
                       refine done_l ?_
                       refine t_normal ⟨(i + 1, d || decide (inT n x)), ((hf.back (by repeat (first | exact Behind.refl | refine Behind.skip rfl ?_)) hk0).kb hf 37 rfl (by first | rfl | exact int_eq (by omega))), ⟨hS.sub (by repeat (first | exact Sub.refl | exact Sub.none | exact Sub.behind | (apply Sub.cons; (focus ((repeat (first | exact Sel.head | apply Sel.tail)); done))) | apply Sub.skip)), by omega⟩, by first | omega | (simp only []; omega)⟩
                       )
                     )
                   ·
                    clear hf; intro hc54 a hf
                    first
                    | (first | exact Bool.noConfusion hc54 | exact absurd rfl hc54 | exact absurd hc54 (by omega) | exact absurd (by omega) hc54; done)
                    | (
                     refine any_takeA (i := 23) hf rfl (Wn.some hf rfl rfl rfl rfl) (rd_move hf rfl rfl) hT rfl rfl ?_
                     clear hf; intro a hf
                     refine any_skipA (i := 24) hf rfl (Wn.some hf rfl rfl rfl rfl) hT rfl rfl ?_
                     clear hf; intro a hf
                     refine any_skipA (i := 25) hf rfl (Wn.some hf rfl rfl rfl rfl) hT rfl rfl ?_
                     clear hf; intro a hf
                     refine any_skipA (i := 26) hf rfl (Wn.some hf rfl rfl rfl rfl) hT rfl rfl ?_
                     clear hf; intro a hf
                     refine any_takeA (i := 27) hf rfl (Wn.some hf rfl rfl rfl rfl) (rd_pick_f hf rfl rfl rfl) hT rfl rfl ?_
                     clear hf; intro a hf
                     refine any_takeA (i := 28) hf rfl (Wn.some hf rfl rfl rfl rfl) (rd_move hf rfl rfl) hT rfl rfl ?_
                     clear hf; intro a hf
                     refine any_skipA (i := 30) hf rfl (Wn.some hf rfl rfl rfl rfl) hT rfl rfl ?_
                     clear hf; intro a hf
                     refine any_one (i := 29) rfl (by kernel_rfl) (st_skip hf (Wn.some hf rfl rfl rfl rfl) rfl rfl ?_)
                     clear hf; intro a hf
                     refine ⟨hT, ?_⟩
                     refine any_skipA (i := 31) hf rfl (Wn.some hf rfl rfl rfl rfl) hT rfl rfl ?_
                     clear hf; intro a hf
                     refine any_takeA (i := 32) hf rfl (Wn.some hf rfl rfl rfl rfl) (rd_pick_f hf rfl rfl rfl) hT rfl rfl ?_
                     clear hf; intro a hf
                     refine any_takeA (i := 33) hf rfl (Wn.none rfl) (rd_pick_f hf rfl rfl rfl) hT rfl rfl ?_
                     clear hf; intro a hf
                     refine any_done (by kernel_rfl) ?_
                     refine t_normal ?_
                     refine c_false hf rfl ?_
                     refine c_skip ?_
                     refine b_normal ?_
                     refine t_normal ?_
                     refine c_region ?_
                     refine step_l (st_rd hf (Wn.none rfl) (rd_add hf rfl rfl rfl (by first | exact Go.IntWalk.i64_in _ (by omega) | exact rfl)) hS rfl rfl ?_)
                     clear hf; intro a hf
                     refine step_l (st_rd hf (Wn.none rfl) (rd_move hf rfl rfl) hS rfl rfl ?_)
                     clear hf; intro a hf
                     refine done_l ?_
                     refine t_normal ⟨(i + 1, d || decide (inT n x)), ((hf.back (by repeat (first | exact Behind.refl | refine Behind.skip rfl ?_)) hk0).kb hf 37 rfl (by first | rfl | exact int_eq (by omega))), ⟨hS.sub (by repeat (first | exact Sub.refl | exact Sub.none | exact Sub.behind | (apply Sub.cons; (focus ((repeat (first | exact Sel.head | apply Sel.tail)); done))) | apply Sub.skip)), by omega⟩, by first | omega | (simp only []; omega)⟩
                     )
                   )
                 )
               ·
                clear hf; intro hc52 a hf
                first
                | (first | exact Bool.noConfusion hc52 | exact absurd rfl hc52 | exact absurd hc52 (by omega) | exact absurd (by omega) hc52; done)
                | (
                 refine any_takeA (i := 14) hf rfl (Wn.some hf rfl rfl rfl rfl) (rd_move hf rfl rfl) hT rfl rfl ?_
                 clear hf; intro a hf
                 refine any_skipA (i := 16) hf rfl (Wn.some hf rfl rfl rfl rfl) hT rfl rfl ?_
                 clear hf; intro a hf
                 refine any_one (i := 15) rfl (by kernel_rfl) (st_skip hf (Wn.some hf rfl rfl rfl rfl) rfl rfl ?_)
                 clear hf; intro a hf
                 refine ⟨hT, ?_⟩
                 refine any_skipA (i := 17) hf rfl (Wn.some hf rfl rfl rfl rfl) hT rfl rfl ?_
                 clear hf; intro a hf
                 refine any_takeA (i := 18) hf rfl (Wn.some hf rfl rfl rfl rfl) (rd_pick_f hf rfl rfl rfl) hT rfl rfl ?_
                 clear hf; intro a hf
                 refine any_takeA (i := 19) hf rfl (Wn.none rfl) (rd_pick_f hf rfl rfl rfl) hT rfl rfl ?_
                 clear hf; intro a hf
                 refine any_takeA (i := 20) hf rfl (Wn.none rfl) (rd_move hf rfl rfl) hT rfl rfl ?_
                 clear hf; intro a hf
                 refine any_takeA (i := 21) hf rfl (Wn.some hf rfl rfl rfl rfl) (rd_move hf rfl rfl) hT rfl rfl ?_
                 clear hf; intro a hf
                 refine any_takeB (i := 22) hf rfl (by kernel_rfl) (by kernel_rfl) (by kernel_rfl) (fun _ _ _ _ h => h) (Wn.some hf rfl rfl rfl rfl) (rd_geq hf rfl rfl rfl) hT rfl rfl ?_ ?_
                 ·
                  clear hf; intro hc57 a hf
                  first
                  | (first | exact Bool.noConfusion hc57 | exact absurd rfl hc57 | exact absurd hc57 (by omega) | exact absurd (by omega) hc57; done)
                  | (
                   refine any_takeA (i := 23) hf rfl (Wn.some hf rfl rfl rfl rfl) (rd_move hf rfl rfl) hT rfl rfl ?_
                   clear hf; intro a hf
                   refine any_takeA (i := 24) hf rfl (Wn.some hf rfl rfl rfl rfl) (rd_move hf rfl rfl) hT rfl rfl ?_
                   clear hf; intro a hf
                   refine any_takeA (i := 25) hf rfl (Wn.some hf rfl rfl rfl rfl) (rd_move hf rfl rfl) hT rfl rfl ?_
                   clear hf; intro a hf
                   refine any_takeB (i := 26) hf rfl (by kernel_rfl) (by kernel_rfl) (by kernel_rfl) (fun _ _ _ _ h => h) (Wn.some hf rfl rfl rfl rfl) (rd_lss hf rfl rfl rfl) hT rfl rfl ?_ ?_
                   ·
                    clear hf; intro hc58 a hf
                    first
                    | (first | exact Bool.noConfusion hc58 | exact absurd rfl hc58 | exact absurd hc58 (by omega) | exact absurd (by omega) hc58; done)
                    | (
                     refine any_takeA (i := 27) hf rfl (Wn.some hf rfl rfl rfl rfl) (rd_pick_t hf rfl rfl rfl) hT rfl rfl ?_
                     clear hf; intro a hf
                     refine any_takeA (i := 28) hf rfl (Wn.some hf rfl rfl rfl rfl) (rd_move hf rfl rfl) hT rfl rfl ?_
                     clear hf; intro a hf
                     refine any_takeA (i := 30) hf rfl (Wn.some hf rfl rfl rfl rfl) (rd_move hf rfl rfl) hT rfl rfl ?_
                     clear hf; intro a hf
                     refine any_one (i := 29) rfl (by kernel_rfl) (st_rd hf (Wn.some hf rfl rfl rfl rfl) (rd_load1 hf rfl rfl ag3 (by intro _ h; exact ((h.sel (by repeat (first | exact Sel.head | apply Sel.tail)) : Sat W (mkM 3 4 bc br _ :: _) _).unall).cell (by repeat (first | exact Sel.head | apply Sel.tail)) rfl)) hS rfl rfl ?_)
                     clear hf; intro a hf
                     refine ⟨hT, ?_⟩
                     refine any_takeB (i := 31) hf rfl (by kernel_rfl) (by kernel_rfl) (by kernel_rfl) (fun _ _ _ _ h => h) (Wn.some hf rfl rfl rfl rfl) (rd_neq hf rfl rfl rfl) hT rfl rfl ?_ ?_
                     ·
                      clear hf; intro hc59 a hf
                      first
                      | (first | exact Bool.noConfusion hc59 | exact absurd rfl hc59 | exact absurd hc59 (by omega) | exact absurd (by omega) hc59; done)
                      | (
                       refine any_takeA (i := 32) hf rfl (Wn.some hf rfl rfl rfl rfl) (rd_pick_t hf rfl rfl rfl) hT rfl rfl ?_
                       clear hf; intro a hf
                       refine any_takeA (i := 33) hf rfl (Wn.none rfl) (rd_pick_f hf rfl rfl rfl) hT rfl rfl ?_
                       clear hf; intro a hf
                       refine any_done (by kernel_rfl) ?_
                       refine t_normal ?_
                       refine c_true hf rfl ?_
                       refine c_seq ?_
                       refine c_region ?_
                       refine step_l (st_rd hf (Wn.none rfl) (rd_assign hf rfl rfl) hS rfl rfl ?_)
                       clear hf; intro a hf
                       refine done_l ?_
                       refine t_normal ?_
                       refine c_ret ?_
                       refine b_ret ?_
                       refine t_ret ?_
                       refine t_ret ?_
                       refine b_ret ?_
                       refine t_ret ?_
                       refine e_res1 hf.defers rfl (res_tmp hf rfl .nil) ?_
                       exact ⟨rfl, hS.sub (by repeat (first | exact Sub.refl | exact Sub.none | exact Sub.behind | (apply Sub.cons; (focus ((repeat (first | exact Sel.head | apply Sel.tail)); done))) | apply Sub.skip))⟩
                       )
                     ·
                      clear hf; intro hc59 a hf
                      first
                      | (first | exact Bool.noConfusion hc59 | exact absurd rfl hc59 | exact absurd hc59 (by omega) | exact absurd (by omega) hc59; done)
                      | (
                       refine any_takeA (i := 32) hf rfl (Wn.some hf rfl rfl rfl rfl) (rd_pick_t hf rfl rfl rfl) hT rfl rfl ?_
                       clear hf; intro a hf
                       refine any_takeA (i := 33) hf rfl (Wn.none rfl) (rd_pick_f hf rfl rfl rfl) hT rfl rfl ?_
                       clear hf; intro a hf
                       refine any_done (by kernel_rfl) ?_
                       refine t_normal ?_
                       refine c_false hf rfl ?_
                       refine c_skip ?_
                       refine b_normal ?_
                       refine t_normal ?_
                       refine c_region ?_
                       refine step_l (st_rd hf (Wn.none rfl) (rd_add hf rfl rfl rfl (by first | exact Go.IntWalk.i64_in _ (by omega) | exact rfl)) hS rfl rfl ?_)
                       clear hf; intro a hf
                       refine step_l (st_rd hf (Wn.none rfl) (rd_move hf rfl rfl) hS rfl rfl ?_)
                       clear hf; intro a hf
                       refine done_l ?_
                       refine t_normal ⟨(i + 1, d || decide (inT n x)), ((hf.back (by repeat (first | exact Behind.refl | refine Behind.skip rfl ?_)) hk0).kb hf 37 rfl (by first | rfl | exact int_eq (by omega))), ⟨hS.sub (by repeat (first | exact Sub.refl | exact Sub.none | exact Sub.behind | (apply Sub.cons; (focus ((repeat (first | exact Sel.head | apply Sel.tail)); done))) | apply Sub.skip)), by omega⟩, by first | omega | (simp only []; omega)⟩
                       )
                     )
                   ·
                    clear hf; intro hc58 a hf
                    first
                    | (first | exact Bool.noConfusion hc58 | exact absurd rfl hc58 | exact absurd hc58 (by omega) | exact absurd (by omega) hc58; done)
                    | (
                     refine any_takeA (i := 27) hf rfl (Wn.some hf rfl rfl rfl rfl) (rd_pick_t hf rfl rfl rfl) hT rfl rfl ?_
                     clear hf; intro a hf
                     refine any_takeA (i := 28) hf rfl (Wn.some hf rfl rfl rfl rfl) (rd_move hf rfl rfl) hT rfl rfl ?_
                     clear hf; intro a hf
                     refine any_skipA (i := 30) hf rfl (Wn.some hf rfl rfl rfl rfl) hT rfl rfl ?_
                     clear hf; intro a hf
                     refine any_one (i := 29) rfl (by kernel_rfl) (st_skip hf (Wn.some hf rfl rfl rfl rfl) rfl rfl ?_)
                     clear hf; intro a hf
                     refine ⟨hT, ?_⟩
                     refine any_skipA (i := 31) hf rfl (Wn.some hf rfl rfl rfl rfl) hT rfl rfl ?_
                     clear hf; intro a hf
                     refine any_takeA (i := 32) hf rfl (Wn.some hf rfl rfl rfl rfl) (rd_pick_f hf rfl rfl rfl) hT rfl rfl ?_
                     clear hf; intro a hf
                     refine any_takeA (i := 33) hf rfl (Wn.none rfl) (rd_pick_f hf rfl rfl rfl) hT rfl rfl ?_
                     clear hf; intro a hf
                     refine any_done (by kernel_rfl) ?_
                     refine t_normal ?_
                     refine c_false hf rfl ?_
                     refine c_skip ?_
                     refine b_normal ?_
                     refine t_normal ?_
                     refine c_region ?_
                     refine step_l (st_rd hf (Wn.none rfl) (rd_add hf rfl rfl rfl (by first | exact Go.IntWalk.i64_in _ (by omega) | exact rfl)) hS rfl rfl ?_)
                     clear hf; intro a hf
                     refine step_l (st_rd hf (Wn.none rfl) (rd_move hf rfl rfl) hS rfl rfl ?_)
                     clear hf; intro a hf
                     refine done_l ?_
                     refine t_normal ⟨(i + 1, d || decide (inT n x)), ((hf.back (by repeat (first | exact Behind.refl | refine Behind.skip rfl ?_)) hk0).kb hf 37 rfl (by first | rfl | exact int_eq (by omega))), ⟨hS.sub (by repeat (first | exact Sub.refl | exact Sub.none | exact Sub.behind | (apply Sub.cons; (focus ((repeat (first | exact Sel.head | apply Sel.tail)); done))) | apply Sub.skip)), by omega⟩, by first | omega | (simp only []; omega)⟩
                     )
                   )
                 ·
                  clear hf; intro hc57 a hf
                  first
                  | (first | exact Bool.noConfusion hc57 | exact absurd rfl hc57 | exact absurd hc57 (by omega) | exact absurd (by omega) hc57; done)
                  | (
                   refine any_takeA (i := 23) hf rfl (Wn.some hf rfl rfl rfl rfl) (rd_move hf rfl rfl) hT rfl rfl ?_
                   clear hf; intro a hf
                   refine any_skipA (i := 24) hf rfl (Wn.some hf rfl rfl rfl rfl) hT rfl rfl ?_
                   clear hf; intro a hf
                   refine any_skipA (i := 25) hf rfl (Wn.some hf rfl rfl rfl rfl) hT rfl rfl ?_
                   clear hf; intro a hf
                   refine any_skipA (i := 26) hf rfl (Wn.some hf rfl rfl rfl rfl) hT rfl rfl ?_
                   clear hf; intro a hf
                   refine any_takeA (i := 27) hf rfl (Wn.some hf rfl rfl rfl rfl) (rd_pick_f hf rfl rfl rfl) hT rfl rfl ?_
                   clear hf; intro a hf
                   refine any_takeA (i := 28) hf rfl (Wn.some hf rfl rfl rfl rfl) (rd_move hf rfl rfl) hT rfl rfl ?_
                   clear hf; intro a hf
                   refine any_skipA (i := 30) hf rfl (Wn.some hf rfl rfl rfl rfl) hT rfl rfl ?_
                   clear hf; intro a hf
                   refine any_one (i := 29) rfl (by kernel_rfl) (st_skip hf (Wn.some hf rfl rfl rfl rfl) rfl rfl ?_)
                   clear hf; intro a hf
                   refine ⟨hT, ?_⟩
                   refine any_skipA (i := 31) hf rfl (Wn.some hf rfl rfl rfl rfl) hT rfl rfl ?_
                   clear hf; intro a hf
                   refine any_takeA (i := 32) hf rfl (Wn.some hf rfl rfl rfl rfl) (rd_pick_f hf rfl rfl rfl) hT rfl rfl ?_
                   clear hf; intro a hf
                   refine any_takeA (i := 33) hf rfl (Wn.none rfl) (rd_pick_f hf rfl rfl rfl) hT rfl rfl ?_
                   clear hf; intro a hf
                   refine any_done (by kernel_rfl) ?_
                   refine t_normal ?_
                   refine c_false hf rfl ?_
                   refine c_skip ?_
                   refine b_normal ?_
                   refine t_normal ?_
                   refine c_region ?_
                   refine step_l (st_rd hf (Wn.none rfl) (rd_add hf rfl rfl rfl (by first | exact Go.IntWalk.i64_in _ (by omega) | exact rfl)) hS rfl rfl ?_)
                   clear hf; intro a hf
                   refine step_l (st_rd hf (Wn.none rfl) (rd_move hf rfl rfl) hS rfl rfl ?_)
                   clear hf; intro a hf
                   refine done_l ?_
                   refine t_normal ⟨(i + 1, d || decide (inT n x)), ((hf.back (by repeat (first | exact Behind.refl | refine Behind.skip rfl ?_)) hk0).kb hf 37 rfl (by first | rfl | exact int_eq (by omega))), ⟨hS.sub (by repeat (first | exact Sub.refl | exact Sub.none | exact Sub.behind | (apply Sub.cons; (focus ((repeat (first | exact Sel.head | apply Sel.tail)); done))) | apply Sub.skip)), by omega⟩, by first | omega | (simp only []; omega)⟩
                   )
                 )
               )
            ·
             skip
             refine st_call hf (Wn.some hf rfl rfl rfl rfl) rfl rfl rfl fn18 (Made_c _ _ _ _ _ (hS.sel (by repeat (first | exact Sel.head | apply Sel.tail)))) rfl rfl ?_
             clear hf hS; rintro v a w ⟨rfl, hS⟩ hf
             replace hT := hS.sub' hT (by repeat (first | exact Sub.refl | exact Sub.none | exact Sub.behind | (apply Sub.cons; (focus ((repeat (first | exact Sel.head | apply Sel.tail)); done))) | apply Sub.skip))
             refine ⟨hT, ?_⟩
             refine any_one (i := 6) rfl (by kernel_rfl) (st_rd hf (Wn.some hf rfl rfl rfl rfl) (rd_load1 hf rfl rfl ag3 (by intro _ h; exact ((h.sel (by repeat (first | exact Sel.head | apply Sel.tail)) : Sat W (mkM 3 4 bc br _ :: _) _).unall).cell (by repeat (first | exact Sel.head | apply Sel.tail)) rfl)) hS rfl rfl ?_)
             clear hf; intro a hf
             refine ⟨hT, ?_⟩
             refine any_takeB (i := 9) hf rfl (by kernel_rfl) (by kernel_rfl) (by kernel_rfl) (fun _ _ _ _ h => h) (Wn.some hf rfl rfl rfl rfl) (rd_neq hf rfl rfl rfl) hT rfl rfl ?_ ?_
             ·
              clear hf; intro hc60 a hf
              first
              | (first | exact Bool.noConfusion hc60 | exact absurd rfl hc60 | exact absurd hc60 (by omega) | exact absurd (by omega) hc60; done)
              | (
               refine any_takeA (i := 10) hf rfl (Wn.none rfl) (rd_pick_f hf rfl rfl rfl) hT rfl rfl ?_
               clear hf; intro a hf
               refine any_takeA (i := 11) hf rfl (Wn.none rfl) (rd_move hf rfl rfl) hT rfl rfl ?_
               clear hf; intro a hf
               refine any_one (i := 12) rfl (by kernel_rfl) (st_skip hf (Wn.some hf rfl rfl rfl rfl) rfl rfl ?_)
               clear hf; intro a hf
               refine ⟨hT, ?_⟩
               refine any_skipA (i := 13) hf rfl (Wn.some hf rfl rfl rfl rfl) hT rfl rfl ?_
               clear hf; intro a hf
               refine any_skipA (i := 14) hf rfl (Wn.some hf rfl rfl rfl rfl) hT rfl rfl ?_
               clear hf; intro a hf
               refine any_skipA (i := 16) hf rfl (Wn.undef hf rfl rfl rfl) hT rfl rfl ?_
               clear hf; intro a hf
               refine any_one (i := 15) rfl (by kernel_rfl) (st_skip hf (Wn.undef hf rfl rfl rfl) rfl rfl ?_)
               clear hf; intro a hf
               refine ⟨hT, ?_⟩
               refine any_skipA (i := 17) hf rfl (Wn.undef hf rfl rfl rfl) hT rfl rfl ?_
               clear hf; intro a hf
               refine any_skipA (i := 18) hf rfl (Wn.some hf rfl rfl rfl rfl) hT rfl rfl ?_
               clear hf; intro a hf
               refine any_takeA (i := 19) hf rfl (Wn.none rfl) (rd_pick_t hf rfl rfl rfl) hT rfl rfl ?_
               clear hf; intro a hf
               refine any_takeA (i := 20) hf rfl (Wn.none rfl) (rd_move hf rfl rfl) hT rfl rfl ?_
               clear hf; intro a hf
               refine any_skipA (i := 21) hf rfl (Wn.some hf rfl rfl rfl rfl) hT rfl rfl ?_
               clear hf; intro a hf
               refine any_skipA (i := 22) hf rfl (Wn.some hf rfl rfl rfl rfl) hT rfl rfl ?_
               clear hf; intro a hf
               refine any_skipA (i := 23) hf rfl (Wn.some hf rfl rfl rfl rfl) hT rfl rfl ?_
               clear hf; intro a hf
               refine any_skipA (i := 24) hf rfl (Wn.undef hf rfl rfl rfl) hT rfl rfl ?_
               clear hf; intro a hf
               refine any_skipA (i := 25) hf rfl (Wn.undef hf rfl rfl rfl) hT rfl rfl ?_
               clear hf; intro a hf
               refine any_skipA (i := 26) hf rfl (Wn.undef hf rfl rfl rfl) hT rfl rfl ?_
               clear hf; intro a hf
               refine any_skipA (i := 27) hf rfl (Wn.some hf rfl rfl rfl rfl) hT rfl rfl ?_
               clear hf; intro a hf
               refine any_skipA (i := 28) hf rfl (Wn.some hf rfl rfl rfl rfl) hT rfl rfl ?_
               clear hf; intro a hf
               refine any_skipA (i := 30) hf rfl (Wn.undef hf rfl rfl rfl) hT rfl rfl ?_
               clear hf; intro a hf
               refine any_one (i := 29) rfl (by kernel_rfl) (st_skip hf (Wn.undef hf rfl rfl rfl) rfl rfl ?_)
               clear hf; intro a hf
               refine ⟨hT, ?_⟩
               refine any_skipA (i := 31) hf rfl (Wn.undef hf rfl rfl rfl) hT rfl rfl ?_
               clear hf; intro a hf
               refine any_skipA (i := 32) hf rfl (Wn.some hf rfl rfl rfl rfl) hT rfl rfl ?_
               clear hf; intro a hf
               refine any_takeA (i := 33) hf rfl (Wn.none rfl) (rd_pick_t hf rfl rfl rfl) hT rfl rfl ?_
               clear hf; intro a hf
               refine any_done (by kernel_rfl) ?_
               refine t_normal ?_
               refine c_true hf rfl ?_
               refine c_seq ?_
               refine c_region ?_
               refine step_l (st_rd hf (Wn.none rfl) (rd_assign hf rfl rfl) hS rfl rfl ?_)
               clear hf; intro a hf
               refine done_l ?_
               refine t_normal ?_
               refine c_ret ?_
               refine b_ret ?_
               refine t_ret ?_
               refine t_ret ?_
               refine b_ret ?_
               refine t_ret ?_
               refine e_res1 hf.defers rfl (res_tmp hf rfl .nil) ?_
               exact ⟨rfl, hS.sub (by repeat (first | exact Sub.refl | exact Sub.none | exact Sub.behind | (apply Sub.cons; (focus ((repeat (first | exact Sel.head | apply Sel.tail)); done))) | apply Sub.skip))⟩
               )
             ·
              clear hf; intro hc60 a hf
              first
              | (first | exact Bool.noConfusion hc60 | exact absurd rfl hc60 | exact absurd hc60 (by omega) | exact absurd (by omega) hc60; done)
              | (
               refine any_takeA (i := 10) hf rfl (Wn.none rfl) (rd_pick_f hf rfl rfl rfl) hT rfl rfl ?_
               clear hf; intro a hf
               refine any_takeA (i := 11) hf rfl (Wn.none rfl) (rd_move hf rfl rfl) hT rfl rfl ?_
               clear hf; intro a hf
               refine any_one (i := 12) rfl (by kernel_rfl) (st_rd hf (Wn.some hf rfl rfl rfl rfl) (rd_load1 hf rfl rfl ag3 (by intro _ h; exact ((h.sel (by repeat (first | exact Sel.head | apply Sel.tail)) : Sat W (mkM 3 4 bc br _ :: _) _).unall).cell (by repeat (first | exact Sel.head | apply Sel.tail)) rfl)) hS rfl rfl ?_)
               clear hf; intro a hf
               refine ⟨hT, ?_⟩
               refine any_takeB (i := 13) hf rfl (by kernel_rfl) (by kernel_rfl) (by kernel_rfl) (fun _ _ _ _ h => h) (Wn.some hf rfl rfl rfl rfl) (rd_neq hf rfl rfl rfl) hT rfl rfl ?_ ?_
               ·
                clear hf; intro hc61 a hf
                first
                | (first | exact Bool.noConfusion hc61 | exact absurd rfl hc61 | exact absurd hc61 (by omega) | exact absurd (by omega) hc61; done)
                | (
                 refine any_takeA (i := 14) hf rfl (Wn.some hf rfl rfl rfl rfl) (rd_move hf rfl rfl) hT rfl rfl ?_
                 clear hf; intro a hf
                 refine any_takeA (i := 16) hf rfl (Wn.some hf rfl rfl rfl rfl) (rd_move hf rfl rfl) hT rfl rfl ?_
                 clear hf; intro a hf
                 refine any_one (i := 15) rfl (by kernel_rfl) (st_rd hf (Wn.some hf rfl rfl rfl rfl) (rd_load1 hf rfl rfl ag3 (by intro _ h; exact ((h.sel (by repeat (first | exact Sel.head | apply Sel.tail)) : Sat W (mkM 3 4 bc br _ :: _) _).unall).cell (by repeat (first | exact Sel.head | apply Sel.tail)) rfl)) hS rfl rfl ?_)
                 clear hf; intro a hf
                 refine ⟨hT, ?_⟩
                 refine any_takeB (i := 17) hf rfl (by kernel_rfl) (by kernel_rfl) (by kernel_rfl) (fun _ _ _ _ h => h) (Wn.some hf rfl rfl rfl rfl) (rd_neq hf rfl rfl rfl) hT rfl rfl ?_ ?_
                 ·
                  clear hf; intro hc62 a hf
                  first
                  | (first | exact Bool.noConfusion hc62 | exact absurd rfl hc62 | exact absurd hc62 (by omega) | exact absurd (by omega) hc62; done)
                  | (
                   refine any_takeA (i := 18) hf rfl (Wn.some hf rfl rfl rfl rfl) (rd_pick_t hf rfl rfl rfl) hT rfl rfl ?_
                   clear hf; intro a hf
                   refine any_takeA (i := 19) hf rfl (Wn.none rfl) (rd_pick_f hf rfl rfl rfl) hT rfl rfl ?_
                   clear hf; intro a hf
                   refine any_takeA (i := 20) hf rfl (Wn.none rfl) (rd_move hf rfl rfl) hT rfl rfl ?_
                   clear hf; intro a hf
                   refine any_skipA (i := 21) hf rfl (Wn.some hf rfl rfl rfl rfl) hT rfl rfl ?_
                   clear hf; intro a hf
                   refine any_skipA (i := 22) hf rfl (Wn.some hf rfl rfl rfl rfl) hT rfl rfl ?_
                   clear hf; intro a hf
                   refine any_skipA (i := 23) hf rfl (Wn.some hf rfl rfl rfl rfl) hT rfl rfl ?_
                   clear hf; intro a hf
                   refine any_skipA (i := 24) hf rfl (Wn.undef hf rfl rfl rfl) hT rfl rfl ?_
                   clear hf; intro a hf
                   refine any_skipA (i := 25) hf rfl (Wn.undef hf rfl rfl rfl) hT rfl rfl ?_
                   clear hf; intro a hf
                   refine any_skipA (i := 26) hf rfl (Wn.undef hf rfl rfl rfl) hT rfl rfl ?_
                   clear hf; intro a hf
                   refine any_skipA (i := 27) hf rfl (Wn.some hf rfl rfl rfl rfl) hT rfl rfl ?_
                   clear hf; intro a hf
                   refine any_skipA (i := 28) hf rfl (Wn.some hf rfl rfl rfl rfl) hT rfl rfl ?_
                   clear hf; intro a hf
                   refine any_skipA (i := 30) hf rfl (Wn.undef hf rfl rfl rfl) hT rfl rfl ?_
                   clear hf; intro a hf
                   refine any_one (i := 29) rfl (by kernel_rfl) (st_skip hf (Wn.undef hf rfl rfl rfl) rfl rfl ?_)
                   clear hf; intro a hf
                   refine ⟨hT, ?_⟩
                   refine any_skipA (i := 31) hf rfl (Wn.undef hf rfl rfl rfl) hT rfl rfl ?_
                   clear hf; intro a hf
                   refine any_skipA (i := 32) hf rfl (Wn.some hf rfl rfl rfl rfl) hT rfl rfl ?_
                   clear hf; intro a hf
                   refine any_takeA (i := 33) hf rfl (Wn.none rfl) (rd_pick_t hf rfl rfl rfl) hT rfl rfl ?_
                   clear hf; intro a hf
                   refine any_done (by kernel_rfl) ?_
                   refine t_normal ?_
                   refine c_true hf rfl ?_
                   refine c_seq ?_
                   refine c_region ?_
                   refine step_l (st_rd hf (Wn.none rfl) (rd_assign hf rfl rfl) hS rfl rfl ?_)
                   clear hf; intro a hf
                   refine done_l ?_
                   refine t_normal ?_
                   refine c_ret ?_
                   refine b_ret ?_
                   refine t_ret ?_
                   refine t_ret ?_
                   refine b_ret ?_
                   refine t_ret ?_
                   refine e_res1 hf.defers rfl (res_tmp hf rfl .nil) ?_
                   exact ⟨rfl, hS.sub (by repeat (first | exact Sub.refl | exact Sub.none | exact Sub.behind | (apply Sub.cons; (focus ((repeat (first | exact Sel.head | apply Sel.tail)); done))) | apply Sub.skip))⟩
                   )
                 ·
                  clear hf; intro hc62 a hf
                  first
                  | (first | exact Bool.noConfusion hc62 | exact absurd rfl hc62 | exact absurd hc62 (by omega) | exact absurd (by omega) hc62; done)
                  | (
                   refine any_takeA (i := 18) hf rfl (Wn.some hf rfl rfl rfl rfl) (rd_pick_t hf rfl rfl rfl) hT rfl rfl ?_
                   clear hf; intro a hf
                   refine any_takeA (i := 19) hf rfl (Wn.none rfl) (rd_pick_f hf rfl rfl rfl) hT rfl rfl ?_
                   clear hf; intro a hf
                   refine any_takeA (i := 20) hf rfl (Wn.none rfl) (rd_move hf rfl rfl) hT rfl rfl ?_
                   clear hf; intro a hf
                   refine any_takeA (i := 21) hf rfl (Wn.some hf rfl rfl rfl rfl) (rd_move hf rfl rfl) hT rfl rfl ?_
                   clear hf; intro a hf
                   refine any_takeB (i := 22) hf rfl (by kernel_rfl) (by kernel_rfl) (by kernel_rfl) (fun _ _ _ _ h => h) (Wn.some hf rfl rfl rfl rfl) (rd_geq hf rfl rfl rfl) hT rfl rfl ?_ ?_
                   ·
                    clear hf; intro hc63 a hf
                    first
                    | (first | exact Bool.noConfusion hc63 | exact absurd rfl hc63 | exact absurd hc63 (by omega) | exact absurd (by omega) hc63; done)
                    | (
                     refine any_takeA (i := 23) hf rfl (Wn.some hf rfl rfl rfl rfl) (rd_move hf rfl rfl) hT rfl rfl ?_
                     clear hf; intro a hf
                     refine any_takeA (i := 24) hf rfl (Wn.some hf rfl rfl rfl rfl) (rd_move hf rfl rfl) hT rfl rfl ?_
                     clear hf; intro a hf
                     refine any_takeA (i := 25) hf rfl (Wn.some hf rfl rfl rfl rfl) (rd_move hf rfl rfl) hT rfl rfl ?_
                     clear hf; intro a hf
                     refine any_takeB (i := 26) hf rfl (by kernel_rfl) (by kernel_rfl) (by kernel_rfl) (fun _ _ _ _ h => h) (Wn.some hf rfl rfl rfl rfl) (rd_lss hf rfl rfl rfl) hT rfl rfl ?_ ?_
                     ·
                      clear hf; intro hc64 a hf
                      first
                      | (first | exact Bool.noConfusion hc64 | exact absurd rfl hc64 | exact absurd hc64 (by omega) | exact absurd (by omega) hc64; done)
                      | (
                       refine any_takeA (i := 27) hf rfl (Wn.some hf rfl rfl rfl rfl) (rd_pick_t hf rfl rfl rfl) hT rfl rfl ?_
                       clear hf; intro a hf
                       refine any_takeA (i := 28) hf rfl (Wn.some hf rfl rfl rfl rfl) (rd_move hf rfl rfl) hT rfl rfl ?_
                       clear hf; intro a hf
                       refine any_takeA (i := 30) hf rfl (Wn.some hf rfl rfl rfl rfl) (rd_move hf rfl rfl) hT rfl rfl ?_
                       clear hf; intro a hf
                       refine any_one (i := 29) rfl (by kernel_rfl) (st_rd hf (Wn.some hf rfl rfl rfl rfl) (rd_load1 hf rfl rfl ag3 (by intro _ h; exact ((h.sel (by repeat (first | exact Sel.head | apply Sel.tail)) : Sat W (mkM 3 4 bc br _ :: _) _).unall).cell (by repeat (first | exact Sel.head | apply Sel.tail)) rfl)) hS rfl rfl ?_)
                       clear hf; intro a hf
                       refine ⟨hT, ?_⟩
                       refine any_takeB (i := 31) hf rfl (by kernel_rfl) (by kernel_rfl) (by kernel_rfl) (fun _ _ _ _ h => h) (Wn.some hf rfl rfl rfl rfl) (rd_neq hf rfl rfl rfl) hT rfl rfl ?_ ?_
                       ·
                        clear hf; intro hc65 a hf
                        first
                        | (first | exact Bool.noConfusion hc65 | exact absurd rfl hc65 | exact absurd hc65 (by omega) | exact absurd (by omega) hc65; done)
                        | (
                         refine any_takeA (i := 32) hf rfl (Wn.some hf rfl rfl rfl rfl) (rd_pick_t hf rfl rfl rfl) hT rfl rfl ?_
                         clear hf; intro a hf
                         refine any_takeA (i := 33) hf rfl (Wn.none rfl) (rd_pick_f hf rfl rfl rfl) hT rfl rfl ?_
                         clear hf; intro a hf
                         refine any_done (by kernel_rfl) ?_
                         refine t_normal ?_
                         refine c_true hf rfl ?_
                         refine c_seq ?_
                         refine c_region ?_
                         refine step_l (st_rd hf (Wn.none rfl) (rd_assign hf rfl rfl) hS rfl rfl ?_)
                         clear hf; intro a hf
                         refine done_l ?_
                         refine t_normal ?_
                         refine c_ret ?_
                         refine b_ret ?_
                         refine t_ret ?_
                         refine t_ret ?_
                         refine b_ret ?_
                         refine t_ret ?_
                         refine e_res1 hf.defers rfl (res_tmp hf rfl .nil) ?_
                         exact ⟨rfl, hS.sub (by repeat (first | exact Sub.refl | exact Sub.none | exact Sub.behind | (apply Sub.cons; (focus ((repeat (first | exact Sel.head | apply Sel.tail)); done))) | apply Sub.skip))⟩
                         )
                       ·
                        clear hf; intro hc65 a hf
                        first
                        | (first | exact Bool.noConfusion hc65 | exact absurd rfl hc65 | exact absurd hc65 (by omega) | exact absurd (by omega) hc65; done)
                        | (
                         refine any_takeA (i := 32) hf rfl (Wn.some hf rfl rfl rfl rfl) (rd_pick_t hf rfl rfl rfl) hT rfl rfl ?_
                         clear hf; intro a hf
                         refine any_takeA (i := 33) hf rfl (Wn.none rfl) (rd_pick_f hf rfl rfl rfl) hT rfl rfl ?_
                         clear hf; intro a hf
                         refine any_done (by kernel_rfl) ?_
                         refine t_normal ?_
                         refine c_false hf rfl ?_
                         refine c_skip ?_
                         refine b_normal ?_
                         refine t_normal ?_
                         refine c_region ?_
                         refine step_l (st_rd hf (Wn.none rfl) (rd_add hf rfl rfl rfl (by first | exact Go.IntWalk.i64_in _ (by omega) | exact rfl)) hS rfl rfl ?_)
                         clear hf; intro a hf
                         refine step_l (st_rd hf (Wn.none rfl) (rd_move hf rfl rfl) hS rfl rfl ?_)
                         clear hf; intro a hf
                         refine done_l ?_
                         refine t_normal ⟨(i + 1, d || decide (inT n x)), ((hf.back (by repeat (first | exact Behind.refl | refine Behind.skip rfl ?_)) hk0).kb hf 37 rfl (by first | rfl | exact int_eq (by omega))), ⟨hS.sub (by repeat (first | exact Sub.refl | exact Sub.none | exact Sub.behind | (apply Sub.cons; (focus ((repeat (first | exact Sel.head | apply Sel.tail)); done))) | apply Sub.skip)), by omega⟩, by first | omega | (simp only []; omega)⟩
                         )
                       )
                     ·
                      clear hf; intro hc64 a hf
                      first
                      | (first | exact Bool.noConfusion hc64 | exact absurd rfl hc64 | exact absurd hc64 (by omega) | exact absurd (by omega) hc64; done)
                      | (
                       refine any_takeA (i := 27) hf rfl (Wn.some hf rfl rfl rfl rfl) (rd_pick_t hf rfl rfl rfl) hT rfl rfl ?_
                       clear hf; intro a hf
                       refine any_takeA (i := 28) hf rfl (Wn.some hf rfl rfl rfl rfl) (rd_move hf rfl rfl) hT rfl rfl ?_
                       clear hf; intro a hf
                       refine any_skipA (i := 30) hf rfl (Wn.some hf rfl rfl rfl rfl) hT rfl rfl ?_
                       clear hf; intro a hf
                       refine any_one (i := 29) rfl (by kernel_rfl) (st_skip hf (Wn.some hf rfl rfl rfl rfl) rfl rfl ?_)
                       clear hf; intro a hf
                       refine ⟨hT, ?_⟩
                       refine any_skipA (i := 31) hf rfl (Wn.some hf rfl rfl rfl rfl) hT rfl rfl ?_
                       clear hf; intro a hf
                       refine any_takeA (i := 32) hf rfl (Wn.some hf rfl rfl rfl rfl) (rd_pick_f hf rfl rfl rfl) hT rfl rfl ?_
                       clear hf; intro a hf
                       refine any_takeA (i := 33) hf rfl (Wn.none rfl) (rd_pick_f hf rfl rfl rfl) hT rfl rfl ?_
                       clear hf; intro a hf
                       refine any_done (by kernel_rfl) ?_
                       refine t_normal ?_
                       refine c_false hf rfl ?_
                       refine c_skip ?_
                       refine b_normal ?_
                       refine t_normal ?_
                       refine c_region ?_
                       refine step_l (st_rd hf (Wn.none rfl) (rd_add hf rfl rfl rfl (by first | exact Go.IntWalk.i64_in _ (by omega) | exact rfl)) hS rfl rfl ?_)
                       clear hf; intro a hf
                       refine step_l (st_rd hf (Wn.none rfl) (rd_move hf rfl rfl) hS rfl rfl ?_)
                       clear hf; intro a hf
                       refine done_l ?_
                       refine t_normal ⟨(i + 1, d || decide (inT n x)), ((hf.back (by repeat (first | exact Behind.refl | refine Behind.skip rfl ?_)) hk0).kb hf 37 rfl (by first | rfl | exact int_eq (by omega))), ⟨hS.sub (by repeat (first | exact Sub.refl | exact Sub.none | exact Sub.behind | (apply Sub.cons; (focus ((repeat (first | exact Sel.head | apply Sel.tail)); done))) | apply Sub.skip)), by omega⟩, by first | omega | (simp only []; omega)⟩
                       )
                     )
                   ·
                    clear hf; intro hc63 a hf
                    first
                    | (first | exact Bool.noConfusion hc63 | exact absurd rfl hc63 | exact absurd hc63 (by omega) | exact absurd (by omega) hc63; done)
                    | (
                     refine any_takeA (i := 23) hf rfl (Wn.some hf rfl rfl rfl rfl) (rd_move hf rfl rfl) hT rfl rfl ?_
                     clear hf; intro a hf
                     refine any_skipA (i := 24) hf rfl (Wn.some hf rfl rfl rfl rfl) hT rfl rfl ?_
                     clear hf; intro a hf
                     refine any_skipA (i := 25) hf rfl (Wn.some hf rfl rfl rfl rfl) hT rfl rfl ?_
                     clear hf; intro a hf
                     refine any_skipA (i := 26) hf rfl (Wn.some hf rfl rfl rfl rfl) hT rfl rfl ?_
                     clear hf; intro a hf
                     refine any_takeA (i := 27) hf rfl (Wn.some hf rfl rfl rfl rfl) (rd_pick_f hf rfl rfl rfl) hT rfl rfl ?_
                     clear hf; intro a hf
                     refine any_takeA (i := 28) hf rfl (Wn.some hf rfl rfl rfl rfl) (rd_move hf rfl rfl) hT rfl rfl ?_
                     clear hf; intro a hf
                     refine any_skipA (i := 30) hf rfl (Wn.some hf rfl rfl rfl rfl) hT rfl rfl ?_
                     clear hf; intro a hf
                     refine any_one (i := 29) rfl (by kernel_rfl) (st_skip hf (Wn.some hf rfl rfl rfl rfl) rfl rfl ?_)
                     clear hf; intro a hf
                     refine ⟨hT, ?_⟩
                     refine any_skipA (i := 31) hf rfl (Wn.some hf rfl rfl rfl rfl) hT rfl rfl ?_
                     clear hf; intro a hf
                     refine any_takeA (i := 32) hf rfl (Wn.some hf rfl rfl rfl rfl) (rd_pick_f hf rfl rfl rfl) hT rfl rfl ?_
                     clear hf; intro a hf
                     refine any_takeA (i := 33) hf rfl (Wn.none rfl) (rd_pick_f hf rfl rfl rfl) hT rfl rfl ?_
                     clear hf; intro a hf
                     refine any_done (by kernel_rfl) ?_
                     refine t_normal ?_
                     refine c_false hf rfl ?_
                     refine c_skip ?_
                     refine b_normal ?_
                     refine t_normal ?_
                     refine c_region ?_
                     refine step_l (st_rd hf (Wn.none rfl) (rd_add hf rfl rfl rfl (by first | exact Go.IntWalk.i64_in _ (by omega) | exact rfl)) hS rfl rfl ?_)
                     clear hf; intro a hf
                     refine step_l (st_rd hf (Wn.none rfl) (rd_move hf rfl rfl) hS rfl rfl ?_)
                     clear hf; intro a hf
                     refine done_l ?_
                     refine t_normal ⟨(i + 1, d || decide (inT n x)), ((hf.back (by repeat (first | exact Behind.refl | refine Behind.skip rfl ?_)) hk0).kb hf 37 rfl (by first | rfl | exact int_eq (by omega))), ⟨hS.sub (by repeat (first | exact Sub.refl | exact Sub.none | exact Sub.behind | (apply Sub.cons; (focus ((repeat (first | exact Sel.head | apply Sel.tail)); done))) | apply Sub.skip)), by omega⟩, by first | omega | (simp only []; omega)⟩
                     )
                   )
                 )
               ·
                clear hf; intro hc61 a hf
                first
                | (first | exact Bool.noConfusion hc61 | exact absurd rfl hc61 | exact absurd hc61 (by omega) | exact absurd (by omega) hc61; done)
                | (
                 refine any_takeA (i := 14) hf rfl (Wn.some hf rfl rfl rfl rfl) (rd_move hf rfl rfl) hT rfl rfl ?_
                 clear hf; intro a hf
                 refine any_skipA (i := 16) hf rfl (Wn.some hf rfl rfl rfl rfl) hT rfl rfl ?_
                 clear hf; intro a hf
                 refine any_one (i := 15) rfl (by kernel_rfl) (st_skip hf (Wn.some hf rfl rfl rfl rfl) rfl rfl ?_)
                 clear hf; intro a hf
                 refine ⟨hT, ?_⟩
                 refine any_skipA (i := 17) hf rfl (Wn.some hf rfl rfl rfl rfl) hT rfl rfl ?_
                 clear hf; intro a hf
                 refine any_takeA (i := 18) hf rfl (Wn.some hf rfl rfl rfl rfl) (rd_pick_f hf rfl rfl rfl) hT rfl rfl ?_
                 clear hf; intro a hf
                 refine any_takeA (i := 19) hf rfl (Wn.none rfl) (rd_pick_f hf rfl rfl rfl) hT rfl rfl ?_
                 clear hf; intro a hf
                 refine any_takeA (i := 20) hf rfl (Wn.none rfl) (rd_move hf rfl rfl) hT rfl rfl ?_
                 clear hf; intro a hf
                 refine any_takeA (i := 21) hf rfl (Wn.some hf rfl rfl rfl rfl) (rd_move hf rfl rfl) hT rfl rfl ?_
                 clear hf; intro a hf
                 refine any_takeB (i := 22) hf rfl (by kernel_rfl) (by kernel_rfl) (by kernel_rfl) (fun _ _ _ _ h => h) (Wn.some hf rfl rfl rfl rfl) (rd_geq hf rfl rfl rfl) hT rfl rfl ?_ ?_
                 ·
                  clear hf; intro hc66 a hf
                  first
                  | (first | exact Bool.noConfusion hc66 | exact absurd rfl hc66 | exact absurd hc66 (by omega) | exact absurd (by omega) hc66; done)
                  | (
                   refine any_takeA (i := 23) hf rfl (Wn.some hf rfl rfl rfl rfl) (rd_move hf rfl rfl) hT rfl rfl ?_
                   clear hf; intro a hf
                   refine any_takeA (i := 24) hf rfl (Wn.some hf rfl rfl rfl rfl) (rd_move hf rfl rfl) hT rfl rfl ?_
                   clear hf; intro a hf
                   refine any_takeA (i := 25) hf rfl (Wn.some hf rfl rfl rfl rfl) (rd_move hf rfl rfl) hT rfl rfl ?_
                   clear hf; intro a hf
                   refine any_takeB (i := 26) hf rfl (by kernel_rfl) (by kernel_rfl) (by kernel_rfl) (fun _ _ _ _ h => h) (Wn.some hf rfl rfl rfl rfl) (rd_lss hf rfl rfl rfl) hT rfl rfl ?_ ?_
                   ·
                    clear hf; intro hc67 a hf
                    first
                    | (first | exact Bool.noConfusion hc67 | exact absurd rfl hc67 | exact absurd hc67 (by omega) | exact absurd (by omega) hc67; done)
                    | (
                     refine any_takeA (i := 27) hf rfl (Wn.some hf rfl rfl rfl rfl) (rd_pick_t hf rfl rfl rfl) hT rfl rfl ?_
                     clear hf; intro a hf
                     refine any_takeA (i := 28) hf rfl (Wn.some hf rfl rfl rfl rfl) (rd_move hf rfl rfl) hT rfl rfl ?_
                     clear hf; intro a hf
                     refine any_takeA (i := 30) hf rfl (Wn.some hf rfl rfl rfl rfl) (rd_move hf rfl rfl) hT rfl rfl ?_
                     clear hf; intro a hf
                     refine any_one (i := 29) rfl (by kernel_rfl) (st_rd hf (Wn.some hf rfl rfl rfl rfl) (rd_load1 hf rfl rfl ag3 (by intro _ h; exact ((h.sel (by repeat (first | exact Sel.head | apply Sel.tail)) : Sat W (mkM 3 4 bc br _ :: _) _).unall).cell (by repeat (first | exact Sel.head | apply Sel.tail)) rfl)) hS rfl rfl ?_)
                     clear hf; intro a hf
                     refine ⟨hT, ?_⟩
                     refine any_takeB (i := 31) hf rfl (by kernel_rfl) (by kernel_rfl) (by kernel_rfl) (fun _ _ _ _ h => h) (Wn.some hf rfl rfl rfl rfl) (rd_neq hf rfl rfl rfl) hT rfl rfl ?_ ?_
                     ·
                      clear hf; intro hc68 a hf
                      first
                      | (first | exact Bool.noConfusion hc68 | exact absurd rfl hc68 | exact absurd hc68 (by omega) | exact absurd (by omega) hc68; done)
                      | (
                       refine any_takeA (i := 32) hf rfl (Wn.some hf rfl rfl rfl rfl) (rd_pick_t hf rfl rfl rfl) hT rfl rfl ?_
                       clear hf; intro a hf
                       refine any_takeA (i := 33) hf rfl (Wn.none rfl) (rd_pick_f hf rfl rfl rfl) hT rfl rfl ?_
                       clear hf; intro a hf
                       refine any_done (by kernel_rfl) ?_
                       refine t_normal ?_
                       refine c_true hf rfl ?_
                       refine c_seq ?_
                       refine c_region ?_
                       refine step_l (st_rd hf (Wn.none rfl) (rd_assign hf rfl rfl) hS rfl rfl ?_)
                       clear hf; intro a hf
                       refine done_l ?_
                       refine t_normal ?_
                       refine c_ret ?_
                       refine b_ret ?_
                       refine t_ret ?_
                       refine t_ret ?_
                       refine b_ret ?_
                       refine t_ret ?_
                       refine e_res1 hf.defers rfl (res_tmp hf rfl .nil) ?_
                       exact ⟨rfl, hS.sub (by repeat (first | exact Sub.refl | exact Sub.none | exact Sub.behind | (apply Sub.cons; (focus ((repeat (first | exact Sel.head | apply Sel.tail)); done))) | apply Sub.skip))⟩
                       )
                     ·
                      clear hf; intro hc68 a hf
                      first
                      | (first | exact Bool.noConfusion hc68 | exact absurd rfl hc68 | exact absurd hc68 (by omega) | exact absurd (by omega) hc68; done)
                      | (
                       refine any_takeA (i := 32) hf rfl (Wn.some hf rfl rfl rfl rfl) (rd_pick_t hf rfl rfl rfl) hT rfl rfl ?_
                       clear hf; intro a hf
                       refine any_takeA (i := 33) hf rfl (Wn.none rfl) (rd_pick_f hf rfl rfl rfl) hT rfl rfl ?_
                       clear hf; intro a hf
                       refine any_done (by kernel_rfl) ?_
                       refine t_normal ?_
                       refine c_false hf rfl ?_
                       refine c_skip ?_
                       refine b_normal ?_
                       refine t_normal ?_
                       refine c_region ?_
                       refine step_l (st_rd hf (Wn.none rfl) (rd_add hf rfl rfl rfl (by first | exact Go.IntWalk.i64_in _ (by omega) | exact rfl)) hS rfl rfl ?_)
                       clear hf; intro a hf
                       refine step_l (st_rd hf (Wn.none rfl) (rd_move hf rfl rfl) hS rfl rfl ?_)
                       clear hf; intro a hf
                       refine done_l ?_
                       refine t_normal ⟨(i + 1, d || decide (inT n x)), ((hf.back (by repeat (first | exact Behind.refl | refine Behind.skip rfl ?_)) hk0).kb hf 37 rfl (by first | rfl | exact int_eq (by omega))), ⟨hS.sub (by repeat (first | exact Sub.refl | exact Sub.none | exact Sub.behind | (apply Sub.cons; (focus ((repeat (first | exact Sel.head | apply Sel.tail)); done))) | apply Sub.skip)), by omega⟩, by first | omega | (simp only []; omega)⟩
                       )
                     )
                   ·
                    clear hf; intro hc67 a hf
                    first
                    | (first | exact Bool.noConfusion hc67 | exact absurd rfl hc67 | exact absurd hc67 (by omega) | exact absurd (by omega) hc67; done)
                    | (
                     refine any_takeA (i := 27) hf rfl (Wn.some hf rfl rfl rfl rfl) (rd_pick_t hf rfl rfl rfl) hT rfl rfl ?_
                     clear hf; intro a hf
                     refine any_takeA (i := 28) hf rfl (Wn.some hf rfl rfl rfl rfl) (rd_move hf rfl rfl) hT rfl rfl ?_
                     clear hf; intro a hf
                     refine any_skipA (i := 30) hf rfl (Wn.some hf rfl rfl rfl rfl) hT rfl rfl ?_
                     clear hf; intro a hf
                     refine any_one (i := 29) rfl (by kernel_rfl) (st_skip hf (Wn.some hf rfl rfl rfl rfl) rfl rfl ?_)
                     clear hf; intro a hf
                     refine ⟨hT, ?_⟩
                     refine any_skipA (i := 31) hf rfl (Wn.some hf rfl rfl rfl rfl) hT rfl rfl ?_
                     clear hf; intro a hf
                     refine any_takeA (i := 32) hf rfl (Wn.some hf rfl rfl rfl rfl) (rd_pick_f hf rfl rfl rfl) hT rfl rfl ?_
                     clear hf; intro a hf
                     refine any_takeA (i := 33) hf rfl (Wn.none rfl) (rd_pick_f hf rfl rfl rfl) hT rfl rfl ?_
                     clear hf; intro a hf
                     refine any_done (by kernel_rfl) ?_
                     refine t_normal ?_
                     refine c_false hf rfl ?_
                     refine c_skip ?_
                     refine b_normal ?_
                     refine t_normal ?_
                     refine c_region ?_
                     refine step_l (st_rd hf (Wn.none rfl) (rd_add hf rfl rfl rfl (by first | exact Go.IntWalk.i64_in _ (by omega) | exact rfl)) hS rfl rfl ?_)
                     clear hf; intro a hf
                     refine step_l (st_rd hf (Wn.none rfl) (rd_move hf rfl rfl) hS rfl rfl ?_)
                     clear hf; intro a hf
                     refine done_l ?_
                     refine t_normal ⟨(i + 1, d || decide (inT n x)), ((hf.back (by repeat (first | exact Behind.refl | refine Behind.skip rfl ?_)) hk0).kb hf 37 rfl (by first | rfl | exact int_eq (by omega))), ⟨hS.sub (by repeat (first | exact Sub.refl | exact Sub.none | exact Sub.behind | (apply Sub.cons; (focus ((repeat (first | exact Sel.head | apply Sel.tail)); done))) | apply Sub.skip)), by omega⟩, by first | omega | (simp only []; omega)⟩
                     )
                   )
                 ·
                  clear hf; intro hc66 a hf
                  first
                  | (first | exact Bool.noConfusion hc66 | exact absurd rfl hc66 | exact absurd hc66 (by omega) | exact absurd (by omega) hc66; done)
                  | (
                   refine any_takeA (i := 23) hf rfl (Wn.some hf rfl rfl rfl rfl) (rd_move hf rfl rfl) hT rfl rfl ?_
                   clear hf; intro a hf
                   refine any_skipA (i := 24) hf rfl (Wn.some hf rfl rfl rfl rfl) hT rfl rfl ?_
                   clear hf; intro a hf
                   refine any_skipA (i := 25) hf rfl (Wn.some hf rfl rfl rfl rfl) hT rfl rfl ?_
                   clear hf; intro a hf
                   refine any_skipA (i := 26) hf rfl (Wn.some hf rfl rfl rfl rfl) hT rfl rfl ?_
                   clear hf; intro a hf
                   refine any_takeA (i := 27) hf rfl (Wn.some hf rfl rfl rfl rfl) (rd_pick_f hf rfl rfl rfl) hT rfl rfl ?_
                   clear hf; intro a hf
                   refine any_takeA (i := 28) hf rfl (Wn.some hf rfl rfl rfl rfl) (rd_move hf rfl rfl) hT rfl rfl ?_
                   clear hf; intro a hf
                   refine any_skipA (i := 30) hf rfl (Wn.some hf rfl rfl rfl rfl) hT rfl rfl ?_
                   clear hf; intro a hf
                   refine any_one (i := 29) rfl (by kernel_rfl) (st_skip hf (Wn.some hf rfl rfl rfl rfl) rfl rfl ?_)
                   clear hf; intro a hf
                   refine ⟨hT, ?_⟩
                   refine any_skipA (i := 31) hf rfl (Wn.some hf rfl rfl rfl rfl) hT rfl rfl ?_
                   clear hf; intro a hf
                   refine any_takeA (i := 32) hf rfl (Wn.some hf rfl rfl rfl rfl) (rd_pick_f hf rfl rfl rfl) hT rfl rfl ?_
                   clear hf; intro a hf
                   refine any_takeA (i := 33) hf rfl (Wn.none rfl) (rd_pick_f hf rfl rfl rfl) hT rfl rfl ?_
                   clear hf; intro a hf
                   refine any_done (by kernel_rfl) ?_
                   refine t_normal ?_
                   refine c_false hf rfl ?_
                   refine c_skip ?_
                   refine b_normal ?_
                   refine t_normal ?_
                   refine c_region ?_
                   refine step_l (st_rd hf (Wn.none rfl) (rd_add hf rfl rfl rfl (by first | exact Go.IntWalk.i64_in _ (by omega) | exact rfl)) hS rfl rfl ?_)
                   clear hf; intro a hf
                   refine step_l (st_rd hf (Wn.none rfl) (rd_move hf rfl rfl) hS rfl rfl ?_)
                   clear hf; intro a hf
                   refine done_l ?_
                   refine t_normal ⟨(i + 1, d || decide (inT n x)), ((hf.back (by repeat (first | exact Behind.refl | refine Behind.skip rfl ?_)) hk0).kb hf 37 rfl (by first | rfl | exact int_eq (by omega))), ⟨hS.sub (by repeat (first | exact Sub.refl | exact Sub.none | exact Sub.behind | (apply Sub.cons; (focus ((repeat (first | exact Sel.head | apply Sel.tail)); done))) | apply Sub.skip)), by omega⟩, by first | omega | (simp only []; omega)⟩
                   )
                 )
               )
            )
       ·
        clear hf; intro hc7 a hf
        refine done_l ?_
        refine t_normal ?_
        refine c_seq ?_
        refine c_false hf rfl ?_
        refine c_exit ?_
        refine t_exit ?_
        refine t_exit ?_
        refine b_exit ?_
        refine t_normal ?_
        refine c_seq ?_
        refine c_region ?_
        refine step_l (st_rdb hf (Wn.none rfl) (rd_load1 hf rfl rfl ag4 (by intro _ h; exact ((h.sel (by repeat (first | exact Sel.head | apply Sel.tail)) : Sat W (mkM 3 4 bc br _ :: _) _).unall).cell (by repeat (first | exact Sel.head | apply Sel.tail)) rfl)) hS rfl rfl ?_ ?_)
        ·
         clear hf; intro hc69 a hf
         first
         | (first | exact Bool.noConfusion hc69 | exact absurd rfl hc69 | exact absurd hc69 (by omega) | exact absurd (by omega) hc69; done)
         | (
          refine step_l (st_rd hf (Wn.none rfl) (rd_move hf rfl rfl) hS rfl rfl ?_)
          clear hf; intro a hf
          refine step_l (st_call hf (Wn.some hf rfl rfl rfl rfl) rfl rfl rfl fn15 (awake_c hS) rfl rfl ?_)
          clear hf hS; rintro v a w ⟨rfl, hS⟩ hf
          refine step_l (st_rd hf (Wn.none rfl) (rd_pick_t hf rfl rfl rfl) hS rfl rfl ?_)
          clear hf; intro a hf
          refine step_l (st_rd hf (Wn.none rfl) (rd_assign hf rfl rfl) hS rfl rfl ?_)
          clear hf; intro a hf
          refine done_l ?_
          refine t_normal ?_
          refine c_ret ?_
          refine e_res1 hf.defers rfl (res_tmp hf rfl .nil) ?_
          exact ⟨rfl, hS.sub (by repeat (first | exact Sub.refl | exact Sub.none | exact Sub.behind | (apply Sub.cons; (focus ((repeat (first | exact Sel.head | apply Sel.tail)); done))) | apply Sub.skip))⟩
          )
        ·
         clear hf; intro hc69 a hf
         first
         | (first | exact Bool.noConfusion hc69 | exact absurd rfl hc69 | exact absurd hc69 (by omega) | exact absurd (by omega) hc69; done)
         | (
          refine step_l (st_rd hf (Wn.none rfl) (rd_move hf rfl rfl) hS rfl rfl ?_)
          clear hf; intro a hf
          refine step_l (st_skip hf (Wn.some hf rfl rfl rfl rfl) rfl rfl ?_)
          clear hf; intro a hf
          refine step_l (st_rd hf (Wn.none rfl) (rd_pick_f hf rfl rfl rfl) hS rfl rfl ?_)
          clear hf; intro a hf
          refine step_l (st_rd hf (Wn.none rfl) (rd_assign hf rfl rfl) hS rfl rfl ?_)
          clear hf; intro a hf
          refine done_l ?_
          refine t_normal ?_
          refine c_ret ?_
          refine e_res1 hf.defers rfl (res_tmp hf rfl .nil) ?_
          exact ⟨rfl, hS.sub (by repeat (first | exact Sub.refl | exact Sub.none | exact Sub.behind | (apply Sub.cons; (focus ((repeat (first | exact Sel.head | apply Sel.tail)); done))) | apply Sub.skip))⟩
          )
       )
     )
   )

end Go.Proofs.Ytmjfmcgpmlfnbaa
