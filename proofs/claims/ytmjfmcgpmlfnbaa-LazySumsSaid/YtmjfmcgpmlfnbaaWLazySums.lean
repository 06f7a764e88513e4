/-
  The statement LazySums, walked.
  Conditions: none.
-/
import Derived.Test.YtmjfmcgpmlfnbaaLazy1
import Derived.Test.YtmjfmcgpmlfnbaaLz2
namespace Go.Proofs.Ytmjfmcgpmlfnbaa
open Go Go.Sl
set_option linter.unusedVariables false
set_option linter.unusedSimpArgs false
theorem ag4 : aggO Try.prog 4 = some false := by kernel_rfl
theorem bz5_9 : ((Array.range (9 * 1)).map (fun j => ((.int .u8 0 : Value)).cells[j % ((.int .u8 0 : Value)).cells.size]!)) = ([.int .u8 0, .int .u8 0, .int .u8 0, .int .u8 0, .int .u8 0, .int .u8 0, .int .u8 0, .int .u8 0, .int .u8 0] : List Value).toArray := by kernel_rfl
theorem fn11 : fnB Try.prog 11 = true := by kernel_rfl
theorem fn15 : fnB Try.prog 15 = true := by kernel_rfl
theorem fn17 : fnB Try.prog 17 = true := by kernel_rfl
theorem fn18 : fnB Try.prog 18 = true := by kernel_rfl
theorem fn22 : fnB Try.prog 22 = true := by kernel_rfl
theorem fn23 : fnB Try.prog 23 = true := by kernel_rfl
theorem fn24 : fnB Try.prog 24 = true := by kernel_rfl
theorem fn26 : fnB Try.prog 26 = true := by kernel_rfl
theorem fn27 : fnB Try.prog 27 = true := by kernel_rfl
theorem sz3 : (Try.prog.info? 3).map (·.size) = some 1 := by kernel_rfl
theorem sz4 : (Try.prog.info? 4).map (·.size) = some 1 := by kernel_rfl
theorem zr3 : (Try.prog.info? 3).bind (·.zero) = some (.int .i64 0) := by kernel_rfl
theorem zr4 : (Try.prog.info? 4).bind (·.zero) = some (.bool false) := by kernel_rfl
theorem zr5 : (Try.prog.info? 5).bind (·.zero) = some (.int .u8 0) := by kernel_rfl
theorem awake_c  {W : World} {R : List HP} {w : World} (hS : Sat W (R) w)  : Calls Try.prog 15 [].toArray w (Ret fun v w' => v = .bool true ∧ Sat W R w') := by
  refine fn_start 6 Try.func15 rfl rfl rfl ?_
  intro a hf
  refine c_seq ?_
  refine c_region ?_
  refine step_l (st_rd hf (Wn.none rfl) (rd_assign hf rfl rfl) hS rfl rfl ?_)
  clear hf; intro a hf
  refine done_l ?_
  refine t_normal ?_
  refine c_seq ?_
  refine c_region ?_
  refine step_l (st_call hf (Wn.none rfl) rfl rfl rfl fn11 (Poly_c hS) rfl rfl ?_)
  clear hf hS; rintro v a w ⟨pt_1, rfl, hS⟩ hf
  refine step_l (st_buildRw hf (Wn.none rfl) hS rfl rfl Try.underlying38 sz5 zr5 (by decide) (by decide) bz5_9 rfl (.cons rfl (by first | rfl) (by rfl) (by repeat (first | exact Put.nil | apply Put.cons | apply Put.succ)) (.cons rfl (by first | rfl) (by rfl) (by repeat (first | exact Put.nil | apply Put.cons | apply Put.succ)) (.cons rfl (by first | rfl) (by rfl) (by repeat (first | exact Put.nil | apply Put.cons | apply Put.succ)) (.cons rfl (by first | rfl) (by rfl) (by repeat (first | exact Put.nil | apply Put.cons | apply Put.succ)) (.cons rfl (by first | rfl) (by rfl) (by repeat (first | exact Put.nil | apply Put.cons | apply Put.succ)) (.cons rfl (by first | rfl) (by rfl) (by repeat (first | exact Put.nil | apply Put.cons | apply Put.succ)) (.cons rfl (by first | rfl) (by rfl) (by repeat (first | exact Put.nil | apply Put.cons | apply Put.succ)) (.cons rfl (by first | rfl) (by rfl) (by repeat (first | exact Put.nil | apply Put.cons | apply Put.succ)) (.cons rfl (by first | rfl) (by rfl) (by repeat (first | exact Put.nil | apply Put.cons | apply Put.succ)) .nil))))))))) rfl rfl rfl ?_)
  clear hf hS; intro b_2 a w hf hS
  refine step_l (st_conv hf (Wn.none rfl) hS rfl rfl Try.underlying38 Try.underlying5 (by repeat (first | exact Sel.head | apply Sel.tail)) rfl rfl ?_)
  clear hf hS; intro a w hf hS
  refine step_l (st_call hf (Wn.none rfl) rfl rfl rfl fn23 (SumP_c _ _ [49, 50, 51, 52, 53, 54, 55, 56, 57] _ _ _ (hS.sel (by repeat (first | exact Sel.head | apply Sel.tail))) rfl (by simp) (fun _ h => h.slOfBlk (by repeat (first | exact Sel.head | apply Sel.tail)) (by rfl))) rfl rfl ?_)
  clear hf hS; rintro v a w ⟨rfl, ds_3, hS⟩ hf
  refine step_l (st_rd hf (Wn.none rfl) (rd_eql hf rfl rfl rfl) hS rfl rfl ?_)
  clear hf; intro a hf
  refine step_l (st_rd hf (Wn.none rfl) (rd_assign hf rfl rfl) hS rfl rfl ?_)
  clear hf; intro a hf
  refine done_l ?_
  refine t_normal ?_
  refine c_ret ?_
  refine e_res1 hf.defers rfl (res_tmp hf rfl .nil) ?_
  exact ⟨congrArg Value.bool (decide_eq_true (by rw [crc_awake]; rfl)), hS.sub (by repeat (first | exact Sub.refl | exact Sub.none | exact Sub.behind | (apply Sub.cons; (focus ((repeat (first | exact Sel.head | apply Sel.tail)); done))) | apply Sub.skip))⟩

theorem mk2_c (by_ k : Nat) (y : B32) {W : World} {R : List HP} {w : World} (hS : Sat W (R) w) (hk : k < 4096) (hy : ∀ w, Sat W R w → w.cell? ⟨by_, 0, none⟩ = some (u32v y)) : Calls Try.prog 22 [.int .i64 (k : Nat), .pointer (some ⟨by_, 0, none⟩)].toArray w (Ret fun v w' => v = u32v ((BitVec.ofNat 32 k * y) ^^^ (y >>> 3)) ∧ Sat W R w') := by
  refine fn_start 11 Try.func22 rfl rfl rfl ?_
  intro a hf
  refine c_seq ?_
  refine c_region ?_
  refine step_l (st_rd hf (Wn.none rfl) (rd_assign hf rfl rfl) hS rfl rfl ?_)
  clear hf; intro a hf
  refine done_l ?_
  refine t_normal ?_
  refine c_seq ?_
  refine c_region ?_
  refine step_l (st_rd hf (Wn.none rfl) (rd_move hf rfl rfl) hS rfl rfl ?_)
  clear hf; intro a hf
  refine step_l (st_rd hf (Wn.none rfl) (rd_convInt hf rfl rfl Try.underlying3 Try.underlying24 (n32_nat _)) hS rfl rfl ?_)
  clear hf; intro a hf
  refine step_l (st_rd hf (Wn.none rfl) (rd_load1 hf rfl rfl ag24 (by intro _ h; first | exact h.cell (by repeat (first | exact Sel.head | apply Sel.tail)) (by rfl) | exact hy _ (h.sub (by repeat (first | exact Sub.refl | exact Sub.none | exact Sub.behind | (apply Sub.cons; (focus ((repeat (first | exact Sel.head | apply Sel.tail)); done))) | apply Sub.skip))))) hS rfl rfl ?_)
  clear hf; intro a hf
  refine step_l (st_rd hf (Wn.none rfl) (rd_mul hf rfl rfl rfl (n32_mulv _ _)) hS rfl rfl ?_)
  clear hf; intro a hf
  refine step_l (st_rd hf (Wn.none rfl) (rd_load1 hf rfl rfl ag24 (by intro _ h; first | exact h.cell (by repeat (first | exact Sel.head | apply Sel.tail)) (by rfl) | exact hy _ (h.sub (by repeat (first | exact Sub.refl | exact Sub.none | exact Sub.behind | (apply Sub.cons; (focus ((repeat (first | exact Sel.head | apply Sel.tail)); done))) | apply Sub.skip))))) hS rfl rfl ?_)
  clear hf; intro a hf
  refine step_l (st_rd hf (Wn.none rfl) (rd_shr hf rfl rfl rfl (by first | decide | omega) (n32_shr _ 3 rfl (by decide))) hS rfl rfl ?_)
  clear hf; intro a hf
  refine step_l (st_rd hf (Wn.none rfl) (rd_xor hf rfl rfl rfl (n32_xor _ _)) hS rfl rfl ?_)
  clear hf; intro a hf
  refine step_l (st_rd hf (Wn.none rfl) (rd_assign hf rfl rfl) hS rfl rfl ?_)
  clear hf; intro a hf
  refine done_l ?_
  refine t_normal ?_
  refine c_ret ?_
  refine e_res1 hf.defers rfl (res_tmp hf rfl .nil) ?_
  exact ⟨rfl, hS.sub (by repeat (first | exact Sub.refl | exact Sub.none | exact Sub.behind | (apply Sub.cons; (focus ((repeat (first | exact Sel.head | apply Sel.tail)); done))) | apply Sub.skip))⟩

def sf (y : B32) (k : Nat) : B32 := (BitVec.ofNat 32 k * y) ^^^ (y >>> 3)
abbrev sfF (y : B32) : Unit → Nat → B32 := fun _ i => sf y i
theorem mk_sf (by_ n : Nat) (y : B32) (hn : n ≤ 4096) {W : World} (R : List HP) (hy : ∀ w, Sat W R w → w.cell? ⟨by_, 0, none⟩ = some (u32v y)) : ∀ (i : Nat) (l : List HP) (w : World), i < n → Sat W ((fun _ : Unit => Fact True) (mst pg () i) :: l) w → (∀ w, Sat W l w → Sat W R w) → Calls Try.prog 22 ([] ++ [Value.int .i64 (i : Nat)] ++ [Value.pointer (some ⟨by_, 0, none⟩)]).toArray w (Ret fun v w' => v = u32v (sfF y (mst pg () i) i) ∧ Sat W ((fun _ : Unit => Fact True) (mst pg () (i + 1)) :: l) w') := fun i l w hi h hs => by
  refine (mk2_c by_ i y (h.sub (.skip .refl)) (by omega) (fun w hw => hy w (hs w hw))).mono fun e w' he => ?_
  cases e with
  | returned v => obtain ⟨h1, h3⟩ := he; exact ⟨h1, h3.fact trivial⟩
  | panicked c => exact he.elim
  | outgrown => exact he.elim
theorem At_sf (pt by_ n : Nat) (y : B32) (hn : n ≤ 4096) (d : Bool) (i : Int) {W : World} {R : List HP} {w : World} (hS : Sat W (TbP 63 24 pt n (.func (.func 22) [].toArray [Value.pointer (some ⟨by_, 0, none⟩)].toArray) (tvals (sfF y) pg () n) d :: R) w) (hy : ∀ w, Sat W R w → w.cell? ⟨by_, 0, none⟩ = some (u32v y)) : Calls Try.prog 14 [.pointer (some ⟨pt, 0, none⟩), .int .i64 i].toArray w (Ret fun v w' => v = u32v (tAt n (tvals (sfF y) pg () n) i) ∧ Sat W (TbP 63 24 pt n (.func (.func 22) [].toArray [Value.pointer (some ⟨by_, 0, none⟩)].toArray) (tvals (sfF y) pg () n) (d || decide (inT n i)) :: R) w') := by
  have h0 : Sat W (TbP 63 24 pt n (.func (.func 22) [].toArray [Value.pointer (some ⟨by_, 0, none⟩)].toArray) (tvals (sfF y) pg () n) d :: (fun _ : Unit => Fact True) (if d = true then mst pg () n else ()) :: R) w := (hS.fact trivial).sub (.cons (.tail .head) (.cons .head .refl))
  refine (At_c (fun _ : Unit => Fact True) (sfF y) pg () pt n 22 [] [Value.pointer (some ⟨by_, 0, none⟩)] i d h0 fn22 (mk_sf by_ n y hn R hy) hn).mono fun e w' he => ?_
  cases e with
  | returned v => obtain ⟨h1, h2⟩ := he; exact ⟨h1, h2.sub (.cons .head (.skip .refl))⟩
  | panicked c => exact he.elim
  | outgrown => exact he.elim
set_option maxRecDepth 100000 in
set_option maxHeartbeats 2000000 in
theorem LazySums_c (b : List UInt8) (qb : Option Addr) (cb : Nat) (n0 : Int) (nb : Nat) {W : World} {R : List HP} {w : World} (hS : Sat W (R) w) (hnb : nb < 4294967296) (hb : b.length ≤ 140737488351232) (hvb : ∀ w, Sat W R w → SlAt w qb b.length 1 (bvs b)) : Calls Try.prog 8 [.slice qb b.length cb, .int .i64 n0, .int .u32 (nb : Nat)].toArray w (Ret fun v w' => v = .bool true ∧ Sat W R w') := by
  refine fn_start 65 Try.func8 rfl rfl rfl ?_
  intro a hf
  obtain ⟨y, rfl⟩ : ∃ y : B32, nb = y.toNat := ⟨BitVec.ofNat 32 nb, by rw [BitVec.toNat_ofNat]; omega⟩
  refine c_seq ?_
  refine c_region ?_
  refine step_l (st_box hf (Wn.none rfl) hS rfl rfl (by rfl) rfl rfl ?_)
  clear hf hS; intro by_ a w hf hS
  refine step_l (st_rd hf (Wn.none rfl) (rd_assign hf rfl rfl) hS rfl rfl ?_)
  clear hf; intro a hf
  refine done_l ?_
  refine t_normal ?_
  refine c_seq ?_
  refine c_region ?_
  refine step_l (st_rd hf (Wn.none rfl) (rd_move hf rfl rfl) hS rfl rfl ?_)
  clear hf; intro a hf
  refine step_l (st_rd hf (Wn.none rfl) (rd_convInt hf rfl rfl Try.underlying3 Try.underlying33 rfl) hS rfl rfl ?_)
  clear hf; intro a hf
  refine step_l (st_rd hf (Wn.none rfl) (rd_rem hf rfl rfl rfl (by first | decide | omega) (u64mod (m := 300) n0 (by decide))) hS rfl rfl ?_)
  clear hf; intro a hf
  refine step_l (st_rd hf (Wn.none rfl) (rd_convInt hf rfl rfl Try.underlying33 Try.underlying3 (Go.IntWalk.i64_in _ (by omega))) hS rfl rfl ?_)
  clear hf; intro a hf
  refine step_l (st_rd hf (Wn.none rfl) (rd_assign hf rfl rfl) hS rfl rfl ?_)
  clear hf; intro a hf
  refine done_l ?_
  obtain ⟨n, hdn⟩ : ∃ n : Nat, n = (n0 % 18446744073709551616).toNat % 300 := ⟨_, rfl⟩
  rw [← hdn] at hf
  refine t_normal ?_
  refine c_seq ?_
  refine c_region ?_
  refine step_l (st_rd hf (Wn.none rfl) (rd_move hf rfl rfl) hS rfl rfl ?_)
  clear hf; intro a hf
  refine step_l (st_rd hf (Wn.none rfl) (rd_makeFunc hf rfl rfl rfl) hS rfl rfl ?_)
  clear hf; intro a hf
  refine step_l (st_call hf (Wn.none rfl) rfl rfl rfl fn16 (LNew_c _ _ (tvals (sfF y) pg () n) n hS (by omega) rfl) rfl rfl ?_)
  clear hf hS; rintro v a w ⟨pt, rfl, hS⟩ hf
  refine step_l (st_rd hf (Wn.none rfl) (rd_assign hf rfl rfl) hS rfl rfl ?_)
  clear hf; intro a hf
  refine done_l ?_
  refine t_normal ?_
  refine c_seq ?_
  refine c_region ?_
  refine step_l (st_rd hf (Wn.none rfl) (rd_assign hf rfl rfl) hS rfl rfl ?_)
  clear hf; intro a hf
  refine done_l ?_
  refine t_normal ?_
  refine c_seq ?_
  refine c_seq ?_
  refine c_region ?_
  refine step_l (st_rd hf (Wn.none rfl) (rd_move hf rfl rfl) hS rfl rfl ?_)
  clear hf; intro a hf
  refine step_l (st_rd hf (Wn.none rfl) (rd_min hf rfl rfl rfl) hS rfl rfl ?_)
  clear hf; intro a hf
  refine step_l (st_rd hf (Wn.none rfl) (rd_move hf rfl rfl) hS rfl rfl ?_)
  clear hf; intro a hf
  refine done_l ?_
  refine t_normal ?_
  refine c_block ?_
  have hk0 := Keep.of hf [(8, 9), (19, 32)] (by repeat (first | exact Keep.nil | apply Keep.drop rfl | apply Keep.take rfl))
  refine c_loopK hk0 (α := Nat × Option Addr × Nat) (fun ⟨k, q, cap⟩ => [(8, .slice q k cap), (19, .int .i64 (k : Nat))]) (fun ⟨k, q, cap⟩ w => Sat W (TbP 63 24 pt n (.func (.func 22) [].toArray [Value.pointer (some ⟨by_, 0, none⟩)].toArray) (tvals (sfF y) pg () n) false :: Blk by_ [u32v y] 24 :: Rw 24 1 q k cap (u32s ((List.range k).map (sf y))) :: R) w ∧ k ≤ min n 256) (fun ⟨k, q, cap⟩ => 256 - k) (0, none, 0) (((hf.keep hk0).kb hf 19 rfl (by first | rfl | exact int_eq (by omega))).kb hf 8 rfl (by first | rfl | exact int_eq (by omega))) ⟨(hS.rwNil 24 1).sub (by repeat (first | exact Sub.refl | exact Sub.none | exact Sub.behind | (apply Sub.cons; (focus ((repeat (first | exact Sel.head | apply Sel.tail)); done))) | apply Sub.skip)), by omega⟩ ?_
  clear hf hS; rintro ⟨k, q, cap⟩ a w hf ⟨hS, hk⟩; (try dsimp only [List.cons_append, List.nil_append] at hf)
  refine c_seq ?_
  refine c_region ?_
  refine step_l (st_rdB hf (Wn.none rfl) (rd_lss hf rfl rfl rfl) hS rfl rfl ?_ ?_)
  · clear hf; intro hc2 a hf
    refine done_l ?_
    refine t_normal ?_
    refine c_seq ?_
    refine c_true hf rfl ?_
    refine c_skip ?_
    refine t_normal ?_
    refine c_seq ?_
    refine c_block ?_
    refine c_seq ?_
    refine c_region ?_
    refine step_l (st_rd hf (Wn.none rfl) (rd_move hf rfl rfl) hS rfl rfl ?_)
    clear hf; intro a hf
    refine step_l (st_rd hf (Wn.none rfl) (rd_assign hf rfl rfl) hS rfl rfl ?_)
    clear hf; intro a hf
    refine done_l ?_
    refine t_normal ?_
    refine c_region ?_
    refine step_l (st_rd hf (Wn.none rfl) (rd_move hf rfl rfl) hS rfl rfl ?_)
    clear hf; intro a hf
    refine step_l (st_rd hf (Wn.none rfl) (rd_move hf rfl rfl) hS rfl rfl ?_)
    clear hf; intro a hf
    refine step_l (st_rd hf (Wn.none rfl) (rd_convInt hf rfl rfl Try.underlying3 Try.underlying24 (n32_nat _)) hS rfl rfl ?_)
    clear hf; intro a hf
    refine step_l (st_rd hf (Wn.none rfl) (rd_load1 hf rfl rfl ag24 (by intro _ h; exact h.cell (by repeat (first | exact Sel.head | apply Sel.tail)) rfl)) hS rfl rfl ?_)
    clear hf; intro a hf
    refine step_l (st_rd hf (Wn.none rfl) (rd_mul hf rfl rfl rfl (n32_mulv _ _)) hS rfl rfl ?_)
    clear hf; intro a hf
    refine step_l (st_rd hf (Wn.none rfl) (rd_load1 hf rfl rfl ag24 (by intro _ h; exact h.cell (by repeat (first | exact Sel.head | apply Sel.tail)) rfl)) hS rfl rfl ?_)
    clear hf; intro a hf
    refine step_l (st_rd hf (Wn.none rfl) (rd_shr hf rfl rfl rfl (by first | decide | omega) (n32_shr _ 3 rfl (by decide))) hS rfl rfl ?_)
    clear hf; intro a hf
    refine step_l (st_rd hf (Wn.none rfl) (rd_xor hf rfl rfl rfl (n32_xor _ _)) hS rfl rfl ?_)
    clear hf; intro a hf
    refine step_l (st_buildSlice hf (Wn.none rfl) hS rfl rfl Try.underlying40 sz24 zr24 (by decide) bz24_1 rfl (.cons rfl (by first | rfl) (by rfl) (by repeat (first | exact Put.nil | apply Put.cons | apply Put.succ)) .nil) rfl rfl ?_)
    clear hf hS; intro b_3 a w hf hS
    refine step_l (st_append hf (Wn.none rfl) rfl rfl rfl Try.underlying40 tyb24 (by rfl) (by decide) hS (by repeat (first | exact Sel.head | apply Sel.tail)) (by first | exact hS.slOfBlk (by repeat (first | exact Sel.head | apply Sel.tail)) (by rfl) | exact hS.slOfBlkPre (by repeat (first | exact Sel.head | apply Sel.tail)) (bvs_len1 _) | exact hS.slOfRw (by repeat (first | exact Sel.head | apply Sel.tail)) | exact SlAt.nil _ _ _) (by first | rfl | exact bvs_one _ | (simp [Value.oneCell']; done)) (by omega) rfl rfl ?_)
    clear hf hS; intro pA capA a w hf hS hnilA
    refine step_l (st_rd hf (Wn.none rfl) (rd_assign hf rfl rfl) hS rfl rfl ?_)
    clear hf; intro a hf
    refine done_l ?_
    refine b_normal ?_
    refine t_normal ?_
    refine c_region ?_
    refine step_l (st_rd hf (Wn.none rfl) (rd_add hf rfl rfl rfl (by first | exact Go.IntWalk.i64_in _ (by omega) | exact rfl)) hS rfl rfl ?_)
    clear hf; intro a hf
    refine step_l (st_rd hf (Wn.none rfl) (rd_move hf rfl rfl) hS rfl rfl ?_)
    clear hf; intro a hf
    refine done_l ?_
    refine t_normal ⟨(k + 1, pA, capA), (((hf.back (by repeat (first | exact Behind.refl | refine Behind.skip rfl ?_)) hk0).kb hf 19 rfl (by first | rfl | exact int_eq (by omega))).kb hf 8 rfl (by first | rfl | exact int_eq (by omega))), ⟨((hS.sel (by repeat (first | exact Sel.head | apply Sel.tail)) : Sat W (Rw 24 1 pA (k + 1) capA _ :: _) _).rwCast (xs' := u32s ((List.range (k + 1)).map (sf y))) (by rw [List.range_succ]; simp [u32s, sf]) rfl).sub (by repeat (first | exact Sub.refl | exact Sub.none | exact Sub.behind | (apply Sub.cons; (focus ((repeat (first | exact Sel.head | apply Sel.tail)); done))) | apply Sub.skip)), by omega⟩, by first | omega | (simp only []; omega)⟩
  · clear hf; intro hc2 a hf
    obtain rfl : k = min n 256 := by omega
    refine done_l ?_
    refine t_normal ?_
    refine c_seq ?_
    refine c_false hf rfl ?_
    refine c_exit ?_
    refine t_exit ?_
    refine t_exit ?_
    refine b_exit ?_
    refine t_normal ?_
    refine c_seq ?_
    have hE1 := (b32_inj (a := sumB (fun i : Nat => tAt n (tvals (sfF y) pg () n) (i : Int)) b)).2 (sum_tab (f := sf y) (n := n) b); have hE2 := (b32_inj (a := sumB (fun _ => 0#32) b)).2 (sum_nil b)
    refine c_region ?_
    refine step_l (st_call hf (Wn.none rfl) rfl rfl rfl fn11 (Poly_c hS) rfl rfl ?_)
    clear hf hS; rintro v a w ⟨pt_5, rfl, hS⟩ hf
    refine step_l (st_rd hf (Wn.none rfl) (rd_move hf rfl rfl) hS rfl rfl ?_)
    clear hf; intro a hf
    refine step_l (st_call hf (Wn.none rfl) rfl rfl rfl fn23 (SumP_c _ _ b _ _ _ (hS.sel (by repeat (first | exact Sel.head | apply Sel.tail))) rfl (by omega) (fun _ h => hvb _ (h.sub (by repeat (first | exact Sub.refl | exact Sub.none | exact Sub.behind | (apply Sub.cons; (focus ((repeat (first | exact Sel.head | apply Sel.tail)); done))) | apply Sub.skip))))) rfl rfl ?_)
    clear hf hS; rintro v a w ⟨rfl, ds_6, hS⟩ hf
    refine step_l (st_rd hf (Wn.none rfl) (rd_move hf rfl rfl) hS rfl rfl ?_)
    clear hf; intro a hf
    refine step_l (st_call hf (Wn.none rfl) rfl rfl rfl fn24 (Crc_c b _ _ _ hS rfl (by omega) (fun _ h => hvb _ (h.sub (by repeat (first | exact Sub.refl | exact Sub.none | exact Sub.behind | (apply Sub.cons; (focus ((repeat (first | exact Sel.head | apply Sel.tail)); done))) | apply Sub.skip))))) rfl rfl ?_)
    clear hf hS; rintro v a w ⟨rfl, hS⟩ hf
    refine step_l (st_rdB hf (Wn.none rfl) (rd_eql hf rfl rfl rfl) hS rfl rfl ?_ ?_)
    · clear hf; intro hc7 a hf
      refine step_l (st_rd hf (Wn.none rfl) (rd_move hf rfl rfl) hS rfl rfl ?_)
      clear hf; intro a hf
      refine step_l (st_rd hf (Wn.some hf rfl rfl rfl rfl) (rd_move hf rfl rfl) hS rfl rfl ?_)
      clear hf; intro a hf
      refine step_l (st_rd hf (Wn.some hf rfl rfl rfl rfl) (rd_move hf rfl rfl) hS rfl rfl ?_)
      clear hf; intro a hf
      refine step_l (st_call hf (Wn.some hf rfl rfl rfl rfl) rfl rfl rfl fn23 (Sum_c (fun _ : Unit => Fact True) (sfF y) pg () pt n 22 [] [Value.pointer (some ⟨by_, 0, none⟩)] false b _ _ _ (show Sat W (TbP 63 24 pt n (.func (.func 22) [].toArray [Value.pointer (some ⟨by_, 0, none⟩)].toArray) (tvals (sfF y) pg () n) false :: Fact True :: Blk by_ [u32v y] 24 :: Rw 24 1 q (min n 256) cap (u32s ((List.range (min n 256)).map (sf y))) :: R) _ from (hS.fact trivial).sub (by repeat (first | exact Sub.refl | exact Sub.none | exact Sub.behind | (apply Sub.cons; (focus ((repeat (first | exact Sel.head | apply Sel.tail)); done))) | apply Sub.skip))) fn22 (mk_sf by_ n y (by omega) _ (fun w h => h.cell (by repeat (first | exact Sel.head | apply Sel.tail)) rfl)) (by omega) rfl (by omega) (fun _ h => hvb _ (h.sub (by repeat (first | exact Sub.refl | exact Sub.none | exact Sub.behind | (apply Sub.cons; (focus ((repeat (first | exact Sel.head | apply Sel.tail)); done))) | apply Sub.skip))))) rfl rfl ?_)
      clear hf hS; rintro v a w ⟨rfl, dz, hS⟩ hf
      refine step_l (st_rd hf (Wn.some hf rfl rfl rfl rfl) (rd_move hf rfl rfl) hS rfl rfl ?_)
      clear hf; intro a hf
      refine step_l (st_rd hf (Wn.some hf rfl rfl rfl rfl) (rd_move hf rfl rfl) hS rfl rfl ?_)
      clear hf; intro a hf
      refine step_l (st_call hf (Wn.some hf rfl rfl rfl rfl) rfl rfl rfl fn25 (RSum_c ((List.range (min n 256)).map (sf y)) _ _ _ b _ _ _ hS (by simp) (fun _ h => (by rw [List.length_map, List.length_range]; exact h.slOfRw (by repeat (first | exact Sel.head | apply Sel.tail)))) rfl (by omega) (fun _ h => hvb _ (h.sub (by repeat (first | exact Sub.refl | exact Sub.none | exact Sub.behind | (apply Sub.cons; (focus ((repeat (first | exact Sel.head | apply Sel.tail)); done))) | apply Sub.skip))))) rfl rfl ?_)
      clear hf hS; rintro v a w ⟨rfl, hS⟩ hf
      refine step_l (st_rdB hf (Wn.some hf rfl rfl rfl rfl) (rd_eql hf rfl rfl rfl) hS rfl rfl ?_ ?_)
      · clear hf; intro hc8 a hf
        refine step_l (st_rd hf (Wn.none rfl) (rd_pick_t hf rfl rfl rfl) hS rfl rfl ?_)
        clear hf; intro a hf
        refine step_l (st_rd hf (Wn.none rfl) (rd_move hf rfl rfl) hS rfl rfl ?_)
        clear hf; intro a hf
        refine step_l (st_rd hf (Wn.some hf rfl rfl rfl rfl) (rd_move hf rfl rfl) hS rfl rfl ?_)
        clear hf; intro a hf
        refine step_l (st_call hf (Wn.some hf rfl rfl rfl rfl) rfl rfl rfl fn23 (SumN_c b _ _ _ hS rfl (by omega) (fun _ h => hvb _ (h.sub (by repeat (first | exact Sub.refl | exact Sub.none | exact Sub.behind | (apply Sub.cons; (focus ((repeat (first | exact Sel.head | apply Sel.tail)); done))) | apply Sub.skip))))) rfl rfl ?_)
        clear hf hS; rintro v a w ⟨rfl, hS⟩ hf
        refine step_l (st_rd hf (Wn.some hf rfl rfl rfl rfl) (rd_move hf rfl rfl) hS rfl rfl ?_)
        clear hf; intro a hf
        refine step_l (st_call hf (Wn.some hf rfl rfl rfl rfl) rfl rfl rfl fn25 (RSum_c [] _ _ _ b _ _ _ hS rfl (fun _ h => SlAt.nil _ _ _) rfl (by omega) (fun _ h => hvb _ (h.sub (by repeat (first | exact Sub.refl | exact Sub.none | exact Sub.behind | (apply Sub.cons; (focus ((repeat (first | exact Sel.head | apply Sel.tail)); done))) | apply Sub.skip))))) rfl rfl ?_)
        clear hf hS; rintro v a w ⟨rfl, hS⟩ hf
        refine step_l (st_rdB hf (Wn.some hf rfl rfl rfl rfl) (rd_eql hf rfl rfl rfl) hS rfl rfl ?_ ?_)
        · clear hf; intro hc9 a hf
          refine step_l (st_rd hf (Wn.none rfl) (rd_pick_t hf rfl rfl rfl) hS rfl rfl ?_)
          clear hf; intro a hf
          refine step_l (st_rd hf (Wn.none rfl) (rd_move hf rfl rfl) hS rfl rfl ?_)
          clear hf; intro a hf
          refine step_l (st_rd hf (Wn.some hf rfl rfl rfl rfl) (rd_move hf rfl rfl) hS rfl rfl ?_)
          clear hf; intro a hf
          refine step_l (st_call hf (Wn.some hf rfl rfl rfl rfl) rfl rfl rfl fn26 (Mix_c b _ _ _ hS rfl (by omega) (fun _ h => hvb _ (h.sub (by repeat (first | exact Sub.refl | exact Sub.none | exact Sub.behind | (apply Sub.cons; (focus ((repeat (first | exact Sel.head | apply Sel.tail)); done))) | apply Sub.skip))))) rfl rfl ?_)
          clear hf hS; rintro v a w ⟨rfl, hS⟩ hf
          refine step_l (st_rd hf (Wn.some hf rfl rfl rfl rfl) (rd_move hf rfl rfl) hS rfl rfl ?_)
          clear hf; intro a hf
          refine step_l (st_call hf (Wn.some hf rfl rfl rfl rfl) rfl rfl rfl fn27 (RMix_c b _ _ _ hS rfl (by omega) (fun _ h => hvb _ (h.sub (by repeat (first | exact Sub.refl | exact Sub.none | exact Sub.behind | (apply Sub.cons; (focus ((repeat (first | exact Sel.head | apply Sel.tail)); done))) | apply Sub.skip))))) rfl rfl ?_)
          clear hf hS; rintro v a w ⟨rfl, hS⟩ hf
          refine step_l (st_rdB hf (Wn.some hf rfl rfl rfl rfl) (rd_eql hf rfl rfl rfl) hS rfl rfl ?_ ?_)
          · clear hf; intro hc10 a hf
            refine step_l (st_rd hf (Wn.none rfl) (rd_pick_t hf rfl rfl rfl) hS rfl rfl ?_)
            clear hf; intro a hf
            refine step_l (st_rd hf (Wn.none rfl) (rd_move hf rfl rfl) hS rfl rfl ?_)
            clear hf; intro a hf
            refine step_l (st_call hf (Wn.some hf rfl rfl rfl rfl) rfl rfl rfl fn15 (awake_c hS) rfl rfl ?_)
            clear hf hS; rintro v a w ⟨rfl, hS⟩ hf
            refine step_l (st_rd hf (Wn.none rfl) (rd_pick_t hf rfl rfl rfl) hS rfl rfl ?_)
            clear hf; intro a hf
            refine step_l (st_rd hf (Wn.none rfl) (rd_assign hf rfl rfl) hS rfl rfl ?_)
            clear hf; intro a hf
            refine done_l ?_
            refine t_normal ?_
            refine c_ret ?_
            refine e_res1 hf.defers rfl (res_tmp hf rfl .nil) ?_
            exact ⟨rfl, hS.sub (by repeat (first | exact Sub.refl | exact Sub.none | exact Sub.behind | (apply Sub.cons; (focus ((repeat (first | exact Sel.head | apply Sel.tail)); done))) | apply Sub.skip))⟩
          · clear hf; intro hc10 a hf
            exact absurd rfl hc10
        · clear hf; intro hc9 a hf
          exact absurd hE2 hc9
      · clear hf; intro hc8 a hf
        exact absurd hE1 hc8
    · clear hf; intro hc7 a hf
      exact absurd rfl hc7

end Go.Proofs.Ytmjfmcgpmlfnbaa
