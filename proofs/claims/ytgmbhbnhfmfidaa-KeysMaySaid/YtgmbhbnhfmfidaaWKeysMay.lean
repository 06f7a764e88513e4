/-
  The statement KeysMay, walked.
  Conditions: none.
-/
import Derived.Test.YtgmbhbnhfmfidaaKeys
namespace Go.Proofs.Ytgmbhbnhfmfidaa
open Go Go.Sl
set_option linter.unusedVariables false
set_option linter.unusedSimpArgs false
theorem fn19 : fnB Try.prog 19 = true := by kernel_rfl
theorem fn25 : fnB Try.prog 25 = true := by kernel_rfl
theorem fn26 : fnB Try.prog 26 = true := by kernel_rfl
theorem fn27 : fnB Try.prog 27 = true := by kernel_rfl
theorem fn29 : fnB Try.prog 29 = true := by kernel_rfl
theorem fn30 : fnB Try.prog 30 = true := by kernel_rfl
theorem fn31 : fnB Try.prog 31 = true := by kernel_rfl
theorem fn32 : fnB Try.prog 32 = true := by kernel_rfl
def modN (n : Int) : Nat := (n % 18446744073709551616 % 40).toNat
theorem modN_lt (n : Int) : modN n < 40 := by unfold modN; omega
theorem u64mod (n : Int) : (IntKind.u64.wrap n).tmod 40 = ((modN n : Nat) : Int) := by
  have h : IntKind.u64.wrap n = n % 18446744073709551616 := by simp [IntKind.wrap, IntKind.bits, IntKind.signed]
  have h0 : 0 ≤ n % 18446744073709551616 := Int.emod_nonneg _ (by omega)
  rw [h, Int.tmod_eq_emod_of_nonneg h0]
  unfold modN
  omega
theorem set_rep (N k : Nat) (c : UInt8) (h : k < N) : (List.replicate k (bv c) ++ List.replicate (N - k) (bv 0)).set k (bv c) = List.replicate (k + 1) (bv c) ++ List.replicate (N - (k + 1)) (bv 0) := by
  rw [List.set_append_right _ _ (by simp)]
  simp only [List.length_replicate, Nat.sub_self]
  rw [show N - k = (N - (k + 1)) + 1 from by omega, List.replicate_succ, List.set_cons_zero, List.replicate_succ', List.append_assoc]
  rfl
theorem rep_end (N k : Nat) (c : UInt8) (h : ¬ ((k : Int) < N)) (hk : k ≤ N) : List.replicate k (bv c) ++ List.replicate (N - k) (bv 0) = bvs (List.replicate N c) := by
  obtain rfl : k = N := by omega
  simp
theorem bucket_rep (N : Nat) (c : UInt8) : bucketF (List.replicate N c) = N * c.toNat % 4 := by
  induction N with
  | zero => simp [bucketF]
  | succ n ih => rw [List.replicate_succ', bucketF_snoc, ih, Nat.add_mul]; omega
theorem bucket_repI (N : Nat) (c : UInt8) : ((bucketF (List.replicate N c) : Nat) : Int) = ((N * c.toNat : Nat) : Int) % 4 := by rw [bucket_rep]; rfl
theorem bucket_oneI (c : UInt8) : ((bucketF [c] : Nat) : Int) = (c.toNat : Int) % 4 := by have := bucket_repI 1 c; simpa using this
theorem mulNc {N : Nat} (c : UInt8) (h : N < 40) : IntKind.i64.wrap ((N : Int) * (c.toNat : Int)) = ((N * c.toNat : Nat) : Int) := by
  have hc := c.toNat_lt
  have : N * c.toNat ≤ 40 * 256 := Nat.mul_le_mul (by omega) (by omega)
  rw [← Int.natCast_mul]
  exact Go.IntWalk.i64_in _ (by omega)
theorem KeysMay_c (x : Int) (c : UInt8) {W : World} {R : List HP} {w : World} (hS : Sat W R w) : Calls Try.prog 7 [.int .i64 x, .int .u8 (c.toNat : Nat)].toArray w (Ret fun v w' => v = .bool true ∧ Sat W R w') := by
  refine fn_start 58 Try.func7 rfl rfl rfl ?_
  intro a hf
  have hN := modN_lt x
  have hcb := c.toNat_lt
  refine c_seq ?_
  refine c_region ?_
  refine step_l (st_rd hf (Wn.none rfl) (rd_assign hf rfl rfl) hS rfl rfl ?_)
  clear hf; intro a hf
  refine done_l ?_
  refine t_normal ?_
  refine c_seq ?_
  refine c_region ?_
  refine step_l (st_rd hf (Wn.none rfl) (rd_move hf rfl rfl) hS rfl rfl ?_)
  clear hf; intro a hf
  refine step_l (st_rd hf (Wn.none rfl) (rd_convInt hf rfl rfl Try.underlying3 Try.underlying30 rfl) hS rfl rfl ?_)
  clear hf; intro a hf
  refine step_l (st_rd hf (Wn.none rfl) (rd_rem hf rfl rfl rfl (by first | decide | omega) (u64mod _)) hS rfl rfl ?_)
  clear hf; intro a hf
  refine step_l (st_rd hf (Wn.none rfl) (rd_convInt hf rfl rfl Try.underlying30 Try.underlying3 (Go.IntWalk.i64_in _ (by omega))) hS rfl rfl ?_)
  clear hf; intro a hf
  refine step_l (st_rd hf (Wn.none rfl) (rd_assign hf rfl rfl) hS rfl rfl ?_)
  clear hf; intro a hf
  refine done_l ?_
  refine t_normal ?_
  refine c_seq ?_
  refine c_region ?_
  refine step_l (st_rd hf (Wn.none rfl) (rd_move hf rfl rfl) hS rfl rfl ?_)
  clear hf; intro a hf
  refine step_l (st_make hf (Wn.none rfl) hS rfl rfl rfl Try.underlying36 tyb5 (by omega) (by simp only [maxLen]; omega) rfl rfl ?_)
  clear hf hS; intro b_1 a w hf hS
  refine step_l (st_rd hf (Wn.none rfl) (rd_assign hf rfl rfl) hS rfl rfl ?_)
  clear hf; intro a hf
  refine done_l ?_
  refine t_normal ?_
  refine c_seq ?_
  refine c_seq ?_
  refine c_region ?_
  refine step_l (st_rd hf (Wn.none rfl) (rd_move hf rfl rfl) hS rfl rfl ?_)
  clear hf; intro a hf
  refine step_l (st_rd hf (Wn.none rfl) (rd_len hf rfl rfl Try.underlying36) hS rfl rfl ?_)
  clear hf; intro a hf
  refine step_l (st_rd hf (Wn.none rfl) (rd_move hf rfl rfl) hS rfl rfl ?_)
  clear hf; intro a hf
  refine done_l ?_
  refine t_normal ?_
  refine c_block ?_
  refine c_loop (α := Nat) (fun k a w => Fits 58 a [(0, .int .i64 (modN x : Nat)), (1, .int .u8 (c.toNat : Nat)), (5, .slice (some ⟨b_1, 0, none⟩) (modN x) (modN x)), (15, .int .i64 (modN x : Nat)), (16, .int .i64 (k : Nat))] ∧ Sat W (Rw 5 1 (some ⟨b_1, 0, none⟩) (modN x) (modN x) (List.replicate k (bv c) ++ List.replicate (modN x - k) (bv 0)) :: R) w ∧ k ≤ modN x) (fun k => modN x - k) 0 ?_ ?_
  · exact ⟨(((((hf.k0.kb hf 16 rfl (by rfl)).kb hf 15 rfl (by first | rfl | exact int_eq (by omega))).kb hf 5 rfl (by first | rfl | exact int_eq (by omega))).kb hf 1 rfl (by first | rfl | exact int_eq (by omega))).kb hf 0 rfl (by first | rfl | exact int_eq (by omega))), (hS.rwCast (xs' := List.replicate 0 (bv c) ++ List.replicate (modN x - 0) (bv 0)) (by show (madeCells #[Value.int .u8 0] _).toList = _; rw [toList_madeCells_one, Nat.mul_one]; rfl) rfl).sub (by repeat (first | exact Sub.refl | exact Sub.none | (apply Sub.cons; (focus ((repeat (first | exact Sel.head | apply Sel.tail)); done))) | apply Sub.skip)), Nat.zero_le _⟩
  · clear hf hS; rintro k a w ⟨hf, hS, hk⟩
    refine c_seq ?_
    refine c_region ?_
    refine step_l (st_rdB hf (Wn.none rfl) (rd_lss hf rfl rfl rfl) hS rfl rfl ?_ ?_)
    · clear hf; intro hc2 a hf
      first
      | (first | exact Bool.noConfusion hc2 | exact absurd rfl hc2 | exact absurd (decide_eq_decide.2 (by unfold mayKeyP; simp only [List.length_replicate]; omega)) hc2 | exact absurd (decide_eq_false (by unfold mayKeyP; simp only [List.length_replicate]; omega)) hc2 | exact absurd (bucket_repI _ _) hc2 | exact absurd (bucket_oneI _) hc2 | exact absurd hc2 (by omega); done)
      | (
        refine done_l ?_
        refine t_normal ?_
        refine c_seq ?_
        refine c_true hf rfl ?_
        refine c_skip ?_
        refine t_normal ?_
        refine c_seq ?_
        refine c_block ?_
        refine c_seq ?_
        refine c_region ?_
        refine step_l (st_rd hf (Wn.none rfl) (rd_move hf rfl rfl) hS rfl rfl ?_)
        clear hf; intro a hf
        refine step_l (st_rd hf (Wn.none rfl) (rd_assign hf rfl rfl) hS rfl rfl ?_)
        clear hf; intro a hf
        refine done_l ?_
        refine t_normal ?_
        refine c_region ?_
        refine step_l (st_rd hf (Wn.none rfl) (rd_move hf rfl rfl) hS rfl rfl ?_)
        clear hf; intro a hf
        refine step_l (st_rd hf (Wn.none rfl) (rd_move hf rfl rfl) hS rfl rfl ?_)
        clear hf; intro a hf
        refine step_l (st_rd hf (Wn.none rfl) (rd_move hf rfl rfl) hS rfl rfl ?_)
        clear hf; intro a hf
        refine step_l (st_rd hf (Wn.none rfl) ((by first | exact rd_indexAddrN1 hf rfl rfl rfl Try.underlying36 sz5 (by omega) | exact rd_indexAddr hf rfl rfl rfl Try.underlying36 sz5 (by first | decide | omega) (by omega))) hS rfl rfl ?_)
        clear hf; intro a hf
        refine step_l (st_storeRw hf (Wn.none rfl) hS rfl rfl rfl (by rfl) sz5 (by rfl) (by repeat (first | exact Sel.head | apply Sel.tail)) (by omega) rfl ?_)
        clear hf hS; intro a w hf hS
        refine done_l ?_
        refine b_normal ?_
        refine t_normal ?_
        refine c_region ?_
        refine step_l (st_rd hf (Wn.none rfl) (rd_add hf rfl rfl rfl (by first | exact Go.IntWalk.i64_in _ (by omega) | exact rfl)) hS rfl rfl ?_)
        clear hf; intro a hf
        refine step_l (st_rd hf (Wn.none rfl) (rd_move hf rfl rfl) hS rfl rfl ?_)
        clear hf; intro a hf
        refine done_l ?_
        refine t_normal ⟨k + 1, ⟨(((((hf.k0.kb hf 16 rfl (by first | rfl | exact int_eq (by omega))).kb hf 15 rfl (by first | rfl | exact int_eq (by omega))).kb hf 5 rfl (by first | rfl | exact int_eq (by omega))).kb hf 1 rfl (by first | rfl | exact int_eq (by omega))).kb hf 0 rfl (by first | rfl | exact int_eq (by omega))), (hS.rwCast (set_rep _ _ _ (by omega)) rfl).sub (by repeat (first | exact Sub.refl | exact Sub.none | (apply Sub.cons; (focus ((repeat (first | exact Sel.head | apply Sel.tail)); done))) | apply Sub.skip)), by omega⟩, by first | omega | (simp only []; omega)⟩
        )
    · clear hf; intro hc2 a hf
      replace hS := hS.rwCast (rep_end _ _ _ hc2 hk) rfl
      first
      | (first | exact Bool.noConfusion hc2 | exact absurd rfl hc2 | exact absurd (decide_eq_decide.2 (by unfold mayKeyP; simp only [List.length_replicate]; omega)) hc2 | exact absurd (decide_eq_false (by unfold mayKeyP; simp only [List.length_replicate]; omega)) hc2 | exact absurd (bucket_repI _ _) hc2 | exact absurd (bucket_oneI _) hc2 | exact absurd hc2 (by omega); done)
      | (
        refine done_l ?_
        refine t_normal ?_
        refine c_seq ?_
        refine c_false hf rfl ?_
        refine c_exit ?_
        refine t_exit ?_
        refine t_exit ?_
        refine b_exit ?_
        refine t_normal ?_
        refine c_seq ?_
        refine c_region ?_
        refine step_l (st_rd hf (Wn.none rfl) (rd_move hf rfl rfl) hS rfl rfl ?_)
        clear hf; intro a hf
        refine step_l (st_rd hf (Wn.none rfl) (rd_str hf rfl rfl Try.underlying36 Try.underlying9 Try.underlying5 (by intro _ h; first | exact h.slOfRw (by repeat (first | exact Sel.head | apply Sel.tail)) | exact h.slOfBlkPre (by repeat (first | exact Sel.head | apply Sel.tail)) (bvs_len1 _) | exact (h.slOfBlk (by repeat (first | exact Sel.head | apply Sel.tail)) (by rfl) : SlAt _ _ 1 1 (bvs [c])))) hS rfl rfl ?_)
        clear hf; intro a hf
        refine step_l (st_rd hf (Wn.none rfl) (rd_assign hf rfl rfl) hS rfl rfl ?_)
        clear hf; intro a hf
        refine done_l ?_
        refine t_normal ?_
        refine c_seq ?_
        refine c_region ?_
        refine step_l (st_rd hf (Wn.none rfl) (rd_move hf rfl rfl) hS rfl rfl ?_)
        clear hf; intro a hf
        refine step_l (st_call hf (Wn.none rfl) rfl rfl rfl fn21 (keyMay_c _  hS) rfl rfl ?_)
        clear hf hS; rintro v a w ⟨rfl, hS⟩ hf
        refine step_l (st_rd hf (Wn.none rfl) (rd_move hf rfl rfl) hS rfl rfl ?_)
        clear hf; intro a hf
        refine step_l (st_rdB hf (Wn.none rfl) (rd_geq hf rfl rfl rfl) hS rfl rfl ?_ ?_)
        · clear hf; intro hc3 a hf
          first
          | (first | exact Bool.noConfusion hc3 | exact absurd rfl hc3 | exact absurd (decide_eq_decide.2 (by unfold mayKeyP; simp only [List.length_replicate]; omega)) hc3 | exact absurd (decide_eq_false (by unfold mayKeyP; simp only [List.length_replicate]; omega)) hc3 | exact absurd (bucket_repI _ _) hc3 | exact absurd (bucket_oneI _) hc3 | exact absurd hc3 (by omega); done)
          | (
            refine step_l (st_rd hf (Wn.none rfl) (rd_move hf rfl rfl) hS rfl rfl ?_)
            clear hf; intro a hf
            refine step_l (st_rd hf (Wn.some hf rfl rfl rfl rfl) (rd_move hf rfl rfl) hS rfl rfl ?_)
            clear hf; intro a hf
            refine step_l (st_rd hf (Wn.some hf rfl rfl rfl rfl) (rd_leq hf rfl rfl rfl) hS rfl rfl ?_)
            clear hf; intro a hf
            refine step_l (st_rd hf (Wn.none rfl) (rd_pick_t hf rfl rfl rfl) hS rfl rfl ?_)
            clear hf; intro a hf
            refine step_l (st_rdB hf (Wn.none rfl) (rd_eqlBool hf rfl rfl rfl Try.underlying4) hS rfl rfl ?_ ?_)
            · clear hf; intro hc4 a hf
              first
              | (first | exact Bool.noConfusion hc4 | exact absurd rfl hc4 | exact absurd (decide_eq_decide.2 (by unfold mayKeyP; simp only [List.length_replicate]; omega)) hc4 | exact absurd (decide_eq_false (by unfold mayKeyP; simp only [List.length_replicate]; omega)) hc4 | exact absurd (bucket_repI _ _) hc4 | exact absurd (bucket_oneI _) hc4 | exact absurd hc4 (by omega); done)
              | (
                refine step_l (st_rd hf (Wn.none rfl) (rd_move hf rfl rfl) hS rfl rfl ?_)
                clear hf; intro a hf
                refine step_l (st_rd hf (Wn.some hf rfl rfl rfl rfl) (rd_move hf rfl rfl) hS rfl rfl ?_)
                clear hf; intro a hf
                refine step_l (st_call hf (Wn.some hf rfl rfl rfl rfl) rfl rfl rfl fn20 (Bucket_c _ (by first | (simp only [List.length_replicate]; omega) | (simp only [List.length_cons, List.length_nil]; omega)) hS) rfl rfl ?_)
                clear hf hS; rintro v a w ⟨rfl, hS⟩ hf
                refine step_l (st_rd hf (Wn.some hf rfl rfl rfl rfl) (rd_move hf rfl rfl) hS rfl rfl ?_)
                clear hf; intro a hf
                refine step_l (st_rd hf (Wn.some hf rfl rfl rfl rfl) (rd_move hf rfl rfl) hS rfl rfl ?_)
                clear hf; intro a hf
                refine step_l (st_rd hf (Wn.some hf rfl rfl rfl rfl) (rd_convInt hf rfl rfl Try.underlying5 Try.underlying3 (n64_conv8 _)) hS rfl rfl ?_)
                clear hf; intro a hf
                refine step_l (st_rd hf (Wn.some hf rfl rfl rfl rfl) (rd_mul hf rfl rfl rfl (mulNc _ (by omega))) hS rfl rfl ?_)
                clear hf; intro a hf
                refine step_l (st_rd hf (Wn.some hf rfl rfl rfl rfl) (rd_rem hf rfl rfl rfl (by first | decide | omega) (Int.tmod_eq_emod_of_nonneg (Int.natCast_nonneg _))) hS rfl rfl ?_)
                clear hf; intro a hf
                refine step_l (st_rdB hf (Wn.some hf rfl rfl rfl rfl) (rd_eql hf rfl rfl rfl) hS rfl rfl ?_ ?_)
                · clear hf; intro hc5 a hf
                  first
                  | (first | exact Bool.noConfusion hc5 | exact absurd rfl hc5 | exact absurd (decide_eq_decide.2 (by unfold mayKeyP; simp only [List.length_replicate]; omega)) hc5 | exact absurd (decide_eq_false (by unfold mayKeyP; simp only [List.length_replicate]; omega)) hc5 | exact absurd (bucket_repI _ _) hc5 | exact absurd (bucket_oneI _) hc5 | exact absurd hc5 (by omega); done)
                  | (
                    refine step_l (st_rd hf (Wn.none rfl) (rd_pick_t hf rfl rfl rfl) hS rfl rfl ?_)
                    clear hf; intro a hf
                    refine step_l (st_rd hf (Wn.none rfl) (rd_move hf rfl rfl) hS rfl rfl ?_)
                    clear hf; intro a hf
                    refine step_l (st_rd hf (Wn.some hf rfl rfl rfl rfl) (rd_move hf rfl rfl) hS rfl rfl ?_)
                    clear hf; intro a hf
                    refine step_l (st_buildSlice hf (Wn.some hf rfl rfl rfl rfl) hS rfl rfl Try.underlying36 sz5 zr5 (by decide) bz5_1 rfl (.cons rfl (by rfl) (by rfl) (by repeat (first | exact Put.nil | apply Put.cons | apply Put.succ)) .nil) rfl rfl ?_)
                    clear hf hS; intro b_6 a w hf hS
                    refine step_l (st_rd hf (Wn.some hf rfl rfl rfl rfl) (rd_str hf rfl rfl Try.underlying36 Try.underlying9 Try.underlying5 (by intro _ h; first | exact h.slOfRw (by repeat (first | exact Sel.head | apply Sel.tail)) | exact h.slOfBlkPre (by repeat (first | exact Sel.head | apply Sel.tail)) (bvs_len1 _) | exact (h.slOfBlk (by repeat (first | exact Sel.head | apply Sel.tail)) (by rfl) : SlAt _ _ 1 1 (bvs [c])))) hS rfl rfl ?_)
                    clear hf; intro a hf
                    refine step_l (st_call hf (Wn.some hf rfl rfl rfl rfl) rfl rfl rfl fn20 (Bucket_c _ (by first | (simp only [List.length_replicate]; omega) | (simp only [List.length_cons, List.length_nil]; omega)) hS) rfl rfl ?_)
                    clear hf hS; rintro v a w ⟨rfl, hS⟩ hf
                    refine step_l (st_rd hf (Wn.some hf rfl rfl rfl rfl) (rd_move hf rfl rfl) hS rfl rfl ?_)
                    clear hf; intro a hf
                    refine step_l (st_rd hf (Wn.some hf rfl rfl rfl rfl) (rd_convInt hf rfl rfl Try.underlying5 Try.underlying3 (n64_conv8 _)) hS rfl rfl ?_)
                    clear hf; intro a hf
                    refine step_l (st_rd hf (Wn.some hf rfl rfl rfl rfl) (rd_rem hf rfl rfl rfl (by first | decide | omega) (Int.tmod_eq_emod_of_nonneg (Int.natCast_nonneg _))) hS rfl rfl ?_)
                    clear hf; intro a hf
                    refine step_l (st_rdB hf (Wn.some hf rfl rfl rfl rfl) (rd_eql hf rfl rfl rfl) hS rfl rfl ?_ ?_)
                    · clear hf; intro hc7 a hf
                      first
                      | (first | exact Bool.noConfusion hc7 | exact absurd rfl hc7 | exact absurd (decide_eq_decide.2 (by unfold mayKeyP; simp only [List.length_replicate]; omega)) hc7 | exact absurd (decide_eq_false (by unfold mayKeyP; simp only [List.length_replicate]; omega)) hc7 | exact absurd (bucket_repI _ _) hc7 | exact absurd (bucket_oneI _) hc7 | exact absurd hc7 (by omega); done)
                      | (
                        refine step_l (st_rd hf (Wn.none rfl) (rd_pick_t hf rfl rfl rfl) hS rfl rfl ?_)
                        clear hf; intro a hf
                        refine step_l (st_rd hf (Wn.none rfl) (rd_move hf rfl rfl) hS rfl rfl ?_)
                        clear hf; intro a hf
                        refine step_l (st_call hf (Wn.some hf rfl rfl rfl rfl) rfl rfl rfl fn19 (awake9_c  hS) rfl rfl ?_)
                        clear hf hS; rintro v a w ⟨rfl, hS⟩ hf
                        refine step_l (st_rd hf (Wn.none rfl) (rd_pick_t hf rfl rfl rfl) hS rfl rfl ?_)
                        clear hf; intro a hf
                        refine step_l (st_rd hf (Wn.none rfl) (rd_assign hf rfl rfl) hS rfl rfl ?_)
                        clear hf; intro a hf
                        refine done_l ?_
                        refine t_normal ?_
                        refine c_ret ?_
                        refine e_res1 hf.defers rfl (res_tmp hf rfl .nil) ?_
                        refine ⟨?_, hS.sub (by repeat (first | exact Sub.refl | exact Sub.none | (apply Sub.cons; (focus ((repeat (first | exact Sel.head | apply Sel.tail)); done))) | apply Sub.skip))⟩
                        clear hf hS
                        rfl
                        )
                    · clear hf; intro hc7 a hf
                      first
                      | (first | exact Bool.noConfusion hc7 | exact absurd rfl hc7 | exact absurd (decide_eq_decide.2 (by unfold mayKeyP; simp only [List.length_replicate]; omega)) hc7 | exact absurd (decide_eq_false (by unfold mayKeyP; simp only [List.length_replicate]; omega)) hc7 | exact absurd (bucket_repI _ _) hc7 | exact absurd (bucket_oneI _) hc7 | exact absurd hc7 (by omega); done)
                      | (
                        refine step_l (st_rd hf (Wn.none rfl) (rd_pick_t hf rfl rfl rfl) hS rfl rfl ?_)
                        clear hf; intro a hf
                        refine step_l (st_rd hf (Wn.none rfl) (rd_move hf rfl rfl) hS rfl rfl ?_)
                        clear hf; intro a hf
                        refine step_l (st_skip hf (Wn.some hf rfl rfl rfl rfl) rfl rfl ?_)
                        clear hf; intro a hf
                        refine step_l (st_rd hf (Wn.none rfl) (rd_pick_f hf rfl rfl rfl) hS rfl rfl ?_)
                        clear hf; intro a hf
                        refine step_l (st_rd hf (Wn.none rfl) (rd_assign hf rfl rfl) hS rfl rfl ?_)
                        clear hf; intro a hf
                        refine done_l ?_
                        refine t_normal ?_
                        refine c_ret ?_
                        refine e_res1 hf.defers rfl (res_tmp hf rfl .nil) ?_
                        refine ⟨?_, hS.sub (by repeat (first | exact Sub.refl | exact Sub.none | (apply Sub.cons; (focus ((repeat (first | exact Sel.head | apply Sel.tail)); done))) | apply Sub.skip))⟩
                        clear hf hS
                        rfl
                        )
                    )
                · clear hf; intro hc5 a hf
                  first
                  | (first | exact Bool.noConfusion hc5 | exact absurd rfl hc5 | exact absurd (decide_eq_decide.2 (by unfold mayKeyP; simp only [List.length_replicate]; omega)) hc5 | exact absurd (decide_eq_false (by unfold mayKeyP; simp only [List.length_replicate]; omega)) hc5 | exact absurd (bucket_repI _ _) hc5 | exact absurd (bucket_oneI _) hc5 | exact absurd hc5 (by omega); done)
                  | (
                    refine step_l (st_rd hf (Wn.none rfl) (rd_pick_t hf rfl rfl rfl) hS rfl rfl ?_)
                    clear hf; intro a hf
                    refine step_l (st_rd hf (Wn.none rfl) (rd_move hf rfl rfl) hS rfl rfl ?_)
                    clear hf; intro a hf
                    refine step_l (st_skip hf (Wn.some hf rfl rfl rfl rfl) rfl rfl ?_)
                    clear hf; intro a hf
                    refine step_l (st_skip hf (Wn.some hf rfl rfl rfl rfl) rfl rfl ?_)
                    clear hf; intro a hf
                    refine step_l (st_skip hf (Wn.some hf rfl rfl rfl rfl) rfl rfl ?_)
                    clear hf; intro a hf
                    refine step_l (st_skip hf (Wn.some hf rfl rfl rfl rfl) rfl rfl ?_)
                    clear hf; intro a hf
                    refine step_l (st_skip hf (Wn.some hf rfl rfl rfl rfl) rfl rfl ?_)
                    clear hf; intro a hf
                    refine step_l (st_skip hf (Wn.some hf rfl rfl rfl rfl) rfl rfl ?_)
                    clear hf; intro a hf
                    refine step_l (st_skip hf (Wn.some hf rfl rfl rfl rfl) rfl rfl ?_)
                    clear hf; intro a hf
                    refine step_l (st_skip hf (Wn.some hf rfl rfl rfl rfl) rfl rfl ?_)
                    clear hf; intro a hf
                    refine step_l (st_rd hf (Wn.none rfl) (rd_pick_f hf rfl rfl rfl) hS rfl rfl ?_)
                    clear hf; intro a hf
                    refine step_l (st_rd hf (Wn.none rfl) (rd_move hf rfl rfl) hS rfl rfl ?_)
                    clear hf; intro a hf
                    refine step_l (st_skip hf (Wn.some hf rfl rfl rfl rfl) rfl rfl ?_)
                    clear hf; intro a hf
                    refine step_l (st_rd hf (Wn.none rfl) (rd_pick_f hf rfl rfl rfl) hS rfl rfl ?_)
                    clear hf; intro a hf
                    refine step_l (st_rd hf (Wn.none rfl) (rd_assign hf rfl rfl) hS rfl rfl ?_)
                    clear hf; intro a hf
                    refine done_l ?_
                    refine t_normal ?_
                    refine c_ret ?_
                    refine e_res1 hf.defers rfl (res_tmp hf rfl .nil) ?_
                    refine ⟨?_, hS.sub (by repeat (first | exact Sub.refl | exact Sub.none | (apply Sub.cons; (focus ((repeat (first | exact Sel.head | apply Sel.tail)); done))) | apply Sub.skip))⟩
                    clear hf hS
                    rfl
                    )
                )
            · clear hf; intro hc4 a hf
              first
              | (first | exact Bool.noConfusion hc4 | exact absurd rfl hc4 | exact absurd (decide_eq_decide.2 (by unfold mayKeyP; simp only [List.length_replicate]; omega)) hc4 | exact absurd (decide_eq_false (by unfold mayKeyP; simp only [List.length_replicate]; omega)) hc4 | exact absurd (bucket_repI _ _) hc4 | exact absurd (bucket_oneI _) hc4 | exact absurd hc4 (by omega); done)
              | (
                refine step_l (st_rd hf (Wn.none rfl) (rd_move hf rfl rfl) hS rfl rfl ?_)
                clear hf; intro a hf
                refine step_l (st_skip hf (Wn.some hf rfl rfl rfl rfl) rfl rfl ?_)
                clear hf; intro a hf
                refine step_l (st_skip hf (Wn.some hf rfl rfl rfl rfl) rfl rfl ?_)
                clear hf; intro a hf
                refine step_l (st_skip hf (Wn.some hf rfl rfl rfl rfl) rfl rfl ?_)
                clear hf; intro a hf
                refine step_l (st_skip hf (Wn.some hf rfl rfl rfl rfl) rfl rfl ?_)
                clear hf; intro a hf
                refine step_l (st_skip hf (Wn.some hf rfl rfl rfl rfl) rfl rfl ?_)
                clear hf; intro a hf
                refine step_l (st_skip hf (Wn.some hf rfl rfl rfl rfl) rfl rfl ?_)
                clear hf; intro a hf
                refine step_l (st_skip hf (Wn.some hf rfl rfl rfl rfl) rfl rfl ?_)
                clear hf; intro a hf
                refine step_l (st_skip hf (Wn.some hf rfl rfl rfl rfl) rfl rfl ?_)
                clear hf; intro a hf
                refine step_l (st_rd hf (Wn.none rfl) (rd_pick_f hf rfl rfl rfl) hS rfl rfl ?_)
                clear hf; intro a hf
                refine step_l (st_rd hf (Wn.none rfl) (rd_move hf rfl rfl) hS rfl rfl ?_)
                clear hf; intro a hf
                refine step_l (st_skip hf (Wn.some hf rfl rfl rfl rfl) rfl rfl ?_)
                clear hf; intro a hf
                refine step_l (st_skip hf (Wn.some hf rfl rfl rfl rfl) rfl rfl ?_)
                clear hf; intro a hf
                refine step_l (st_skip hf (Wn.some hf rfl rfl rfl rfl) rfl rfl ?_)
                clear hf; intro a hf
                refine step_l (st_skip hf (Wn.some hf rfl rfl rfl rfl) rfl rfl ?_)
                clear hf; intro a hf
                refine step_l (st_skip hf (Wn.some hf rfl rfl rfl rfl) rfl rfl ?_)
                clear hf; intro a hf
                refine step_l (st_skip hf (Wn.some hf rfl rfl rfl rfl) rfl rfl ?_)
                clear hf; intro a hf
                refine step_l (st_skip hf (Wn.some hf rfl rfl rfl rfl) rfl rfl ?_)
                clear hf; intro a hf
                refine step_l (st_skip hf (Wn.some hf rfl rfl rfl rfl) rfl rfl ?_)
                clear hf; intro a hf
                refine step_l (st_rd hf (Wn.none rfl) (rd_pick_f hf rfl rfl rfl) hS rfl rfl ?_)
                clear hf; intro a hf
                refine step_l (st_rd hf (Wn.none rfl) (rd_move hf rfl rfl) hS rfl rfl ?_)
                clear hf; intro a hf
                refine step_l (st_skip hf (Wn.some hf rfl rfl rfl rfl) rfl rfl ?_)
                clear hf; intro a hf
                refine step_l (st_rd hf (Wn.none rfl) (rd_pick_f hf rfl rfl rfl) hS rfl rfl ?_)
                clear hf; intro a hf
                refine step_l (st_rd hf (Wn.none rfl) (rd_assign hf rfl rfl) hS rfl rfl ?_)
                clear hf; intro a hf
                refine done_l ?_
                refine t_normal ?_
                refine c_ret ?_
                refine e_res1 hf.defers rfl (res_tmp hf rfl .nil) ?_
                refine ⟨?_, hS.sub (by repeat (first | exact Sub.refl | exact Sub.none | (apply Sub.cons; (focus ((repeat (first | exact Sel.head | apply Sel.tail)); done))) | apply Sub.skip))⟩
                clear hf hS
                rfl
                )
            )
        · clear hf; intro hc3 a hf
          first
          | (first | exact Bool.noConfusion hc3 | exact absurd rfl hc3 | exact absurd (decide_eq_decide.2 (by unfold mayKeyP; simp only [List.length_replicate]; omega)) hc3 | exact absurd (decide_eq_false (by unfold mayKeyP; simp only [List.length_replicate]; omega)) hc3 | exact absurd (bucket_repI _ _) hc3 | exact absurd (bucket_oneI _) hc3 | exact absurd hc3 (by omega); done)
          | (
            refine step_l (st_rd hf (Wn.none rfl) (rd_move hf rfl rfl) hS rfl rfl ?_)
            clear hf; intro a hf
            refine step_l (st_skip hf (Wn.some hf rfl rfl rfl rfl) rfl rfl ?_)
            clear hf; intro a hf
            refine step_l (st_skip hf (Wn.some hf rfl rfl rfl rfl) rfl rfl ?_)
            clear hf; intro a hf
            refine step_l (st_rd hf (Wn.none rfl) (rd_pick_f hf rfl rfl rfl) hS rfl rfl ?_)
            clear hf; intro a hf
            refine step_l (st_rdB hf (Wn.none rfl) (rd_eqlBool hf rfl rfl rfl Try.underlying4) hS rfl rfl ?_ ?_)
            · clear hf; intro hc8 a hf
              first
              | (first | exact Bool.noConfusion hc8 | exact absurd rfl hc8 | exact absurd (decide_eq_decide.2 (by unfold mayKeyP; simp only [List.length_replicate]; omega)) hc8 | exact absurd (decide_eq_false (by unfold mayKeyP; simp only [List.length_replicate]; omega)) hc8 | exact absurd (bucket_repI _ _) hc8 | exact absurd (bucket_oneI _) hc8 | exact absurd hc8 (by omega); done)
              | (
                refine step_l (st_rd hf (Wn.none rfl) (rd_move hf rfl rfl) hS rfl rfl ?_)
                clear hf; intro a hf
                refine step_l (st_rd hf (Wn.some hf rfl rfl rfl rfl) (rd_move hf rfl rfl) hS rfl rfl ?_)
                clear hf; intro a hf
                refine step_l (st_call hf (Wn.some hf rfl rfl rfl rfl) rfl rfl rfl fn20 (Bucket_c _ (by first | (simp only [List.length_replicate]; omega) | (simp only [List.length_cons, List.length_nil]; omega)) hS) rfl rfl ?_)
                clear hf hS; rintro v a w ⟨rfl, hS⟩ hf
                refine step_l (st_rd hf (Wn.some hf rfl rfl rfl rfl) (rd_move hf rfl rfl) hS rfl rfl ?_)
                clear hf; intro a hf
                refine step_l (st_rd hf (Wn.some hf rfl rfl rfl rfl) (rd_move hf rfl rfl) hS rfl rfl ?_)
                clear hf; intro a hf
                refine step_l (st_rd hf (Wn.some hf rfl rfl rfl rfl) (rd_convInt hf rfl rfl Try.underlying5 Try.underlying3 (n64_conv8 _)) hS rfl rfl ?_)
                clear hf; intro a hf
                refine step_l (st_rd hf (Wn.some hf rfl rfl rfl rfl) (rd_mul hf rfl rfl rfl (mulNc _ (by omega))) hS rfl rfl ?_)
                clear hf; intro a hf
                refine step_l (st_rd hf (Wn.some hf rfl rfl rfl rfl) (rd_rem hf rfl rfl rfl (by first | decide | omega) (Int.tmod_eq_emod_of_nonneg (Int.natCast_nonneg _))) hS rfl rfl ?_)
                clear hf; intro a hf
                refine step_l (st_rdB hf (Wn.some hf rfl rfl rfl rfl) (rd_eql hf rfl rfl rfl) hS rfl rfl ?_ ?_)
                · clear hf; intro hc9 a hf
                  first
                  | (first | exact Bool.noConfusion hc9 | exact absurd rfl hc9 | exact absurd (decide_eq_decide.2 (by unfold mayKeyP; simp only [List.length_replicate]; omega)) hc9 | exact absurd (decide_eq_false (by unfold mayKeyP; simp only [List.length_replicate]; omega)) hc9 | exact absurd (bucket_repI _ _) hc9 | exact absurd (bucket_oneI _) hc9 | exact absurd hc9 (by omega); done)
                  | (
                    refine step_l (st_rd hf (Wn.none rfl) (rd_pick_t hf rfl rfl rfl) hS rfl rfl ?_)
                    clear hf; intro a hf
                    refine step_l (st_rd hf (Wn.none rfl) (rd_move hf rfl rfl) hS rfl rfl ?_)
                    clear hf; intro a hf
                    refine step_l (st_rd hf (Wn.some hf rfl rfl rfl rfl) (rd_move hf rfl rfl) hS rfl rfl ?_)
                    clear hf; intro a hf
                    refine step_l (st_buildSlice hf (Wn.some hf rfl rfl rfl rfl) hS rfl rfl Try.underlying36 sz5 zr5 (by decide) bz5_1 rfl (.cons rfl (by rfl) (by rfl) (by repeat (first | exact Put.nil | apply Put.cons | apply Put.succ)) .nil) rfl rfl ?_)
                    clear hf hS; intro b_10 a w hf hS
                    refine step_l (st_rd hf (Wn.some hf rfl rfl rfl rfl) (rd_str hf rfl rfl Try.underlying36 Try.underlying9 Try.underlying5 (by intro _ h; first | exact h.slOfRw (by repeat (first | exact Sel.head | apply Sel.tail)) | exact h.slOfBlkPre (by repeat (first | exact Sel.head | apply Sel.tail)) (bvs_len1 _) | exact (h.slOfBlk (by repeat (first | exact Sel.head | apply Sel.tail)) (by rfl) : SlAt _ _ 1 1 (bvs [c])))) hS rfl rfl ?_)
                    clear hf; intro a hf
                    refine step_l (st_call hf (Wn.some hf rfl rfl rfl rfl) rfl rfl rfl fn20 (Bucket_c _ (by first | (simp only [List.length_replicate]; omega) | (simp only [List.length_cons, List.length_nil]; omega)) hS) rfl rfl ?_)
                    clear hf hS; rintro v a w ⟨rfl, hS⟩ hf
                    refine step_l (st_rd hf (Wn.some hf rfl rfl rfl rfl) (rd_move hf rfl rfl) hS rfl rfl ?_)
                    clear hf; intro a hf
                    refine step_l (st_rd hf (Wn.some hf rfl rfl rfl rfl) (rd_convInt hf rfl rfl Try.underlying5 Try.underlying3 (n64_conv8 _)) hS rfl rfl ?_)
                    clear hf; intro a hf
                    refine step_l (st_rd hf (Wn.some hf rfl rfl rfl rfl) (rd_rem hf rfl rfl rfl (by first | decide | omega) (Int.tmod_eq_emod_of_nonneg (Int.natCast_nonneg _))) hS rfl rfl ?_)
                    clear hf; intro a hf
                    refine step_l (st_rdB hf (Wn.some hf rfl rfl rfl rfl) (rd_eql hf rfl rfl rfl) hS rfl rfl ?_ ?_)
                    · clear hf; intro hc11 a hf
                      first
                      | (first | exact Bool.noConfusion hc11 | exact absurd rfl hc11 | exact absurd (decide_eq_decide.2 (by unfold mayKeyP; simp only [List.length_replicate]; omega)) hc11 | exact absurd (decide_eq_false (by unfold mayKeyP; simp only [List.length_replicate]; omega)) hc11 | exact absurd (bucket_repI _ _) hc11 | exact absurd (bucket_oneI _) hc11 | exact absurd hc11 (by omega); done)
                      | (
                        refine step_l (st_rd hf (Wn.none rfl) (rd_pick_t hf rfl rfl rfl) hS rfl rfl ?_)
                        clear hf; intro a hf
                        refine step_l (st_rd hf (Wn.none rfl) (rd_move hf rfl rfl) hS rfl rfl ?_)
                        clear hf; intro a hf
                        refine step_l (st_call hf (Wn.some hf rfl rfl rfl rfl) rfl rfl rfl fn19 (awake9_c  hS) rfl rfl ?_)
                        clear hf hS; rintro v a w ⟨rfl, hS⟩ hf
                        refine step_l (st_rd hf (Wn.none rfl) (rd_pick_t hf rfl rfl rfl) hS rfl rfl ?_)
                        clear hf; intro a hf
                        refine step_l (st_rd hf (Wn.none rfl) (rd_assign hf rfl rfl) hS rfl rfl ?_)
                        clear hf; intro a hf
                        refine done_l ?_
                        refine t_normal ?_
                        refine c_ret ?_
                        refine e_res1 hf.defers rfl (res_tmp hf rfl .nil) ?_
                        refine ⟨?_, hS.sub (by repeat (first | exact Sub.refl | exact Sub.none | (apply Sub.cons; (focus ((repeat (first | exact Sel.head | apply Sel.tail)); done))) | apply Sub.skip))⟩
                        clear hf hS
                        rfl
                        )
                    · clear hf; intro hc11 a hf
                      first
                      | (first | exact Bool.noConfusion hc11 | exact absurd rfl hc11 | exact absurd (decide_eq_decide.2 (by unfold mayKeyP; simp only [List.length_replicate]; omega)) hc11 | exact absurd (decide_eq_false (by unfold mayKeyP; simp only [List.length_replicate]; omega)) hc11 | exact absurd (bucket_repI _ _) hc11 | exact absurd (bucket_oneI _) hc11 | exact absurd hc11 (by omega); done)
                      | (
                        refine step_l (st_rd hf (Wn.none rfl) (rd_pick_t hf rfl rfl rfl) hS rfl rfl ?_)
                        clear hf; intro a hf
                        refine step_l (st_rd hf (Wn.none rfl) (rd_move hf rfl rfl) hS rfl rfl ?_)
                        clear hf; intro a hf
                        refine step_l (st_skip hf (Wn.some hf rfl rfl rfl rfl) rfl rfl ?_)
                        clear hf; intro a hf
                        refine step_l (st_rd hf (Wn.none rfl) (rd_pick_f hf rfl rfl rfl) hS rfl rfl ?_)
                        clear hf; intro a hf
                        refine step_l (st_rd hf (Wn.none rfl) (rd_assign hf rfl rfl) hS rfl rfl ?_)
                        clear hf; intro a hf
                        refine done_l ?_
                        refine t_normal ?_
                        refine c_ret ?_
                        refine e_res1 hf.defers rfl (res_tmp hf rfl .nil) ?_
                        refine ⟨?_, hS.sub (by repeat (first | exact Sub.refl | exact Sub.none | (apply Sub.cons; (focus ((repeat (first | exact Sel.head | apply Sel.tail)); done))) | apply Sub.skip))⟩
                        clear hf hS
                        rfl
                        )
                    )
                · clear hf; intro hc9 a hf
                  first
                  | (first | exact Bool.noConfusion hc9 | exact absurd rfl hc9 | exact absurd (decide_eq_decide.2 (by unfold mayKeyP; simp only [List.length_replicate]; omega)) hc9 | exact absurd (decide_eq_false (by unfold mayKeyP; simp only [List.length_replicate]; omega)) hc9 | exact absurd (bucket_repI _ _) hc9 | exact absurd (bucket_oneI _) hc9 | exact absurd hc9 (by omega); done)
                  | (
                    refine step_l (st_rd hf (Wn.none rfl) (rd_pick_t hf rfl rfl rfl) hS rfl rfl ?_)
                    clear hf; intro a hf
                    refine step_l (st_rd hf (Wn.none rfl) (rd_move hf rfl rfl) hS rfl rfl ?_)
                    clear hf; intro a hf
                    refine step_l (st_skip hf (Wn.some hf rfl rfl rfl rfl) rfl rfl ?_)
                    clear hf; intro a hf
                    refine step_l (st_skip hf (Wn.some hf rfl rfl rfl rfl) rfl rfl ?_)
                    clear hf; intro a hf
                    refine step_l (st_skip hf (Wn.some hf rfl rfl rfl rfl) rfl rfl ?_)
                    clear hf; intro a hf
                    refine step_l (st_skip hf (Wn.some hf rfl rfl rfl rfl) rfl rfl ?_)
                    clear hf; intro a hf
                    refine step_l (st_skip hf (Wn.some hf rfl rfl rfl rfl) rfl rfl ?_)
                    clear hf; intro a hf
                    refine step_l (st_skip hf (Wn.some hf rfl rfl rfl rfl) rfl rfl ?_)
                    clear hf; intro a hf
                    refine step_l (st_skip hf (Wn.some hf rfl rfl rfl rfl) rfl rfl ?_)
                    clear hf; intro a hf
                    refine step_l (st_skip hf (Wn.some hf rfl rfl rfl rfl) rfl rfl ?_)
                    clear hf; intro a hf
                    refine step_l (st_rd hf (Wn.none rfl) (rd_pick_f hf rfl rfl rfl) hS rfl rfl ?_)
                    clear hf; intro a hf
                    refine step_l (st_rd hf (Wn.none rfl) (rd_move hf rfl rfl) hS rfl rfl ?_)
                    clear hf; intro a hf
                    refine step_l (st_skip hf (Wn.some hf rfl rfl rfl rfl) rfl rfl ?_)
                    clear hf; intro a hf
                    refine step_l (st_rd hf (Wn.none rfl) (rd_pick_f hf rfl rfl rfl) hS rfl rfl ?_)
                    clear hf; intro a hf
                    refine step_l (st_rd hf (Wn.none rfl) (rd_assign hf rfl rfl) hS rfl rfl ?_)
                    clear hf; intro a hf
                    refine done_l ?_
                    refine t_normal ?_
                    refine c_ret ?_
                    refine e_res1 hf.defers rfl (res_tmp hf rfl .nil) ?_
                    refine ⟨?_, hS.sub (by repeat (first | exact Sub.refl | exact Sub.none | (apply Sub.cons; (focus ((repeat (first | exact Sel.head | apply Sel.tail)); done))) | apply Sub.skip))⟩
                    clear hf hS
                    rfl
                    )
                )
            · clear hf; intro hc8 a hf
              first
              | (first | exact Bool.noConfusion hc8 | exact absurd rfl hc8 | exact absurd (decide_eq_decide.2 (by unfold mayKeyP; simp only [List.length_replicate]; omega)) hc8 | exact absurd (decide_eq_false (by unfold mayKeyP; simp only [List.length_replicate]; omega)) hc8 | exact absurd (bucket_repI _ _) hc8 | exact absurd (bucket_oneI _) hc8 | exact absurd hc8 (by omega); done)
              | (
                refine step_l (st_rd hf (Wn.none rfl) (rd_move hf rfl rfl) hS rfl rfl ?_)
                clear hf; intro a hf
                refine step_l (st_skip hf (Wn.some hf rfl rfl rfl rfl) rfl rfl ?_)
                clear hf; intro a hf
                refine step_l (st_skip hf (Wn.some hf rfl rfl rfl rfl) rfl rfl ?_)
                clear hf; intro a hf
                refine step_l (st_skip hf (Wn.some hf rfl rfl rfl rfl) rfl rfl ?_)
                clear hf; intro a hf
                refine step_l (st_skip hf (Wn.some hf rfl rfl rfl rfl) rfl rfl ?_)
                clear hf; intro a hf
                refine step_l (st_skip hf (Wn.some hf rfl rfl rfl rfl) rfl rfl ?_)
                clear hf; intro a hf
                refine step_l (st_skip hf (Wn.some hf rfl rfl rfl rfl) rfl rfl ?_)
                clear hf; intro a hf
                refine step_l (st_skip hf (Wn.some hf rfl rfl rfl rfl) rfl rfl ?_)
                clear hf; intro a hf
                refine step_l (st_skip hf (Wn.some hf rfl rfl rfl rfl) rfl rfl ?_)
                clear hf; intro a hf
                refine step_l (st_rd hf (Wn.none rfl) (rd_pick_f hf rfl rfl rfl) hS rfl rfl ?_)
                clear hf; intro a hf
                refine step_l (st_rd hf (Wn.none rfl) (rd_move hf rfl rfl) hS rfl rfl ?_)
                clear hf; intro a hf
                refine step_l (st_skip hf (Wn.some hf rfl rfl rfl rfl) rfl rfl ?_)
                clear hf; intro a hf
                refine step_l (st_skip hf (Wn.some hf rfl rfl rfl rfl) rfl rfl ?_)
                clear hf; intro a hf
                refine step_l (st_skip hf (Wn.some hf rfl rfl rfl rfl) rfl rfl ?_)
                clear hf; intro a hf
                refine step_l (st_skip hf (Wn.some hf rfl rfl rfl rfl) rfl rfl ?_)
                clear hf; intro a hf
                refine step_l (st_skip hf (Wn.some hf rfl rfl rfl rfl) rfl rfl ?_)
                clear hf; intro a hf
                refine step_l (st_skip hf (Wn.some hf rfl rfl rfl rfl) rfl rfl ?_)
                clear hf; intro a hf
                refine step_l (st_skip hf (Wn.some hf rfl rfl rfl rfl) rfl rfl ?_)
                clear hf; intro a hf
                refine step_l (st_skip hf (Wn.some hf rfl rfl rfl rfl) rfl rfl ?_)
                clear hf; intro a hf
                refine step_l (st_rd hf (Wn.none rfl) (rd_pick_f hf rfl rfl rfl) hS rfl rfl ?_)
                clear hf; intro a hf
                refine step_l (st_rd hf (Wn.none rfl) (rd_move hf rfl rfl) hS rfl rfl ?_)
                clear hf; intro a hf
                refine step_l (st_skip hf (Wn.some hf rfl rfl rfl rfl) rfl rfl ?_)
                clear hf; intro a hf
                refine step_l (st_rd hf (Wn.none rfl) (rd_pick_f hf rfl rfl rfl) hS rfl rfl ?_)
                clear hf; intro a hf
                refine step_l (st_rd hf (Wn.none rfl) (rd_assign hf rfl rfl) hS rfl rfl ?_)
                clear hf; intro a hf
                refine done_l ?_
                refine t_normal ?_
                refine c_ret ?_
                refine e_res1 hf.defers rfl (res_tmp hf rfl .nil) ?_
                refine ⟨?_, hS.sub (by repeat (first | exact Sub.refl | exact Sub.none | (apply Sub.cons; (focus ((repeat (first | exact Sel.head | apply Sel.tail)); done))) | apply Sub.skip))⟩
                clear hf hS
                rfl
                )
            )
        )

end Go.Proofs.Ytgmbhbnhfmfidaa
