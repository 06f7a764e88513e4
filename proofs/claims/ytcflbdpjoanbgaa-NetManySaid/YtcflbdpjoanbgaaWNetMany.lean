/-
  The statement NetMany, walked.
  Conditions: none.
-/
import Derived.Test.YtcflbdpjoanbgaaNla1
namespace Go.Proofs.Ytcflbdpjoanbgaa
open Go Go.Sl
set_option linter.unusedVariables false
set_option linter.unusedSimpArgs false
theorem fn11 : fnB Try.prog 11 = true := by kernel_rfl
theorem fn12 : fnB Try.prog 12 = true := by kernel_rfl
theorem NetMany_c (k0 : Int) {W : World} {R : List HP} {w : World} (hS : Sat W (R) w)  : Calls Try.prog 3 [.int .i64 k0].toArray w (Ret fun v w' => v = .bool true ∧ Sat W R w') := by
 refine fn_start 50 Try.func3 rfl rfl rfl ?_
 intro a hf
 refine c_seq (c_region ?_)
 refine aN hf hS ?_; clear hf; intro a hf
 refine done_l (t_normal (c_seq (c_region ?_)))
 refine step_l (st_call hf (Wn.none rfl) rfl rfl rfl fn7 (NNew_c hS) rfl rfl ?_)
 clear hf hS; rintro v a w ⟨p, rfl, hS⟩ hf
 refine aN hf hS ?_; clear hf; intro a hf
 refine done_l (t_normal (c_seq (c_region ?_)))
 refine mN hf hS ?_; clear hf; intro a hf
 refine sR hf hS (rd_convInt hf rfl rfl Try.underlying3 Try.underlying24 rfl) ?_; clear hf; intro a hf
 refine sR hf hS (rd_rem hf rfl rfl rfl (by first | decide | omega) rfl) ?_; clear hf; intro a hf
 refine sR hf hS (rd_convInt hf rfl rfl Try.underlying24 Try.underlying3 rfl) ?_; clear hf; intro a hf
 refine sR hf hS (rd_add hf rfl rfl rfl rfl) ?_; clear hf; intro a hf
 refine aN hf hS ?_; clear hf; intro a hf
 refine done_l ?_
 obtain ⟨k, hkd, hkx, hke⟩ := wrap_tmod2 k0 6 1997 (by decide) (by decide); rw [hke] at hf
 refine t_normal (c_seq (c_region ?_))
 refine aN hf hS ?_; clear hf; intro a hf
 refine done_l (t_normal (c_seq (c_seq (c_region ?_))))
 iterate 2 (refine mN hf hS ?_; clear hf; intro a hf)
 refine done_l (t_normal (c_block ?_))
 have hk0 := Keep.ofA hf [(4, 5), (15, 23)]
 refine c_loopK hk0 (α := Nat × Option Addr × Nat) (fun ⟨i, q, cap⟩ => [(4, .slice q ((upto i).map msgX).length cap), (15, .int .i64 (i : Nat))]) (fun ⟨i, q, cap⟩ w => Sat W (Rw 30 10 q ((upto i).map msgX).length cap (((upto i).map msgX).flatMap msgC) :: NetP 46 30 59 117 5 62 83 68 p [] 0 :: R) w ∧ i ≤ k) (fun ⟨i, q, cap⟩ => k - i) (0, none, 0) (((hf.keep hk0).kb hf 15 rfl (by first | rfl | exact int_eq (by omega))).kb hf 4 rfl (by first | rfl | exact int_eq (by omega))) ⟨(hS.rwNil 30 10).subA, by omega⟩ ?_
 clear hf hS; rintro ⟨i, q, cap⟩ a w hf ⟨hS, hik⟩; (try dsimp only [List.cons_append, List.nil_append] at hf)
 refine c_seq (c_region ?_)
 refine sB hf hS (rd_lss hf rfl rfl rfl) ?_ ?_
 ·
  clear hf; intro hc1 a hf
  refine done_l (t_normal (c_seq ?_))
  refine c_true hf rfl ?_
  refine c_skip (t_normal (c_seq (c_block (c_seq (c_region ?_)))))
  iterate 2 ((first | refine mN hf hS ?_ | refine aN hf hS ?_); clear hf; intro a hf)
  refine done_l (t_normal (c_region ?_))
  iterate 2 (refine mN hf hS ?_; clear hf; intro a hf)
  refine step_l (st_call hf (Wn.none rfl) rfl rfl rfl fn8 (msg_c _ hS) rfl rfl ?_)
  clear hf hS; rintro v a w ⟨rfl, hS⟩ hf
  refine step_l (st_buildSlice hf (Wn.none rfl) hS rfl rfl Try.underlying25 sz30 zr30 (by decide) bz30_1 rfl (.cons rfl (by first | rfl) (by rfl) (by repeat (first | exact Put.nil | apply Put.cons | apply Put.succ)) .nil) rfl rfl ?_)
  clear hf hS; intro b_2 a w hf hS
  refine step_l (st_append hf (Wn.none rfl) rfl rfl rfl Try.underlying25 tyb30 (by rfl) (by decide) hS (by repeat (first | exact Sel.head | apply Sel.tail)) (by first | exact hS.slOfBlk (by repeat (first | exact Sel.head | apply Sel.tail)) (by rfl) | exact hS.slOfBlkPre (by repeat (first | exact Sel.head | apply Sel.tail)) (bvs_len1 _) | exact hS.slOfRw (by repeat (first | exact Sel.head | apply Sel.tail)) | exact SlAt.nil _ _ _) (by first | rfl | exact bvs_one _ | (simp [Value.oneCell']; done)) (by have hl : ((upto i).map msgX).length = i := (by rw [List.length_map, upto_len]); omega) rfl rfl ?_)
  clear hf hS; intro pA capA a w hf hS hnilA
  refine aN hf hS ?_; clear hf; intro a hf
  refine done_l (b_normal (t_normal (c_region ?_)))
  refine sP hf hS ?_; clear hf; intro a hf
  refine mN hf hS ?_; clear hf; intro a hf
  refine done_l ?_
  have h2 : Sat W (Rw 30 10 pA (((upto i).map msgX).length + 1) capA (((upto i).map msgX).flatMap msgC ++ msgC (msgX i)) :: NetP 46 30 59 117 5 62 83 68 p [] 0 :: R) w := hS.subA; replace h2 := h2.rwCast (xs' := ((upto (i + 1)).map msgX).flatMap msgC) (len' := ((upto (i + 1)).map msgX).length) (by rw [upto_succ, List.map_append, List.flatMap_append]; rfl) (by simp [upto_len])
  refine t_normal ⟨(i + 1, pA, capA), (((hf.backA hk0).kb hf 15 rfl (by first | rfl | exact int_eq (by omega))).kb hf 4 rfl (by simp [upto_len])), ⟨(h2.subA), by omega⟩, by first | omega | (simp only []; omega)⟩
 clear hf; intro hc1 a hf
 obtain rfl : k = i := by omega
 refine done_l (t_normal (c_seq ?_))
 refine c_false hf rfl ?_
 refine c_exit (t_exit (t_exit (b_exit (t_normal (c_seq (c_region ?_))))))
 iterate 2 (refine mN hf hS ?_; clear hf; intro a hf)
 refine step_l (st_call hf (Wn.none rfl) rfl rfl rfl fn9 (NSend_c _ _ _ ((upto k).map msgX) _ _ (hS.selA) (fun _ h => msgsX (l := upto k) (h.slOfRw (by repeat (first | exact Sel.head | apply Sel.tail)))) ⟨by omega, by rw [List.length_map, upto_len]; omega⟩) rfl rfl ?_)
 clear hf hS; rintro v a w ⟨rfl, hS⟩ hf; rw [send_upto (by omega)] at hf hS; dsimp only at hf hS
 refine aN hf hS ?_; clear hf; intro a hf
 refine done_l (t_normal (c_seq (c_region ?_)))
 refine mN hf hS ?_; clear hf; intro a hf
 refine step_l (st_call hf (Wn.none rfl) rfl rfl rfl fn10 (NCopy_c _ _ _ _ (hS.selA)) rfl rfl ?_)
 clear hf hS; rintro v a w ⟨rfl, hS⟩ hf; rw [copy_upto (by omega)] at hf
 refine aN hf hS ?_; clear hf; intro a hf
 refine done_l (t_normal (c_seq (c_region ?_)))
 iterate 2 (refine mN hf hS ?_; clear hf; intro a hf)
 refine sR hf hS (rd_min hf rfl rfl rfl) ?_; clear hf; intro a hf
 refine sB hf hS (rd_eql hf rfl rfl rfl) ?_ ?_
 ·
  clear hf; intro hc4 a hf
  iterate 2 ((first | refine mN hf hS ?_ | refine step_l (st_rd hf (Wn.some hf rfl rfl rfl rfl) (rd_move hf rfl rfl) hS rfl rfl ?_)); clear hf; intro a hf)
  refine step_l (st_call hf (Wn.some hf rfl rfl rfl rfl) rfl rfl rfl fn11 (NLost_c _ _ _ (hS.selA)) rfl rfl ?_)
  clear hf hS; rintro v a w ⟨rfl, hS⟩ hf
  refine sG hf hS (rd_move hf rfl rfl) ?_; clear hf; intro a hf
  refine sG hf hS (rd_sub hf rfl rfl rfl (by first | exact Go.IntWalk.i64_in _ (by omega) | exact rfl)) ?_; clear hf; intro a hf
  refine sG hf hS (rd_max hf rfl rfl rfl) ?_; clear hf; intro a hf
  refine step_l (st_rdB hf (Wn.some hf rfl rfl rfl rfl) (rd_eql hf rfl rfl rfl) hS rfl rfl ?_ ?_)
  ·
   clear hf; intro hc5 a hf
   iterate 4 ((first | refine mN hf hS ?_ | refine step_l (st_rd hf (Wn.some hf rfl rfl rfl rfl) (rd_move hf rfl rfl) hS rfl rfl ?_) | refine pT hf hS ?_); clear hf; intro a hf)
   refine sG hf hS (rd_lss hf rfl rfl rfl) ?_; clear hf; intro a hf
   refine step_l (st_rdB hf (Wn.some hf rfl rfl rfl rfl) (rd_eqlBool hf rfl rfl rfl Try.underlying4) hS rfl rfl ?_ ?_)
   ·
    clear hf; intro hc6 a hf
    iterate 2 ((first | refine mN hf hS ?_ | refine pT hf hS ?_); clear hf; intro a hf)
    refine step_l (st_call hf (Wn.some hf rfl rfl rfl rfl) rfl rfl rfl fn12 (awake_c hS) rfl rfl ?_)
    clear hf hS; rintro v a w ⟨rfl, hS⟩ hf
    iterate 2 ((first | refine aN hf hS ?_ | refine pT hf hS ?_); clear hf; intro a hf)
    refine done_l (t_normal (c_ret ?_))
    refine eT hf ?_
    exact ⟨rfl, hS.subA⟩
   clear hf; intro hc6 a hf
   exact (hc6 rfl).elim
  clear hf; intro hc5 a hf
  exact absurd (by omega) hc5
 clear hf; intro hc4 a hf
 exact absurd (by omega) hc4

end Go.Proofs.Ytcflbdpjoanbgaa
