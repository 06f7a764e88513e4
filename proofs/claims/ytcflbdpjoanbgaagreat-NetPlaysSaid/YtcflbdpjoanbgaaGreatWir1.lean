/-
  Walked: Wir.
  Conditions: none.
-/
import Derived.Test.YtcflbdpjoanbgaaGreatFac1
namespace Go.Proofs.YtcflbdpjoanbgaaGreat
open Go Go.Sl
set_option linter.unusedVariables false
set_option linter.unusedSimpArgs false

theorem Clone_c (bs : List UInt8) (q0 : Option Addr) (n0 cap0 : Nat) {W : World} {R : List HP} {w : World} (hS : Sat W (R) w) (hn0 : n0 = bs.length) (hb : bs.length ≤ 140737488355328) (hv : ∀ w, Sat W R w → SlAt w q0 bs.length 1 (bvs bs)) : Calls Tryz.prog 76 [.slice q0 n0 cap0].toArray w (Ret fun v w' => ∃ q cap, v = .slice q (bs).length cap ∧ Sat W (Rw 5 1 q (bs).length cap (bvs (bs)) :: R) w') := by
 refine fn_start 8 Tryz.func76 rfl rfl rfl ?_
 intro a hf
 subst hn0
 refine c_seq (c_region ?_)
 refine aN hf hS ?_; clear hf; intro a hf
 refine done_l (t_normal (c_seq (c_seq (c_region ?_))))
 refine mN hf hS ?_; clear hf; intro a hf
 refine step_l (st_rdb hf (Wn.none rfl) (rd_eqlNilS hf rfl rfl rfl Tryz.underlying34) hS rfl rfl ?_ ?_)
 ·
  clear hf; intro hc1 a hf
  have hz : bs.length = 0 := (hv _ hS).len0 hc1
  refine done_l (t_normal ?_)
  refine c_true hf rfl ?_
  refine c_seq (c_region ?_)
  refine aN hf hS ?_; clear hf; intro a hf
  refine done_l (t_normal (c_ret (t_ret ?_)))
  refine eT hf ?_
  have hz2 : bs = [] := List.eq_nil_of_length_eq_zero hz; subst hz2; exact ⟨none, 0, rfl, hS.rwNil _ 1⟩
 clear hf; intro hc1 a hf
 refine done_l (t_normal ?_)
 refine c_false hf rfl ?_
 refine c_skip (t_normal (c_seq (c_region ?_)))
 refine step_l (st_buildRw hf (Wn.none rfl) hS rfl rfl Tryz.underlying34 sz5 zr5 (by decide) (by decide) bz5_0 rfl .nil rfl rfl rfl ?_)
 clear hf hS; intro b_2 a w hf hS
 refine mN hf hS ?_; clear hf; intro a hf
 refine step_l (st_append hf (Wn.none rfl) rfl rfl rfl Tryz.underlying34 tyb5 (by rfl) (by decide) hS (by repeat (first | exact Sel.head | apply Sel.tail)) (by first | exact hS.slOfBlk (by repeat (first | exact Sel.head | apply Sel.tail)) (by rfl) | exact hS.slOfBlkPre (by repeat (first | exact Sel.head | apply Sel.tail)) (bvs_len1 _) | exact hS.slOfRw (by repeat (first | exact Sel.head | apply Sel.tail)) | exact SlAt.nil _ _ _ | exact hv _ (hS.subA)) (by first | rfl | exact bvs_one _ | (simp [Value.oneCell']; done)) (by omega) rfl rfl ?_)
 clear hf hS; intro pA capA a w hf hS hnilA
 refine aN hf hS ?_; clear hf; intro a hf
 refine done_l (t_normal (c_ret ?_))
 refine eT hf ?_
 exact ⟨pA, capA, by rw [Nat.zero_add], (hS.rwCast (xs' := bvs bs) (by simp) (Nat.zero_add _)).subA⟩

theorem Wnum_c (n : Nat) {W : World} {R : List HP} {w : World} (hS : Sat W (R) w) (hn : n < 18446744073709551616) : Calls Tryz.prog 93 [.int .u64 (n : Nat)].toArray w (Ret fun v w' => ∃ q cap, v = .slice q (numB n).length cap ∧ Sat W (Rw 5 1 q (numB n).length cap (bvs (numB n)) :: R) w') := by
 refine fn_start 19 Tryz.func93 rfl rfl rfl ?_
 intro a hf
 refine c_seq (c_region ?_)
 refine aN hf hS ?_; clear hf; intro a hf
 refine done_l (t_normal (c_seq (c_region ?_)))
 refine aN hf hS ?_; clear hf; intro a hf
 refine done_l (t_normal (c_seq (c_block ?_)))
 refine c_loop (α := Nat × List UInt8 × Option Addr × Nat × Nat) (fun ⟨m, out, q, len, cap⟩ a w => Fits 19 a [(0, .int .u64 (m : Nat)), (3, .slice q len cap)] ∧ Sat W (Rw 5 1 q len cap (bvs out) :: R) w ∧ len = out.length ∧ m < 18446744073709551616 ∧ numB n = out ++ numB m) (fun ⟨m, out, q, len, cap⟩ => m) (n, [], none, 0, 0) ?_ ?_
 ·
  exact ⟨((hf.k0.kb hf 3 rfl (by rfl)).kb hf 0 rfl (by rfl)), (hS.rwNil 5 1).subA, ⟨rfl, hn, rfl⟩⟩
 ·
  clear hf hS; rintro ⟨m, out, q, len, cap⟩ a w ⟨hf, hS, ⟨hlen, hm, hnum⟩⟩
  have hl10 := numB_10 hn; have hlp := numB_pos m; rw [hnum, List.length_append] at hl10
  refine c_seq (c_seq (c_region ?_))
  refine mN hf hS ?_; clear hf; intro a hf
  refine sB hf hS (rd_geq hf rfl rfl rfl) ?_ ?_
  ·
   clear hf; intro hc1 a hf
   refine done_l (t_normal ?_)
   refine c_true hf rfl ?_
   refine c_skip (t_normal (c_block (c_seq (c_region ?_))))
   iterate 2 (refine mN hf hS ?_; clear hf; intro a hf)
   refine sR hf hS (rd_convInt hf rfl rfl Tryz.underlying67 Tryz.underlying5 (n8_of64 _)) ?_; clear hf; intro a hf
   refine sR hf hS (rd_or hf rfl rfl rfl (or128 _)) ?_; clear hf; intro a hf
   refine step_l (st_buildSlice hf (Wn.none rfl) hS rfl rfl Tryz.underlying34 sz5 zr5 (by decide) bz5_1 rfl (.cons rfl (by first | rfl) (by rfl) (by repeat (first | exact Put.nil | apply Put.cons | apply Put.succ)) .nil) rfl rfl ?_)
   clear hf hS; intro b_2 a w hf hS
   refine step_l (st_append hf (Wn.none rfl) rfl rfl rfl Tryz.underlying34 tyb5 (by rfl) (by decide) hS (by repeat (first | exact Sel.head | apply Sel.tail)) (by first | exact hS.slOfBlk (by repeat (first | exact Sel.head | apply Sel.tail)) (by rfl) | exact hS.slOfBlkPre (by repeat (first | exact Sel.head | apply Sel.tail)) (bvs_len1 _) | exact hS.slOfRw (by repeat (first | exact Sel.head | apply Sel.tail)) | exact SlAt.nil _ _ _) (by first | rfl | exact bvs_one _ | (simp [Value.oneCell']; done)) (by omega) rfl rfl ?_)
   clear hf hS; intro pA capA a w hf hS hnilA
   refine aN hf hS ?_; clear hf; intro a hf
   refine done_l (t_normal (c_region ?_))
   refine mN hf hS ?_; clear hf; intro a hf
   refine sR hf hS (rd_shr hf rfl rfl rfl (by first | decide | omega) (n64_shr 7 rfl (by decide))) ?_; clear hf; intro a hf
   refine aN hf hS ?_; clear hf; intro a hf
   refine done_l (b_normal ?_)
   refine t_normal ⟨(m / 2 ^ 7, out ++ [UInt8.ofNat (m % 128 + 128)], pA, len + 1, capA), ⟨((hf.k0.kb hf 3 rfl (by rfl)).kb hf 0 rfl (by rfl)), (hS.rwCast (xs' := bvs (out ++ [UInt8.ofNat (m % 128 + 128)])) (by simp) rfl).subA, ⟨by simp [hlen], by omega, by rw [hnum, numB_ge (by omega)]; simp⟩⟩, by first | omega | (simp only []; omega)⟩
  clear hf; intro hc1 a hf
  refine done_l (t_normal ?_)
  refine c_false hf rfl ?_
  refine c_exit (t_exit (t_exit (b_exit (t_normal (c_seq (c_region ?_))))))
  iterate 2 (refine mN hf hS ?_; clear hf; intro a hf)
  refine sR hf hS (rd_convInt hf rfl rfl Tryz.underlying67 Tryz.underlying5 (n8_of64 _)) ?_; clear hf; intro a hf
  refine step_l (st_buildSlice hf (Wn.none rfl) hS rfl rfl Tryz.underlying34 sz5 zr5 (by decide) bz5_1 rfl (.cons rfl (by first | rfl) (by rfl) (by repeat (first | exact Put.nil | apply Put.cons | apply Put.succ)) .nil) rfl rfl ?_)
  clear hf hS; intro b_4 a w hf hS
  refine step_l (st_append hf (Wn.none rfl) rfl rfl rfl Tryz.underlying34 tyb5 (by rfl) (by decide) hS (by repeat (first | exact Sel.head | apply Sel.tail)) (by first | exact hS.slOfBlk (by repeat (first | exact Sel.head | apply Sel.tail)) (by rfl) | exact hS.slOfBlkPre (by repeat (first | exact Sel.head | apply Sel.tail)) (bvs_len1 _) | exact hS.slOfRw (by repeat (first | exact Sel.head | apply Sel.tail)) | exact SlAt.nil _ _ _) (by first | rfl | exact bvs_one _ | (simp [Value.oneCell']; done)) (by omega) rfl rfl ?_)
  clear hf hS; intro pA capA a w hf hS hnilA
  refine aN hf hS ?_; clear hf; intro a hf
  refine done_l (t_normal (c_ret ?_))
  refine eT hf ?_
  have hfin : numB n = out ++ [UInt8.ofNat m] := by rw [hnum, numB_lt (by omega)]
  exact ⟨pA, capA, by rw [hfin, hlen]; simp, (hS.rwCast (xs' := bvs (numB n)) (by rw [hfin]; simp) (len' := (numB n).length) (by rw [hfin, hlen]; simp)).subA⟩

theorem Wput_c (p : Nat) (most : Int) (s : WS) (b : List UInt8) (qb : Option Addr) (nb cb : Nat) {W : World} {R : List HP} {w : World} (hS : Sat W (WrP 5 116 p most s :: R) w) (hm : 0 ≤ most ∧ most ≤ 9223372036854775807) (hr : most ≤ 140737488355328 ∨ s.1.length + b.length ≤ 140737488355328) (hnb : nb = b.length) (hv : ∀ w, Sat W R w → SlAt w qb b.length 1 (bvs b)) : Calls Tryz.prog 92 [.pointer (some ⟨p, 0, none⟩), .slice qb nb cb].toArray w (Ret fun v w' => v = .tuple #[] ∧ Sat W (WrP 5 116 p most (wput most s b) :: R) w') := by
 refine fn_start 41 Tryz.func92 rfl rfl rfl ?_
 intro a hf
 subst hnb; obtain ⟨bs, lg⟩ := s; obtain ⟨q, cap, hS⟩ := wr_open hS; have hL := hS.rwLen (.tail .head); simp only [maxLen] at hL hr; dsimp only at hr hS hL
 refine c_seq (c_seq ?_)
 refine any_begin mixed hS.drew ?_
 replace hS := hS.drew
 have hT := hS
 refine any_takeA (i := 0) hf rfl (Wn.none rfl) (rd_move hf rfl rfl) hT rfl rfl ?_; clear hf; intro a hf
 refine any_takeb (i := 1) hf rfl (by kernel_rfl) (by kernel_rfl) (by kernel_rfl) (fun _ _ _ _ h => h) (Wn.none rfl) (rd_eqlNilP hf rfl rfl rfl Tryz.underlying88) hT rfl rfl ?_ ?_
 ·
  clear hf; intro hc1 a hf
  exact Bool.noConfusion hc1
 clear hf; intro hc1 a hf
 refine any_takeA (i := 2) hf rfl (Wn.none rfl) (rd_move hf rfl rfl) hT rfl rfl ?_; clear hf; intro a hf
 refine any_takeA (i := 3) hf rfl (Wn.some hf rfl rfl rfl rfl) (rd_move hf rfl rfl) hT rfl rfl ?_; clear hf; intro a hf
 refine any_takeA (i := 4) hf rfl (Wn.some hf rfl rfl rfl rfl) (rd_nilCheck hf rfl rfl) hT rfl rfl ?_; clear hf; intro a hf
 refine any_takeA (i := 5) hf rfl (Wn.some hf rfl rfl rfl rfl) (rd_fieldAddrB hf rfl rfl fb116_2 rfl) hT rfl rfl ?_; clear hf; intro a hf
 refine any_takeb (i := 6) hf rfl (by kernel_rfl) (by kernel_rfl) (by kernel_rfl) (fun _ _ _ _ h => h) (Wn.some hf rfl rfl rfl rfl) (rd_ld hf ag4) hT rfl rfl ?_ ?_
 ·
  clear hf; intro hc2 a hf
  refine any_takeA (i := 7) hf rfl (Wn.none rfl) (rd_pick_f hf rfl rfl rfl) hT rfl rfl ?_; clear hf; intro a hf
  refine any_takeA (i := 8) hf rfl (Wn.none rfl) (rd_move hf rfl rfl) hT rfl rfl ?_; clear hf; intro a hf
  refine yS (i := 9) hf hT ?_; clear hf; intro a hf
  refine yS (i := 10) hf hT ?_; clear hf; intro a hf
  refine yS (i := 11) hf hT ?_; clear hf; intro a hf
  refine yS (i := 12) hf hT ?_; clear hf; intro a hf
  refine yS (i := 13) hf hT ?_; clear hf; intro a hf
  refine yS (i := 14) hf hT ?_; clear hf; intro a hf
  refine yS (i := 15) hf hT ?_; clear hf; intro a hf
  refine yS (i := 16) hf hT ?_; clear hf; intro a hf
  refine yS (i := 17) hf hT ?_; clear hf; intro a hf
  refine yS (i := 18) hf hT ?_; clear hf; intro a hf
  refine yS (i := 19) hf hT ?_; clear hf; intro a hf
  refine yS (i := 20) hf hT ?_; clear hf; intro a hf
  refine yS (i := 21) hf hT ?_; clear hf; intro a hf
  refine any_takeA (i := 22) hf rfl (Wn.none rfl) (rd_pick_t hf rfl rfl rfl) hT rfl rfl ?_; clear hf; intro a hf
  refine any_done (by kernel_rfl) ?_
  refine t_normal ?_
  refine c_true hf rfl ?_
  refine c_seq (c_seq (c_region ?_))
  refine mN hf hS ?_; clear hf; intro a hf
  refine step_l (st_rdb hf (Wn.none rfl) (rd_neqNilP hf rfl rfl rfl Tryz.underlying88) hS rfl rfl ?_ ?_)
  ·
   clear hf; intro hc3 a hf
   refine done_l (t_normal ?_)
   refine c_true hf rfl ?_
   refine c_region ?_
   refine mN hf hS ?_; clear hf; intro a hf
   refine nC hf hS ?_; clear hf; intro a hf
   refine fA hf hS fb116_2 ?_; clear hf; intro a hf
   refine sS hf hS sz4 ?_
   clear hf hS; intro a w hf hS
   refine done_l (t_normal (c_ret (t_ret ?_)))
   refine e_none hf rfl ?_
   exact ⟨rfl, wr_shut (s := wput most (bs, lg) b) hS (by first | rw [wput_bad (by assumption)] | rw [wput_no (by dsimp only; omega)]) (by first | rw [wput_bad (by assumption)] | rw [wput_no (by dsimp only; omega)]) (by first | rw [wput_bad (by assumption)] | rw [wput_no (by dsimp only; omega)])⟩
  clear hf; intro hc3 a hf
  exact Bool.noConfusion hc3
 clear hf; intro hc2 a hf
 refine any_takeA (i := 7) hf rfl (Wn.none rfl) (rd_pick_f hf rfl rfl rfl) hT rfl rfl ?_; clear hf; intro a hf
 refine any_takeA (i := 8) hf rfl (Wn.none rfl) (rd_move hf rfl rfl) hT rfl rfl ?_; clear hf; intro a hf
 refine any_takeA (i := 9) hf rfl (Wn.some hf rfl rfl rfl rfl) (rd_move hf rfl rfl) hT rfl rfl ?_; clear hf; intro a hf
 refine any_takeA (i := 10) hf rfl (Wn.some hf rfl rfl rfl rfl) (rd_len hf rfl rfl Tryz.underlying34) hT rfl rfl ?_; clear hf; intro a hf
 refine any_takeA (i := 11) hf rfl (Wn.some hf rfl rfl rfl rfl) (rd_move hf rfl rfl) hT rfl rfl ?_; clear hf; intro a hf
 refine any_takeA (i := 12) hf rfl (Wn.some hf rfl rfl rfl rfl) (rd_nilCheck hf rfl rfl) hT rfl rfl ?_; clear hf; intro a hf
 refine any_takeA (i := 13) hf rfl (Wn.some hf rfl rfl rfl rfl) (rd_fieldAddrB hf rfl rfl fb116_1 rfl) hT rfl rfl ?_; clear hf; intro a hf
 refine any_takeA (i := 14) hf rfl (Wn.some hf rfl rfl rfl rfl) (rd_ld hf ag3) hT rfl rfl ?_; clear hf; intro a hf
 refine any_takeA (i := 15) hf rfl (Wn.some hf rfl rfl rfl rfl) (rd_move hf rfl rfl) hT rfl rfl ?_; clear hf; intro a hf
 refine any_takeA (i := 16) hf rfl (Wn.some hf rfl rfl rfl rfl) (rd_nilCheck hf rfl rfl) hT rfl rfl ?_; clear hf; intro a hf
 refine any_takeA (i := 17) hf rfl (Wn.some hf rfl rfl rfl rfl) (rd_fieldAddrB hf rfl rfl fb116_0 rfl) hT rfl rfl ?_; clear hf; intro a hf
 refine any_takeA (i := 18) hf rfl (Wn.some hf rfl rfl rfl rfl) (rd_ld hf ag34) hT rfl rfl ?_; clear hf; intro a hf
 refine any_takeA (i := 19) hf rfl (Wn.some hf rfl rfl rfl rfl) (rd_len hf rfl rfl Tryz.underlying34) hT rfl rfl ?_; clear hf; intro a hf
 refine any_takeA (i := 20) hf rfl (Wn.some hf rfl rfl rfl rfl) (rd_sub hf rfl rfl rfl (by first | exact Go.IntWalk.i64_in _ (by omega) | exact rfl)) hT rfl rfl ?_; clear hf; intro a hf
 refine any_takeB (i := 21) hf rfl (by kernel_rfl) (by kernel_rfl) (by kernel_rfl) (fun _ _ _ _ h => h) (Wn.some hf rfl rfl rfl rfl) (rd_gtr hf rfl rfl rfl) hT rfl rfl ?_ ?_
 ·
  clear hf; intro hc4 a hf
  refine any_takeA (i := 22) hf rfl (Wn.none rfl) (rd_pick_f hf rfl rfl rfl) hT rfl rfl ?_; clear hf; intro a hf
  refine any_done (by kernel_rfl) ?_
  refine t_normal ?_
  refine c_true hf rfl ?_
  refine c_seq (c_seq (c_region ?_))
  refine mN hf hS ?_; clear hf; intro a hf
  refine step_l (st_rdb hf (Wn.none rfl) (rd_neqNilP hf rfl rfl rfl Tryz.underlying88) hS rfl rfl ?_ ?_)
  ·
   clear hf; intro hc5 a hf
   refine done_l (t_normal ?_)
   refine c_true hf rfl ?_
   refine c_region ?_
   refine mN hf hS ?_; clear hf; intro a hf
   refine nC hf hS ?_; clear hf; intro a hf
   refine fA hf hS fb116_2 ?_; clear hf; intro a hf
   refine sS hf hS sz4 ?_
   clear hf hS; intro a w hf hS
   refine done_l (t_normal (c_ret (t_ret ?_)))
   refine e_none hf rfl ?_
   exact ⟨rfl, wr_shut (s := wput most (bs, lg) b) hS (by first | rw [wput_bad (by assumption)] | rw [wput_no (by dsimp only; omega)]) (by first | rw [wput_bad (by assumption)] | rw [wput_no (by dsimp only; omega)]) (by first | rw [wput_bad (by assumption)] | rw [wput_no (by dsimp only; omega)])⟩
  clear hf; intro hc5 a hf
  exact Bool.noConfusion hc5
 clear hf; intro hc4 a hf
 refine any_takeA (i := 22) hf rfl (Wn.none rfl) (rd_pick_f hf rfl rfl rfl) hT rfl rfl ?_; clear hf; intro a hf
 refine any_done (by kernel_rfl) ?_
 refine t_normal ?_
 refine c_false hf rfl ?_
 refine c_skip (t_normal (c_region ?_))
 iterate 2 (refine mN hf hS ?_; clear hf; intro a hf)
 refine nC hf hS ?_; clear hf; intro a hf
 refine fA hf hS fb116_0 ?_; clear hf; intro a hf
 refine sR hf hS (rd_ld hf ag34) ?_; clear hf; intro a hf
 refine mN hf hS ?_; clear hf; intro a hf
 refine step_l (st_append hf (Wn.none rfl) rfl rfl rfl Tryz.underlying34 tyb5 (by rfl) (by decide) hS (by repeat (first | exact Sel.head | apply Sel.tail)) (by first | exact hS.slOfBlk (by repeat (first | exact Sel.head | apply Sel.tail)) (by rfl) | exact hS.slOfBlkPre (by repeat (first | exact Sel.head | apply Sel.tail)) (bvs_len1 _) | exact hS.slOfRw (by repeat (first | exact Sel.head | apply Sel.tail)) | exact SlAt.nil _ _ _ | exact hv _ (hS.subA)) (by first | rfl | exact bvs_one _ | (simp [Value.oneCell']; done)) (by omega) rfl rfl ?_)
 clear hf hS; intro pA capA a w hf hS hnilA
 refine nC hf hS ?_; clear hf; intro a hf
 refine fA hf hS fb116_0 ?_; clear hf; intro a hf
 refine sS hf hS sz34 ?_
 clear hf hS; intro a w hf hS
 refine done_l ?_
 refine e_none' hf rfl ?_
 exact ⟨rfl, wr_shut (s := wput most (bs, lg) b) (q := pA) (cap := capA) hS (by rw [wput_yes (by assumption) (by dsimp only; omega)]; simp) (by rw [wput_yes (by assumption) (by dsimp only; omega)]; simp) (by rw [wput_yes (by assumption) (by dsimp only; omega)]; first | rfl | assumption)⟩

theorem WNum_c (p : Nat) (most : Int) (s : WS) (n : Nat) {W : World} {R : List HP} {w : World} (hS : Sat W (WrP 5 116 p most s :: R) w) (hm : 0 ≤ most ∧ most ≤ 9223372036854775807) (hr : most ≤ 140737488355328 ∨ s.1.length + (numB n).length ≤ 140737488355328) (hn : n < 18446744073709551616) : Calls Tryz.prog 70 [.pointer (some ⟨p, 0, none⟩), .int .u64 (n : Nat)].toArray w (Ret fun v w' => v = .tuple #[] ∧ Sat W (WrP 5 116 p most (wput most s (numB n)) :: R) w') := by
 refine fn_start 8 Tryz.func70 rfl rfl rfl ?_
 intro a hf
 refine c_region ?_
 iterate 2 (refine mN hf hS ?_; clear hf; intro a hf)
 refine step_l (st_call hf (Wn.none rfl) rfl rfl rfl fn93 (Wnum_c _ hS (by first | assumption | exact zz_lt (by assumption) | omega)) rfl rfl ?_)
 clear hf hS; rintro v a w ⟨qn_1, capn_1, rfl, hS⟩ hf
 refine step_l (st_call hf (Wn.none rfl) rfl rfl rfl fn92 (Wput_c _ _ _ _ _ _ _ (hS.selA) (by first | assumption | exact ⟨by omega, by omega⟩) (by first | assumption | exact .inl (by omega) | exact .inr (by omega)) rfl (fun _ h => h.slOfRw (by repeat (first | exact Sel.head | apply Sel.tail)))) rfl rfl ?_)
 clear hf hS; rintro v a w ⟨rfl, hS⟩ hf
 refine done_l ?_
 refine e_none' hf rfl ?_
 exact ⟨rfl, hS.subA⟩

theorem WInt_c (p : Nat) (most : Int) (s : WS) (n : Int) {W : World} {R : List HP} {w : World} (hS : Sat W (WrP 5 116 p most s :: R) w) (hm : 0 ≤ most ∧ most ≤ 9223372036854775807) (hr : most ≤ 140737488355328 ∨ s.1.length + (numB (zz n)).length ≤ 140737488355328) (hn : -9223372036854775808 ≤ n ∧ n ≤ 9223372036854775807) : Calls Tryz.prog 71 [.pointer (some ⟨p, 0, none⟩), .int .i64 n].toArray w (Ret fun v w' => v = .tuple #[] ∧ Sat W (WrP 5 116 p most (wput most s (numB (zz n))) :: R) w') := by
 refine fn_start 14 Tryz.func71 rfl rfl rfl ?_
 intro a hf
 refine c_region ?_
 iterate 2 (refine mN hf hS ?_; clear hf; intro a hf)
 refine sR hf hS (rd_convInt hf rfl rfl Tryz.underlying2 Tryz.underlying67 rfl) ?_; clear hf; intro a hf
 refine sR hf hS (rd_shl hf rfl rfl rfl (by first | decide | omega) rfl) ?_; clear hf; intro a hf
 refine mN hf hS ?_; clear hf; intro a hf
 refine sR hf hS (rd_shr hf rfl rfl rfl (by first | decide | omega) rfl) ?_; clear hf; intro a hf
 refine sR hf hS (rd_convInt hf rfl rfl Tryz.underlying2 Tryz.underlying67 rfl) ?_; clear hf; intro a hf
 refine sR hf hS (rd_xor hf rfl rfl rfl (zz_val hn)) ?_; clear hf; intro a hf
 refine step_l (st_call hf (Wn.none rfl) rfl rfl rfl fn93 (Wnum_c _ hS (by first | assumption | exact zz_lt (by assumption) | omega)) rfl rfl ?_)
 clear hf hS; rintro v a w ⟨qn_1, capn_1, rfl, hS⟩ hf
 refine step_l (st_call hf (Wn.none rfl) rfl rfl rfl fn92 (Wput_c _ _ _ _ _ _ _ (hS.selA) (by first | assumption | exact ⟨by omega, by omega⟩) (by first | assumption | exact .inl (by omega) | exact .inr (by omega)) rfl (fun _ h => h.slOfRw (by repeat (first | exact Sel.head | apply Sel.tail)))) rfl rfl ?_)
 clear hf hS; rintro v a w ⟨rfl, hS⟩ hf
 refine done_l ?_
 refine e_none' hf rfl ?_
 exact ⟨rfl, hS.subA⟩

theorem WText_c (p : Nat) (most : Int) (s : WS) (b : List UInt8) (qb : Option Addr) (nb cb : Nat) {W : World} {R : List HP} {w : World} (hS : Sat W (WrP 5 116 p most s :: R) w) (hm : 0 ≤ most ∧ most ≤ 9223372036854775807) (hr : most ≤ 140737488355328 ∨ s.1.length + (textB b).length ≤ 140737488355328) (hnb : nb = b.length) (hb : b.length ≤ 140737488355300) (hv : ∀ w, Sat W R w → SlAt w qb b.length 1 (bvs b)) : Calls Tryz.prog 72 [.pointer (some ⟨p, 0, none⟩), .slice qb nb cb].toArray w (Ret fun v w' => v = .tuple #[] ∧ Sat W (WrP 5 116 p most (wput most s (textB b)) :: R) w') := by
 refine fn_start 12 Tryz.func72 rfl rfl rfl ?_
 intro a hf
 subst hnb; have hb10 := numB_10 (n := b.length) (by omega)
 refine c_region ?_
 iterate 2 (refine mN hf hS ?_; clear hf; intro a hf)
 refine sR hf hS (rd_len hf rfl rfl Tryz.underlying34) ?_; clear hf; intro a hf
 refine sR hf hS (rd_convInt hf rfl rfl Tryz.underlying3 Tryz.underlying67 (wrap64 (by omega))) ?_; clear hf; intro a hf
 refine step_l (st_call hf (Wn.none rfl) rfl rfl rfl fn93 (Wnum_c _ hS (by first | assumption | exact zz_lt (by assumption) | omega)) rfl rfl ?_)
 clear hf hS; rintro v a w ⟨qn_1, capn_1, rfl, hS⟩ hf
 refine mN hf hS ?_; clear hf; intro a hf
 refine step_l (st_append hf (Wn.none rfl) rfl rfl rfl Tryz.underlying34 tyb5 (by rfl) (by decide) hS (by repeat (first | exact Sel.head | apply Sel.tail)) (by first | exact hS.slOfBlk (by repeat (first | exact Sel.head | apply Sel.tail)) (by rfl) | exact hS.slOfBlkPre (by repeat (first | exact Sel.head | apply Sel.tail)) (bvs_len1 _) | exact hS.slOfRw (by repeat (first | exact Sel.head | apply Sel.tail)) | exact SlAt.nil _ _ _ | exact hv _ (hS.subA)) (by first | rfl | exact bvs_one _ | (simp [Value.oneCell']; done)) (by omega) rfl rfl ?_)
 clear hf hS; intro pA capA a w hf hS hnilA; replace hS := hS.rwCast (xs' := bvs (textB b)) (len' := (textB b).length) (by simp [textB]) (by simp [textB])
 refine step_l (st_call hf (Wn.none rfl) rfl rfl rfl fn92 (Wput_c _ _ _ (textB b) _ _ _ (hS.selA) (by first | assumption | exact ⟨by omega, by omega⟩) (by first | assumption | exact .inl (by omega) | exact .inr (by omega)) (by simp [textB]) (fun _ h => h.slOfRw (by repeat (first | exact Sel.head | apply Sel.tail)))) rfl rfl ?_)
 clear hf hS; rintro v a w ⟨rfl, hS⟩ hf
 refine done_l ?_
 refine e_none' hf rfl ?_
 exact ⟨rfl, hS.subA⟩

theorem WFlag_c (p : Nat) (most : Int) (s : WS) (b : Bool) {W : World} {R : List HP} {w : World} (hS : Sat W (WrP 5 116 p most s :: R) w) (hm : 0 ≤ most ∧ most ≤ 9223372036854775807) (hr : most ≤ 140737488355328 ∨ s.1.length + 1 ≤ 140737488355328) : Calls Tryz.prog 107 [.pointer (some ⟨p, 0, none⟩), .bool b].toArray w (Ret fun v w' => v = .tuple #[] ∧ Sat W (WrP 5 116 p most (wput most s (flagB b)) :: R) w') := by
 refine fn_start 11 Tryz.func107 rfl rfl rfl ?_
 intro a hf
 refine c_seq (c_region ?_)
 refine step_l (st_rdb hf (Wn.none rfl) (rd_move hf rfl rfl) hS rfl rfl ?_ ?_)
 ·
  clear hf; intro hc1 a hf
  subst hc1
  refine done_l (t_normal ?_)
  refine c_true hf rfl ?_
  refine c_region ?_
  refine mN hf hS ?_; clear hf; intro a hf
  refine step_l (st_buildSlice hf (Wn.none rfl) hS rfl rfl Tryz.underlying34 sz5 zr5 (by decide) bz5_1 rfl (.cons rfl (by first | rfl) (by rfl) (by repeat (first | exact Put.nil | apply Put.cons | apply Put.succ)) .nil) rfl rfl ?_)
  clear hf hS; intro b_2 a w hf hS
  refine step_l (st_call hf (Wn.none rfl) rfl rfl rfl fn92 (Wput_c _ _ _ (flagB true) _ _ _ (hS.selA) (by first | assumption | exact ⟨by omega, by omega⟩) (by first | assumption | exact .inl (by omega) | exact .inr (by omega)) rfl (fun _ h => h.slOfBlk (by repeat (first | exact Sel.head | apply Sel.tail)) (by rfl))) rfl rfl ?_)
  clear hf hS; rintro v a w ⟨rfl, hS⟩ hf
  refine done_l ?_
  refine e_none' hf rfl ?_
  exact ⟨rfl, hS.subA⟩
 clear hf; intro hc1 a hf
 subst hc1
 refine done_l (t_normal ?_)
 refine c_false hf rfl ?_
 refine c_region ?_
 refine mN hf hS ?_; clear hf; intro a hf
 refine step_l (st_buildSlice hf (Wn.none rfl) hS rfl rfl Tryz.underlying34 sz5 zr5 (by decide) bz5_1 rfl (.cons rfl (by first | rfl) (by rfl) (by repeat (first | exact Put.nil | apply Put.cons | apply Put.succ)) .nil) rfl rfl ?_)
 clear hf hS; intro b_3 a w hf hS
 refine step_l (st_call hf (Wn.none rfl) rfl rfl rfl fn92 (Wput_c _ _ _ (flagB false) _ _ _ (hS.selA) (by first | assumption | exact ⟨by omega, by omega⟩) (by first | assumption | exact .inl (by omega) | exact .inr (by omega)) rfl (fun _ h => h.slOfBlk (by repeat (first | exact Sel.head | apply Sel.tail)) (by rfl))) rfl rfl ?_)
 clear hf hS; rintro v a w ⟨rfl, hS⟩ hf
 refine done_l ?_
 refine e_none' hf rfl ?_
 exact ⟨rfl, hS.subA⟩

theorem NewWriter_c (most : Int) {W : World} {R : List HP} {w : World} (hS : Sat W (R) w)  : Calls Tryz.prog 40 [.int .i64 most].toArray w (Ret fun v w' => ∃ p, v = .pointer (some ⟨p, 0, none⟩) ∧ Sat W (WrP 5 116 p (max 0 most) ([], false) :: R) w') := by
 refine fn_start 7 Tryz.func40 rfl rfl rfl ?_
 intro a hf
 refine c_seq (c_region ?_)
 refine aN hf hS ?_; clear hf; intro a hf
 refine done_l (t_normal (c_seq (c_region ?_)))
 refine mN hf hS ?_; clear hf; intro a hf
 refine sR hf hS (rd_max hf rfl rfl rfl) ?_; clear hf; intro a hf
 refine sR hf hS (rd_build hf rfl rfl zr116 (by rfl) pl116 (.cons rfl (by first | rfl) (by rfl) (by repeat (first | exact Put.nil | apply Put.cons | apply Put.succ)) .nil)) ?_; clear hf; intro a hf
 refine step_l (st_box hf (Wn.none rfl) hS rfl rfl (by rfl) rfl rfl ?_)
 clear hf hS; intro b_1 a w hf hS
 refine aN hf hS ?_; clear hf; intro a hf
 refine done_l (t_normal (c_ret ?_))
 refine eT hf ?_
 exact ⟨b_1, rfl, wr_shut (s := ([], false)) (q := none) (n := 0) (cap := 0) ((hS.rwNil 5 1).sub (.cons (.tail .head) (.cons .head .refl))) rfl rfl rfl⟩

theorem Done_c (p : Nat) (most : Int) (s : WS) {W : World} {R : List HP} {w : World} (hS : Sat W (WrP 5 116 p most s :: R) w) (hr : s.1.length ≤ 140737488355328) : Calls Tryz.prog 42 [.pointer (some ⟨p, 0, none⟩)].toArray w (Ret fun v w' => ∃ q cap, v = .tuple #[.slice q (doneB s).length cap, .int .i64 (doneE s)] ∧ Sat W (Rw 5 1 q (doneB s).length cap (bvs (doneB s)) :: WrP 5 116 p most s :: R) w') := by
 refine fn_start 17 Tryz.func42 rfl rfl rfl ?_
 intro a hf
 obtain ⟨bs, lg⟩ := s; obtain ⟨q, cap, hS⟩ := wr_open hS; dsimp only at hr hS
 refine c_seq (c_region ?_)
 iterate 2 (refine aN hf hS ?_; clear hf; intro a hf)
 refine done_l (t_normal (c_seq (c_block (c_seq (c_region ?_)))))
 refine mN hf hS ?_; clear hf; intro a hf
 refine step_l (st_rdb hf (Wn.none rfl) (rd_eqlNilP hf rfl rfl rfl Tryz.underlying88) hS rfl rfl ?_ ?_)
 ·
  clear hf; intro hc1 a hf
  exact Bool.noConfusion hc1
 clear hf; intro hc1 a hf
 refine aN hf hS ?_; clear hf; intro a hf
 refine done_l (t_normal ?_)
 refine c_false hf rfl ?_
 refine c_seq (c_region ?_)
 refine mN hf hS ?_; clear hf; intro a hf
 refine nC hf hS ?_; clear hf; intro a hf
 refine fA hf hS fb116_2 ?_; clear hf; intro a hf
 refine step_l (st_rdb hf (Wn.none rfl) (rd_ld hf ag4) hS rfl rfl ?_ ?_)
 ·
  clear hf; intro hc2 a hf
  subst hc2
  refine aN hf hS ?_; clear hf; intro a hf
  refine done_l (t_normal ?_)
  refine c_true hf rfl ?_
  refine c_seq (c_region ?_)
  iterate 2 (refine aN hf hS ?_; clear hf; intro a hf)
  refine done_l (t_normal (c_ret (b_ret (t_ret ?_))))
  refine e_resN hf.defers rfl (res_tmp hf rfl (res_tmp hf rfl .nil)) ?_
  exact ⟨none, 0, rfl, (wr_shut (s := (bs, true)) hS rfl rfl rfl).rwNil _ 1⟩
 clear hf; intro hc2 a hf
 subst hc2
 refine aN hf hS ?_; clear hf; intro a hf
 refine done_l (t_normal ?_)
 refine c_false hf rfl ?_
 refine c_skip (b_normal (t_normal (c_seq (c_region ?_))))
 refine mN hf hS ?_; clear hf; intro a hf
 refine nC hf hS ?_; clear hf; intro a hf
 refine fA hf hS fb116_0 ?_; clear hf; intro a hf
 refine sR hf hS (rd_ld hf ag34) ?_; clear hf; intro a hf
 refine step_l (st_call hf (Wn.none rfl) rfl rfl rfl fn76 (Clone_c bs _ _ _ hS rfl (by omega) (fun _ h => h.slOfRw (by repeat (first | exact Sel.head | apply Sel.tail)))) rfl rfl ?_)
 clear hf hS; rintro v a w ⟨qc_3, capc_3, rfl, hS⟩ hf
 iterate 2 (refine aN hf hS ?_; clear hf; intro a hf)
 refine done_l (t_normal (c_ret ?_))
 refine e_resN hf.defers rfl (res_tmp hf rfl (res_tmp hf rfl .nil)) ?_
 exact ⟨_, _, rfl, (wr_shut (s := (bs, false)) (q := q) (cap := cap) (hS.sub (.cons (.tail .head) (.cons (.tail .head) .refl))) rfl rfl rfl).sub (.cons (.tail .head) .refl)⟩

end Go.Proofs.YtcflbdpjoanbgaaGreat
