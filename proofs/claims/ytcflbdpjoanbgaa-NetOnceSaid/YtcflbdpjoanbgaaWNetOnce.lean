/-
  The statement NetOnce, walked.
  Conditions: none.
-/
import Derived.Test.YtcflbdpjoanbgaaNla1
import Derived.Test.YtcflbdpjoanbgaaNt2
namespace Go.Proofs.Ytcflbdpjoanbgaa
open Go Go.Sl
set_option linter.unusedVariables false
set_option linter.unusedSimpArgs false
theorem fn12 : fnB Try.prog 12 = true := by kernel_rfl
theorem fn16 : fnB Try.prog 16 = true := by kernel_rfl
theorem fn19 : fnB Try.prog 19 = true := by kernel_rfl
theorem tyb3 : TyB Try.prog 3 (.int .i64 0) 1 8 := by unfold TyB; kernel_rfl
set_option maxRecDepth 100000 in
set_option maxHeartbeats 4000000 in
theorem NetOnce_c (k0 : Int) (lt lc : List Int) (qt qc : Option Addr) (ct cc : Nat) {W : World} {R : List HP} {w : World} (hS : Sat W (R) w) (hnt : lt.length ≤ 9223372036854775807) (hnc : lc.length ≤ 9223372036854775807) (hvt : ∀ w, Sat W R w → SlAt w qt lt.length 1 (lt.flatMap fun n : Int => [.int .i64 n])) (hvc : ∀ w, Sat W R w → SlAt w qc lc.length 1 (lc.flatMap fun n : Int => [.int .i64 n])) : Calls Try.prog 5 [.int .i64 k0, .slice qt lt.length ct, .slice qc lc.length cc].toArray w (Ret fun v w' => v = .bool true ∧ Sat W R w') := by
 refine fn_start 199 Try.func5 rfl rfl rfl ?_
 intro a hf
 refine c_seq (c_region ?_)
 refine aN hf hS ?_; clear hf; intro a hf
 refine done_l (t_normal (c_seq (c_region ?_)))
 refine step_l (st_call hf (Wn.none rfl) rfl rfl rfl fn7 (NNew_c hS) rfl rfl ?_)
 clear hf hS; rintro v a w ⟨p, rfl, hS⟩ hf
 refine aN hf hS ?_; clear hf; intro a hf
 refine done_l (t_normal (c_seq (c_region ?_)))
 refine mN hf hS ?_; clear hf; intro a hf
 refine sR hf hS (rd_convInt hf rfl rfl Try.underlying3 Try.underlying24 rfl) ?_; clear hf; intro a hf
 refine sR hf hS (rd_rem hf rfl rfl rfl (by first | decide | omega) rfl) ?_; clear hf; intro a hf
 refine sR hf hS (rd_convInt hf rfl rfl Try.underlying24 Try.underlying3 rfl) ?_; clear hf; intro a hf
 refine aN hf hS ?_; clear hf; intro a hf
 refine done_l ?_
 obtain ⟨k, hkx, hke⟩ := wrap_tmod0 k0 60 (by decide); rw [hke] at hf
 refine t_normal (c_seq (c_region ?_))
 refine aN hf hS ?_; clear hf; intro a hf
 refine done_l (t_normal (c_seq (c_seq (c_region ?_))))
 iterate 2 (refine mN hf hS ?_; clear hf; intro a hf)
 refine done_l (t_normal (c_block ?_))
 have hk0 := Keep.ofA hf [(8, 9), (31, 39)]
 refine c_loopK hk0 (α := Nat × Option Addr × Nat) (fun ⟨i, q, cap⟩ => [(8, .slice q ((upto i).map msgX).length cap), (31, .int .i64 (i : Nat))]) (fun ⟨i, q, cap⟩ w => Sat W (Rw 30 10 q ((upto i).map msgX).length cap (((upto i).map msgX).flatMap msgC) :: NetP 46 30 59 117 5 62 83 68 p [] 0 :: R) w ∧ i ≤ k) (fun ⟨i, q, cap⟩ => k - i) (0, none, 0) (((hf.keep hk0).kb hf 31 rfl (by first | rfl | exact int_eq (by omega))).kb hf 8 rfl (by first | rfl | exact int_eq (by omega))) ⟨(hS.rwNil 30 10).subA, by omega⟩ ?_
 clear hf hS; rintro ⟨i, q, cap⟩ a w hf ⟨hS, hik⟩; (try dsimp only [List.cons_append, List.nil_append] at hf)
 refine c_seq (c_region ?_)
 refine sB hf hS (rd_lss hf rfl rfl rfl) ?_ ?_
 ·
  clear hf; intro hc1 a hf
  refine done_l (t_normal (c_seq ?_))
  refine c_true hf rfl ?_
  refine c_skip (t_normal (c_seq (c_block (c_seq (c_region ?_)))))
  iterate 2 ((first | refine mN hf hS ?_ | refine aN hf hS ?_); clear hf; intro a hf)
  refine done_l (t_normal (c_region ?_))
  iterate 2 (refine mN hf hS ?_; clear hf; intro a hf)
  refine step_l (st_call hf (Wn.none rfl) rfl rfl rfl fn8 (msg_c _ hS) rfl rfl ?_)
  clear hf hS; rintro v a w ⟨rfl, hS⟩ hf
  refine step_l (st_buildSlice hf (Wn.none rfl) hS rfl rfl Try.underlying25 sz30 zr30 (by decide) bz30_1 rfl (.cons rfl (by first | rfl) (by rfl) (by repeat (first | exact Put.nil | apply Put.cons | apply Put.succ)) .nil) rfl rfl ?_)
  clear hf hS; intro b_2 a w hf hS
  refine step_l (st_append hf (Wn.none rfl) rfl rfl rfl Try.underlying25 tyb30 (by rfl) (by decide) hS (by repeat (first | exact Sel.head | apply Sel.tail)) (by first | exact hS.slOfBlk (by repeat (first | exact Sel.head | apply Sel.tail)) (by rfl) | exact hS.slOfBlkPre (by repeat (first | exact Sel.head | apply Sel.tail)) (bvs_len1 _) | exact hS.slOfRw (by repeat (first | exact Sel.head | apply Sel.tail)) | exact SlAt.nil _ _ _) (by first | rfl | exact bvs_one _ | (simp [Value.oneCell']; done)) (by have hl : ((upto i).map msgX).length = i := (by rw [List.length_map, upto_len]); omega) rfl rfl ?_)
  clear hf hS; intro pA capA a w hf hS hnilA
  refine aN hf hS ?_; clear hf; intro a hf
  refine done_l (b_normal (t_normal (c_region ?_)))
  refine sP hf hS ?_; clear hf; intro a hf
  refine mN hf hS ?_; clear hf; intro a hf
  refine done_l ?_
  have h2 : Sat W (Rw 30 10 pA (((upto i).map msgX).length + 1) capA (((upto i).map msgX).flatMap msgC ++ msgC (msgX i)) :: NetP 46 30 59 117 5 62 83 68 p [] 0 :: R) w := hS.subA; replace h2 := h2.rwCast (xs' := ((upto (i + 1)).map msgX).flatMap msgC) (len' := ((upto (i + 1)).map msgX).length) (by rw [upto_succ, List.map_append, List.flatMap_append]; rfl) (by simp [upto_len])
  refine t_normal ⟨(i + 1, pA, capA), (((hf.backA hk0).kb hf 31 rfl (by first | rfl | exact int_eq (by omega))).kb hf 8 rfl (by simp [upto_len])), ⟨(h2.subA), by omega⟩, by first | omega | (simp only []; omega)⟩
 clear hf; intro hc1 a hf
 obtain rfl : k = i := by omega
 refine done_l (t_normal (c_seq ?_))
 refine c_false hf rfl ?_
 refine c_exit (t_exit (t_exit (b_exit (t_normal (c_seq (c_seq (c_region ?_)))))))
 iterate 2 (refine mN hf hS ?_; clear hf; intro a hf)
 refine step_l (st_call hf (Wn.none rfl) rfl rfl rfl fn9 (NSend_c _ _ _ ((upto k).map msgX) _ _ (hS.selA) (fun _ h => msgsX (l := upto k) (h.slOfRw (by repeat (first | exact Sel.head | apply Sel.tail)))) ⟨by omega, by rw [List.length_map, upto_len]; omega⟩) rfl rfl ?_)
 clear hf hS; rintro v a w ⟨rfl, hS⟩ hf; rw [send_upto (by omega)] at hf hS; rw [upto_map_mX (by omega), show ((k - 2000 : Nat) : Int) = 0 by omega] at hS; dsimp only at hf hS
 refine mN hf hS ?_; clear hf; intro a hf
 refine sB hf hS (rd_neq hf rfl rfl rfl) ?_ ?_
 ·
  clear hf; intro hc4 a hf
  exact absurd (by omega) hc4
 clear hf; intro hc4 a hf
 refine done_l (t_normal ?_)
 refine c_false hf rfl ?_
 refine c_skip (t_normal (c_seq (c_region ?_)))
 refine mN hf hS ?_; clear hf; intro a hf
 refine step_l (st_make hf (Wn.none rfl) hS rfl rfl rfl Try.underlying41 tyb3 (by first | omega | decide) (by first | (simp only [maxLen]; omega) | decide) rfl rfl ?_)
 clear hf hS; intro b_5 a w hf hS; obtain ⟨bo, hbo⟩ : ∃ bo, bo = b_5 := ⟨_, rfl⟩; rw [← hbo] at hf hS; replace hS := hS.rwCast (xs' := i64s (ones k 0)) (by rw [made_i64, ones_zero]) rfl
 refine aN hf hS ?_; clear hf; intro a hf
 refine done_l (t_normal (c_seq (c_seq (c_region ?_))))
 refine mN hf hS ?_; clear hf; intro a hf
 refine sR hf hS (rd_len hf rfl rfl Try.underlying41) ?_; clear hf; intro a hf
 refine mN hf hS ?_; clear hf; intro a hf
 refine done_l (t_normal (c_block ?_))
 have hk1 := Keep.ofA hf [(11, 11), (49, 55)]
 refine c_loopK hk1 (α := Nat) (fun i => [(49, .int .i64 (i : Nat))]) (fun i w => Sat W (Rw 3 1 (some ⟨bo, 0, none⟩) k k (i64s (ones k i)) :: NetP 46 30 59 117 5 62 83 68 p ((upto k).map mX1) 0 :: R) w ∧ i ≤ k) (fun i => k - i) 0 ((hf.keep hk1).kb hf 49 rfl (by first | rfl | exact int_eq (by omega))) ⟨hS.subA, by omega⟩ ?_
 clear hf hS; rintro i a w hf ⟨hS, hi⟩; (try dsimp only [List.cons_append, List.nil_append] at hf)
 refine c_seq (c_region ?_)
 refine sB hf hS (rd_lss hf rfl rfl rfl) ?_ ?_
 ·
  clear hf; intro hc6 a hf
  refine done_l (t_normal (c_seq ?_))
  refine c_true hf rfl ?_
  refine c_skip (t_normal (c_seq (c_block (c_seq (c_region ?_)))))
  iterate 2 ((first | refine mN hf hS ?_ | refine aN hf hS ?_); clear hf; intro a hf)
  refine done_l (t_normal (c_region ?_))
  iterate 2 (refine mN hf hS ?_; clear hf; intro a hf)
  refine sR hf hS ((by first | exact rd_indexAddrN1 hf rfl rfl rfl Try.underlying41 sz3 (by omega) | exact rd_indexAddr hf rfl rfl rfl Try.underlying41 sz3 (by first | decide | omega) (by omega))) ?_; clear hf; intro a hf
  refine step_l (st_storeRw hf (Wn.none rfl) hS rfl rfl rfl (by rfl) sz3 (by rfl) (by repeat (first | exact Sel.head | apply Sel.tail)) (by omega) rfl ?_)
  clear hf hS; intro a w hf hS
  refine done_l (b_normal (t_normal (c_region ?_)))
  refine sP hf hS ?_; clear hf; intro a hf
  refine mN hf hS ?_; clear hf; intro a hf
  refine done_l ?_
  replace hS := (hS.selA : Sat W (Rw 3 1 (some ⟨bo, 0, none⟩) k k _ :: _) _).rwCast (xs' := i64s (ones k (i + 1))) (by rw [← ones_set (show i < k by omega), i64s_set]) rfl
  refine t_normal ⟨i + 1, ((hf.backA hk1).kb hf 49 rfl (by first | rfl | exact int_eq (by omega))), ⟨hS.subA, by omega⟩, by first | omega | (simp only []; omega)⟩
 clear hf; intro hc6 a hf
 obtain rfl : k = i := by omega
 refine done_l (t_normal (c_seq ?_))
 refine c_false hf rfl ?_
 refine c_exit (t_exit (t_exit (b_exit (t_normal (c_seq (c_region ?_))))))
 iterate 2 ((first | refine mN hf hS ?_ | refine aN hf hS ?_); clear hf; intro a hf)
 refine done_l (t_normal (c_seq (c_seq (c_region ?_))))
 refine mN hf hS ?_; clear hf; intro a hf
 refine sR hf hS (rd_len hf rfl rfl Try.underlying41) ?_; clear hf; intro a hf
 refine mN hf hS ?_; clear hf; intro a hf
 refine done_l (t_normal (c_block ?_))
 have hk2 := Keep.ofA hf [(6, 6), (12, 16), (59, 106)]
 refine c_loopK hk2 (α := Nat × List Int) (fun ⟨i, ops⟩ => [(12, .int .i64 (ops.length : Nat)), (59, .int .i64 (i : Nat))]) (fun ⟨i, ops⟩ w => Sat W (Rw 3 1 (some ⟨bo, 0, none⟩) k k (i64s (cnt k ops)) :: NetP 46 30 59 117 5 62 83 68 p ((ops).map mX1) 0 :: R) w ∧ i ≤ lc.length ∧ i ≤ 20 ∧ ops.length = k + i ∧ (∀ n ∈ ops, 0 ≤ n ∧ n < (k : Int))) (fun ⟨i, ops⟩ => lc.length - i) (0, upto k) (((hf.keep hk2).kb hf 59 rfl (by first | rfl | exact int_eq (by omega))).kb hf 12 rfl (by rw [upto_len])) ⟨((hS.selA : Sat W (Rw 3 1 (some ⟨bo, 0, none⟩) k k _ :: _) _).rwCast (xs' := i64s (cnt k (upto k))) (by rw [← ones_cnt]) rfl).subA, ⟨by omega, by omega, by rw [upto_len]; rfl, fun n hn => upto_in hn⟩⟩ ?_
 clear hf hS; rintro ⟨i, ops⟩ a w hf ⟨hS, ⟨hi, hi20, hlen, hr⟩⟩; (try dsimp only [List.cons_append, List.nil_append] at hf)
 refine c_seq (c_region ?_)
 refine sB hf hS (rd_lss hf rfl rfl rfl) ?_ ?_
 ·
  clear hf; intro hc7 a hf
  obtain ⟨x, hget⟩ := get_of_lt (l := lc) (k := i) (by omega) rfl; obtain ⟨adl, rfl⟩ := (hvc _ (hS.subA)).some (by omega)
  refine done_l (t_normal (c_seq ?_))
  refine c_true hf rfl ?_
  refine c_skip (t_normal (c_seq (c_block (c_seq (c_region ?_)))))
  refine mN hf hS ?_; clear hf; intro a hf
  refine sR hf hS ((by first | exact rd_indexAddrN1 hf rfl rfl rfl Try.underlying41 sz3 (by omega) | exact rd_indexAddr hf rfl rfl rfl Try.underlying41 sz3 (by first | decide | omega) (by omega))) ?_; clear hf; intro a hf
  refine sR hf hS (rd_load1 hf rfl rfl ag3 (by intro _ h; exact one_elem (hvc _ (h.subA)) hget)) ?_; clear hf; intro a hf
  iterate 2 (refine aN hf hS ?_; clear hf; intro a hf)
  refine done_l (t_normal (c_seq (c_seq (c_region ?_))))
  refine mN hf hS ?_; clear hf; intro a hf
  refine sB hf hS (rd_geq hf rfl rfl rfl) ?_ ?_
  ·
   clear hf; intro hc8 a hf
   iterate 4 ((first | refine kS hf ?_ | refine mN hf hS ?_ | refine pT hf hS ?_); clear hf; intro a hf)
   refine done_l (t_normal ?_)
   refine c_true hf rfl ?_
   refine c_exit (t_exit ?_)
   refine b_exit' (by decide) ?_
   refine t_exit (t_exit (b_exit (t_normal (c_seq (c_seq (c_region ?_))))))
   refine mN hf hS ?_; clear hf; intro a hf
   refine sR hf hS (rd_len hf rfl rfl Try.underlying41) ?_; clear hf; intro a hf
   refine mN hf hS ?_; clear hf; intro a hf
   refine done_l (t_normal (c_block ?_))
   have hk3 := Keep.ofA hf [(6, 6), (12, 12), (17, 20), (109, 153)]
   refine c_loopK hk3 (α := Nat × List Int) (fun ⟨i, ops⟩ => [(12, .int .i64 (ops.length : Nat)), (109, .int .i64 (i : Nat))]) (fun ⟨i, ops⟩ w => Sat W (Rw 3 1 (some ⟨bo, 0, none⟩) k k (i64s (cnt k ops)) :: NetP 46 30 59 117 5 62 83 68 p ((ops).map mX1) 0 :: R) w ∧ i ≤ lt.length ∧ ops.length ≤ 80 ∧ (∀ n ∈ ops, 0 ≤ n ∧ n < (k : Int))) (fun ⟨i, ops⟩ => lt.length - i) (0, ops) (((hf.keep hk3).kb hf 109 rfl (by first | rfl | exact int_eq (by omega))).kb hf 12 rfl (by first | rfl | exact int_eq (by omega))) ⟨hS.subA, ⟨by omega, by omega, hr⟩⟩ ?_
   clear hf hS; rintro ⟨i, ops⟩ a w hf ⟨hS, ⟨hi, hlen, hr⟩⟩; (try dsimp only [List.cons_append, List.nil_append] at hf)
   refine c_seq (c_region ?_)
   refine sB hf hS (rd_lss hf rfl rfl rfl) ?_ ?_
   ·
    clear hf; intro hc9 a hf
    obtain ⟨x, hget⟩ := get_of_lt (l := lt) (k := i) (by omega) rfl; obtain ⟨adl, rfl⟩ := (hvt _ (hS.subA)).some (by omega)
    refine done_l (t_normal (c_seq ?_))
    refine c_true hf rfl ?_
    refine c_skip (t_normal (c_seq (c_block (c_seq (c_region ?_)))))
    refine mN hf hS ?_; clear hf; intro a hf
    refine sR hf hS ((by first | exact rd_indexAddrN1 hf rfl rfl rfl Try.underlying41 sz3 (by omega) | exact rd_indexAddr hf rfl rfl rfl Try.underlying41 sz3 (by first | decide | omega) (by omega))) ?_; clear hf; intro a hf
    refine sR hf hS (rd_load1 hf rfl rfl ag3 (by intro _ h; exact one_elem (hvt _ (h.subA)) hget)) ?_; clear hf; intro a hf
    iterate 2 (refine aN hf hS ?_; clear hf; intro a hf)
    refine done_l (t_normal (c_seq (c_seq (c_region ?_))))
    refine mN hf hS ?_; clear hf; intro a hf
    refine sB hf hS (rd_geq hf rfl rfl rfl) ?_ ?_
    ·
     clear hf; intro hc10 a hf
     iterate 4 ((first | refine kS hf ?_ | refine mN hf hS ?_ | refine pT hf hS ?_); clear hf; intro a hf)
     refine done_l (t_normal ?_)
     refine c_true hf rfl ?_
     refine c_exit (t_exit ?_)
     refine b_exit' (by decide) ?_
     refine t_exit (t_exit (b_exit (t_normal (c_seq (c_seq (c_region ?_))))))
     refine mN hf hS ?_; clear hf; intro a hf
     refine step_l (st_call hf (Wn.none rfl) rfl rfl rfl fn16 (NAll_c _ _ _ (hS.selA)) rfl rfl ?_)
     clear hf hS; rintro v a w ⟨q, cap, L, rfl, hA1, hA2, hA3, hS⟩ hf; have hLl : L.length = ops.length := by have := congrArg List.length hA1; rwa [List.length_map, List.length_map] at this
     refine sR hf hS (rd_len hf rfl rfl Try.underlying25) ?_; clear hf; intro a hf
     refine mN hf hS ?_; clear hf; intro a hf
     refine done_l (t_normal (c_block ?_))
     have hk4 := Keep.ofA hf [(6, 6), (12, 12), (22, 22), (157, 179)]
     refine c_loopK hk4 (α := Nat) (fun i => [(12, .int .i64 ((ops.length - i : Nat) : Int)), (157, .int .i64 (i : Nat))]) (fun i w => Sat W (Rw 3 1 (some ⟨bo, 0, none⟩) k k (i64s (cnt k (ops.drop i))) :: Rl 30 10 q L.length cap (L.flatMap msgC) :: NetP 46 30 59 117 5 62 83 68 p ([]) 0 :: R) w ∧ i ≤ ops.length) (fun i => ops.length - i) 0 (((hf.keep hk4).kb hf 157 rfl (by rfl)).kb hf 12 rfl (by rfl)) ⟨hS.subA, by omega⟩ ?_
     clear hf hS; rintro i a w hf ⟨hS, hi⟩; (try dsimp only [List.cons_append, List.nil_append] at hf)
     refine c_seq (c_region ?_)
     refine sB hf hS (rd_lss hf rfl rfl rfl) ?_ ?_
     ·
      clear hf; intro hc11 a hf
      obtain ⟨x, hget⟩ := get_of_lt (l := L) (k := i) (by omega) rfl; obtain ⟨ad, rfl⟩ := (hS.slOfRl (by repeat (first | exact Sel.head | apply Sel.tail))).some (by omega); obtain ⟨n, hgn⟩ := get_of_lt (l := ops) (k := i) (by omega) rfl; have hpx : pMsg x = mX1 n := Option.some.inj ((map_get pMsg hget).symm.trans (by rw [hA1]; exact map_get mX1 hgn)); obtain ⟨j, rfl⟩ : ∃ j : Nat, n = (j : Int) := ⟨n.toNat, by have := hr n (List.mem_of_getElem? hgn); omega⟩; have hj : j < k := by have := hr _ (List.mem_of_getElem? hgn); omega
      have hgc := cnt_get (ops := ops.drop i) hj
      have hcl : (ops.drop i).count (j : Int) ≤ (ops.drop i).length := List.count_le_length
      rw [List.length_drop] at hcl
      obtain ⟨kd, fr, tn, op, fo, ky, bk, ⟨qe, ce, es⟩, ⟨qd, cd, ds⟩, ⟨qm, cm, ms⟩, _⟩ := x; have hop := opX hpx; subst hop
      refine done_l (t_normal (c_seq ?_))
      refine c_true hf rfl ?_
      refine c_skip (t_normal (c_seq (c_block (c_seq (c_region ?_)))))
      refine sR hf hS ((by first | exact rd_indexAddrN hf rfl rfl rfl Try.underlying25 sz30 (by omega) | exact rd_indexAddr hf rfl rfl rfl Try.underlying25 sz30 (by first | decide | omega) (by omega))) ?_; clear hf; intro a hf
      refine sR hf hS (rd_loadN hf rfl rfl ag30 sz30 (by intro _ h; exact (show AggAt _ _ _ [.int .i64 kd, .int .i64 fr, .int .i64 tn, .int .i64 (j : Int), .int .i64 fo, .string (str ky), .int .i64 bk, .slice qe es.length ce, .slice qd ds.length cd, .slice qm ms.length cm] from SlAt.elem (cells := msgC) (h.slOfRl (by repeat (first | exact Sel.head | apply Sel.tail))) (fun _ => rfl) hget))) ?_; clear hf; intro a hf
      refine sA hf hS zr30 ?_
      clear hf hS; intro b_o a w hf hS
      refine sS hf hS sz30 ?_
      clear hf hS; intro a w hf hS
      refine done_l (t_normal (c_seq (c_seq (c_region ?_))))
      refine fA hf hS fb30_3 ?_; clear hf; intro a hf
      refine sR hf hS (rd_ld hf ag2) ?_; clear hf; intro a hf
      refine sB hf hS (rd_lss hf rfl rfl rfl) ?_ ?_
      ·
       clear hf; intro hc13 a hf
       exact absurd hc13 (by omega)
      clear hf; intro hc13 a hf
      refine mN hf hS ?_; clear hf; intro a hf
      refine fG hf hS fb30_3 ?_; clear hf; intro a hf
      refine sG hf hS (rd_ld hf ag2) ?_; clear hf; intro a hf
      refine sG hf hS (rd_move hf rfl rfl) ?_; clear hf; intro a hf
      refine step_l (st_rdB hf (Wn.some hf rfl rfl rfl rfl) (rd_geq hf rfl rfl rfl) hS rfl rfl ?_ ?_)
      ·
       clear hf; intro hc14 a hf
       exact absurd hc14 (by omega)
      clear hf; intro hc14 a hf
      refine pF hf hS ?_; clear hf; intro a hf
      refine done_l (t_normal ?_)
      refine c_false hf rfl ?_
      refine c_skip (t_normal (c_seq (c_region ?_)))
      refine mN hf hS ?_; clear hf; intro a hf
      refine fA hf hS fb30_3 ?_; clear hf; intro a hf
      refine sR hf hS (rd_ld hf ag2) ?_; clear hf; intro a hf
      refine sR hf hS ((by first | exact rd_indexAddrN1 hf rfl rfl rfl Try.underlying41 sz3 (by omega) | exact rd_indexAddr hf rfl rfl rfl Try.underlying41 sz3 (by first | decide | omega) (by omega))) ?_; clear hf; intro a hf
      refine sR hf hS (rd_load1 hf rfl rfl ag3 (by intro _ h; exact (h.slOfRw (by repeat (first | exact Sel.head | apply Sel.tail))).get (i64s_get hgc))) ?_; clear hf; intro a hf
      refine sR hf hS (rd_sub hf rfl rfl rfl (by first | exact Go.IntWalk.i64_in _ (by omega) | exact rfl)) ?_; clear hf; intro a hf
      refine sR hf hS ((by first | exact rd_indexAddrN1 hf rfl rfl rfl Try.underlying41 sz3 (by omega) | exact rd_indexAddr hf rfl rfl rfl Try.underlying41 sz3 (by first | decide | omega) (by omega))) ?_; clear hf; intro a hf
      refine step_l (st_storeRw hf (Wn.none rfl) hS rfl rfl rfl (by rfl) sz3 (by rfl) (by repeat (first | exact Sel.head | apply Sel.tail)) (by omega) rfl ?_)
      clear hf hS; intro a w hf hS
      refine done_l ?_
      replace hS := (hS.selA : Sat W (Rw 3 1 (some ⟨bo, 0, none⟩) k k _ :: _) _).rwCast (xs' := i64s (cnt k (ops.drop (i + 1)))) (by rw [← cnt_tail hj hgn, i64s_set]) rfl
      refine t_normal (c_region ?_)
      refine mN hf hS ?_; clear hf; intro a hf
      refine sR hf hS (rd_sub hf rfl rfl rfl (by first | exact Go.IntWalk.i64_in _ (by omega) | exact rfl)) ?_; clear hf; intro a hf
      refine aN hf hS ?_; clear hf; intro a hf
      refine done_l (b_normal (t_normal (c_region ?_)))
      refine sP hf hS ?_; clear hf; intro a hf
      refine mN hf hS ?_; clear hf; intro a hf
      refine done_l ?_
      refine t_normal ⟨i + 1, (((hf.backA hk4).kb hf 157 rfl (by first | rfl | exact int_eq (by omega))).kb hf 12 rfl (by first | rfl | exact int_eq (by omega))), ⟨hS.subA, by omega⟩, by first | omega | (simp only []; omega)⟩
     clear hf; intro hc11 a hf
     obtain rfl : i = ops.length := by omega
     refine done_l (t_normal (c_seq ?_))
     refine c_false hf rfl ?_
     refine c_exit (t_exit (t_exit (b_exit (t_normal (c_seq (c_seq (c_region ?_)))))))
     refine mN hf hS ?_; clear hf; intro a hf
     refine sR hf hS (rd_len hf rfl rfl Try.underlying41) ?_; clear hf; intro a hf
     refine mN hf hS ?_; clear hf; intro a hf
     refine done_l (t_normal (c_block ?_))
     have hk5 := Keep.ofA hf [(6, 6), (24, 24), (182, 188)]
     refine c_loopK hk5 (α := Nat) (fun i => [(182, .int .i64 (i : Nat))]) (fun i w => Sat W (Rw 3 1 (some ⟨bo, 0, none⟩) k k (i64s (cnt k (ops.drop ops.length))) :: NetP 46 30 59 117 5 62 83 68 p ([]) 0 :: R) w ∧ i ≤ k) (fun i => k - i) 0 ((hf.keep hk5).kb hf 182 rfl (by first | rfl | exact int_eq (by omega))) ⟨hS.subA, by omega⟩ ?_
     clear hf hS; rintro i a w hf ⟨hS, hi⟩; (try dsimp only [List.cons_append, List.nil_append] at hf)
     refine c_seq (c_region ?_)
     refine sB hf hS (rd_lss hf rfl rfl rfl) ?_ ?_
     ·
      clear hf; intro hc15 a hf
      have hgz := cnt_zero (show i < k by omega) ops
      refine done_l (t_normal (c_seq ?_))
      refine c_true hf rfl ?_
      refine c_skip (t_normal (c_seq (c_block (c_seq (c_region ?_)))))
      refine sR hf hS ((by first | exact rd_indexAddrN1 hf rfl rfl rfl Try.underlying41 sz3 (by omega) | exact rd_indexAddr hf rfl rfl rfl Try.underlying41 sz3 (by first | decide | omega) (by omega))) ?_; clear hf; intro a hf
      refine sR hf hS (rd_load1 hf rfl rfl ag3 (by intro _ h; exact (h.slOfRw (by repeat (first | exact Sel.head | apply Sel.tail))).get (i64s_get hgz))) ?_; clear hf; intro a hf
      refine aN hf hS ?_; clear hf; intro a hf
      refine done_l (t_normal (c_seq (c_region ?_)))
      refine mN hf hS ?_; clear hf; intro a hf
      refine sB hf hS (rd_neq hf rfl rfl rfl) ?_ ?_
      ·
       clear hf; intro hc16 a hf
       exact absurd rfl hc16
      clear hf; intro hc16 a hf
      refine done_l (t_normal ?_)
      refine c_false hf rfl ?_
      refine c_skip (b_normal (t_normal (c_region ?_)))
      refine sP hf hS ?_; clear hf; intro a hf
      refine mN hf hS ?_; clear hf; intro a hf
      refine done_l ?_
      refine t_normal ⟨i + 1, ((hf.backA hk5).kb hf 182 rfl (by first | rfl | exact int_eq (by omega))), ⟨hS.subA, by omega⟩, by first | omega | (simp only []; omega)⟩
     clear hf; intro hc15 a hf
     refine done_l (t_normal (c_seq ?_))
     refine c_false hf rfl ?_
     refine c_exit (t_exit (t_exit (b_exit (t_normal (c_seq (c_region ?_))))))
     refine mN hf hS ?_; clear hf; intro a hf
     refine sB hf hS (rd_eql hf rfl rfl rfl) ?_ ?_
     ·
      clear hf; intro hc17 a hf
      iterate 2 ((first | refine mN hf hS ?_ | refine step_l (st_rd hf (Wn.some hf rfl rfl rfl rfl) (rd_move hf rfl rfl) hS rfl rfl ?_)); clear hf; intro a hf)
      refine step_l (st_call hf (Wn.some hf rfl rfl rfl rfl) rfl rfl rfl fn17 (NLen_c _ _ _ (hS.selA)) rfl rfl ?_)
      clear hf hS; rintro v a w ⟨rfl, hS⟩ hf
      refine step_l (st_rdB hf (Wn.some hf rfl rfl rfl rfl) (rd_eql hf rfl rfl rfl) hS rfl rfl ?_ ?_)
      ·
       clear hf; intro hc18 a hf
       iterate 2 ((first | refine mN hf hS ?_ | refine pT hf hS ?_); clear hf; intro a hf)
       refine step_l (st_call hf (Wn.some hf rfl rfl rfl rfl) rfl rfl rfl fn12 (awake_c hS) rfl rfl ?_)
       clear hf hS; rintro v a w ⟨rfl, hS⟩ hf
       iterate 2 ((first | refine aN hf hS ?_ | refine pT hf hS ?_); clear hf; intro a hf)
       refine done_l (t_normal (c_ret ?_))
       refine eT hf ?_
       exact ⟨rfl, hS.subA⟩
      clear hf; intro hc18 a hf
      exact absurd rfl hc18
     clear hf; intro hc17 a hf
     exact absurd (by omega) hc17
    clear hf; intro hc10 a hf
    iterate 2 ((first | refine mN hf hS ?_ | refine step_l (st_rd hf (Wn.some hf rfl rfl rfl rfl) (rd_move hf rfl rfl) hS rfl rfl ?_)); clear hf; intro a hf)
    refine step_l (st_rdB hf (Wn.some hf rfl rfl rfl rfl) (rd_eql hf rfl rfl rfl) hS rfl rfl ?_ ?_)
    ·
     clear hf; intro hc19 a hf
     refine pF hf hS ?_; clear hf; intro a hf
     refine done_l (t_normal ?_)
     refine c_true hf rfl ?_
     refine c_exit (t_exit ?_)
     refine b_exit' (by decide) ?_
     refine t_exit (t_exit (b_exit (t_normal (c_seq (c_seq (c_region ?_))))))
     refine mN hf hS ?_; clear hf; intro a hf
     refine step_l (st_call hf (Wn.none rfl) rfl rfl rfl fn16 (NAll_c _ _ _ (hS.selA)) rfl rfl ?_)
     clear hf hS; rintro v a w ⟨q, cap, L, rfl, hA1, hA2, hA3, hS⟩ hf; have hLl : L.length = ops.length := by have := congrArg List.length hA1; rwa [List.length_map, List.length_map] at this
     refine sR hf hS (rd_len hf rfl rfl Try.underlying25) ?_; clear hf; intro a hf
     refine mN hf hS ?_; clear hf; intro a hf
     refine done_l (t_normal (c_block ?_))
     have hk6 := Keep.ofA hf [(6, 6), (12, 12), (22, 22), (157, 179)]
     refine c_loopK hk6 (α := Nat) (fun i => [(12, .int .i64 ((ops.length - i : Nat) : Int)), (157, .int .i64 (i : Nat))]) (fun i w => Sat W (Rw 3 1 (some ⟨bo, 0, none⟩) k k (i64s (cnt k (ops.drop i))) :: Rl 30 10 q L.length cap (L.flatMap msgC) :: NetP 46 30 59 117 5 62 83 68 p ([]) 0 :: R) w ∧ i ≤ ops.length) (fun i => ops.length - i) 0 (((hf.keep hk6).kb hf 157 rfl (by rfl)).kb hf 12 rfl (by rfl)) ⟨hS.subA, by omega⟩ ?_
     clear hf hS; rintro i a w hf ⟨hS, hi⟩; (try dsimp only [List.cons_append, List.nil_append] at hf)
     refine c_seq (c_region ?_)
     refine sB hf hS (rd_lss hf rfl rfl rfl) ?_ ?_
     ·
      clear hf; intro hc20 a hf
      obtain ⟨x, hget⟩ := get_of_lt (l := L) (k := i) (by omega) rfl; obtain ⟨ad, rfl⟩ := (hS.slOfRl (by repeat (first | exact Sel.head | apply Sel.tail))).some (by omega); obtain ⟨n, hgn⟩ := get_of_lt (l := ops) (k := i) (by omega) rfl; have hpx : pMsg x = mX1 n := Option.some.inj ((map_get pMsg hget).symm.trans (by rw [hA1]; exact map_get mX1 hgn)); obtain ⟨j, rfl⟩ : ∃ j : Nat, n = (j : Int) := ⟨n.toNat, by have := hr n (List.mem_of_getElem? hgn); omega⟩; have hj : j < k := by have := hr _ (List.mem_of_getElem? hgn); omega
      have hgc := cnt_get (ops := ops.drop i) hj
      have hcl : (ops.drop i).count (j : Int) ≤ (ops.drop i).length := List.count_le_length
      rw [List.length_drop] at hcl
      obtain ⟨kd, fr, tn, op, fo, ky, bk, ⟨qe, ce, es⟩, ⟨qd, cd, ds⟩, ⟨qm, cm, ms⟩, _⟩ := x; have hop := opX hpx; subst hop
      refine done_l (t_normal (c_seq ?_))
      refine c_true hf rfl ?_
      refine c_skip (t_normal (c_seq (c_block (c_seq (c_region ?_)))))
      refine sR hf hS ((by first | exact rd_indexAddrN hf rfl rfl rfl Try.underlying25 sz30 (by omega) | exact rd_indexAddr hf rfl rfl rfl Try.underlying25 sz30 (by first | decide | omega) (by omega))) ?_; clear hf; intro a hf
      refine sR hf hS (rd_loadN hf rfl rfl ag30 sz30 (by intro _ h; exact (show AggAt _ _ _ [.int .i64 kd, .int .i64 fr, .int .i64 tn, .int .i64 (j : Int), .int .i64 fo, .string (str ky), .int .i64 bk, .slice qe es.length ce, .slice qd ds.length cd, .slice qm ms.length cm] from SlAt.elem (cells := msgC) (h.slOfRl (by repeat (first | exact Sel.head | apply Sel.tail))) (fun _ => rfl) hget))) ?_; clear hf; intro a hf
      refine sA hf hS zr30 ?_
      clear hf hS; intro b_o a w hf hS
      refine sS hf hS sz30 ?_
      clear hf hS; intro a w hf hS
      refine done_l (t_normal (c_seq (c_seq (c_region ?_))))
      refine fA hf hS fb30_3 ?_; clear hf; intro a hf
      refine sR hf hS (rd_ld hf ag2) ?_; clear hf; intro a hf
      refine sB hf hS (rd_lss hf rfl rfl rfl) ?_ ?_
      ·
       clear hf; intro hc22 a hf
       exact absurd hc22 (by omega)
      clear hf; intro hc22 a hf
      refine mN hf hS ?_; clear hf; intro a hf
      refine fG hf hS fb30_3 ?_; clear hf; intro a hf
      refine sG hf hS (rd_ld hf ag2) ?_; clear hf; intro a hf
      refine sG hf hS (rd_move hf rfl rfl) ?_; clear hf; intro a hf
      refine step_l (st_rdB hf (Wn.some hf rfl rfl rfl rfl) (rd_geq hf rfl rfl rfl) hS rfl rfl ?_ ?_)
      ·
       clear hf; intro hc23 a hf
       exact absurd hc23 (by omega)
      clear hf; intro hc23 a hf
      refine pF hf hS ?_; clear hf; intro a hf
      refine done_l (t_normal ?_)
      refine c_false hf rfl ?_
      refine c_skip (t_normal (c_seq (c_region ?_)))
      refine mN hf hS ?_; clear hf; intro a hf
      refine fA hf hS fb30_3 ?_; clear hf; intro a hf
      refine sR hf hS (rd_ld hf ag2) ?_; clear hf; intro a hf
      refine sR hf hS ((by first | exact rd_indexAddrN1 hf rfl rfl rfl Try.underlying41 sz3 (by omega) | exact rd_indexAddr hf rfl rfl rfl Try.underlying41 sz3 (by first | decide | omega) (by omega))) ?_; clear hf; intro a hf
      refine sR hf hS (rd_load1 hf rfl rfl ag3 (by intro _ h; exact (h.slOfRw (by repeat (first | exact Sel.head | apply Sel.tail))).get (i64s_get hgc))) ?_; clear hf; intro a hf
      refine sR hf hS (rd_sub hf rfl rfl rfl (by first | exact Go.IntWalk.i64_in _ (by omega) | exact rfl)) ?_; clear hf; intro a hf
      refine sR hf hS ((by first | exact rd_indexAddrN1 hf rfl rfl rfl Try.underlying41 sz3 (by omega) | exact rd_indexAddr hf rfl rfl rfl Try.underlying41 sz3 (by first | decide | omega) (by omega))) ?_; clear hf; intro a hf
      refine step_l (st_storeRw hf (Wn.none rfl) hS rfl rfl rfl (by rfl) sz3 (by rfl) (by repeat (first | exact Sel.head | apply Sel.tail)) (by omega) rfl ?_)
      clear hf hS; intro a w hf hS
      refine done_l ?_
      replace hS := (hS.selA : Sat W (Rw 3 1 (some ⟨bo, 0, none⟩) k k _ :: _) _).rwCast (xs' := i64s (cnt k (ops.drop (i + 1)))) (by rw [← cnt_tail hj hgn, i64s_set]) rfl
      refine t_normal (c_region ?_)
      refine mN hf hS ?_; clear hf; intro a hf
      refine sR hf hS (rd_sub hf rfl rfl rfl (by first | exact Go.IntWalk.i64_in _ (by omega) | exact rfl)) ?_; clear hf; intro a hf
      refine aN hf hS ?_; clear hf; intro a hf
      refine done_l (b_normal (t_normal (c_region ?_)))
      refine sP hf hS ?_; clear hf; intro a hf
      refine mN hf hS ?_; clear hf; intro a hf
      refine done_l ?_
      refine t_normal ⟨i + 1, (((hf.backA hk6).kb hf 157 rfl (by first | rfl | exact int_eq (by omega))).kb hf 12 rfl (by first | rfl | exact int_eq (by omega))), ⟨hS.subA, by omega⟩, by first | omega | (simp only []; omega)⟩
     clear hf; intro hc20 a hf
     obtain rfl : i = ops.length := by omega
     refine done_l (t_normal (c_seq ?_))
     refine c_false hf rfl ?_
     refine c_exit (t_exit (t_exit (b_exit (t_normal (c_seq (c_seq (c_region ?_)))))))
     refine mN hf hS ?_; clear hf; intro a hf
     refine sR hf hS (rd_len hf rfl rfl Try.underlying41) ?_; clear hf; intro a hf
     refine mN hf hS ?_; clear hf; intro a hf
     refine done_l (t_normal (c_block ?_))
     have hk7 := Keep.ofA hf [(6, 6), (24, 24), (182, 188)]
     refine c_loopK hk7 (α := Nat) (fun i => [(182, .int .i64 (i : Nat))]) (fun i w => Sat W (Rw 3 1 (some ⟨bo, 0, none⟩) k k (i64s (cnt k (ops.drop ops.length))) :: NetP 46 30 59 117 5 62 83 68 p ([]) 0 :: R) w ∧ i ≤ k) (fun i => k - i) 0 ((hf.keep hk7).kb hf 182 rfl (by first | rfl | exact int_eq (by omega))) ⟨hS.subA, by omega⟩ ?_
     clear hf hS; rintro i a w hf ⟨hS, hi⟩; (try dsimp only [List.cons_append, List.nil_append] at hf)
     refine c_seq (c_region ?_)
     refine sB hf hS (rd_lss hf rfl rfl rfl) ?_ ?_
     ·
      clear hf; intro hc24 a hf
      have hgz := cnt_zero (show i < k by omega) ops
      refine done_l (t_normal (c_seq ?_))
      refine c_true hf rfl ?_
      refine c_skip (t_normal (c_seq (c_block (c_seq (c_region ?_)))))
      refine sR hf hS ((by first | exact rd_indexAddrN1 hf rfl rfl rfl Try.underlying41 sz3 (by omega) | exact rd_indexAddr hf rfl rfl rfl Try.underlying41 sz3 (by first | decide | omega) (by omega))) ?_; clear hf; intro a hf
      refine sR hf hS (rd_load1 hf rfl rfl ag3 (by intro _ h; exact (h.slOfRw (by repeat (first | exact Sel.head | apply Sel.tail))).get (i64s_get hgz))) ?_; clear hf; intro a hf
      refine aN hf hS ?_; clear hf; intro a hf
      refine done_l (t_normal (c_seq (c_region ?_)))
      refine mN hf hS ?_; clear hf; intro a hf
      refine sB hf hS (rd_neq hf rfl rfl rfl) ?_ ?_
      ·
       clear hf; intro hc25 a hf
       exact absurd rfl hc25
      clear hf; intro hc25 a hf
      refine done_l (t_normal ?_)
      refine c_false hf rfl ?_
      refine c_skip (b_normal (t_normal (c_region ?_)))
      refine sP hf hS ?_; clear hf; intro a hf
      refine mN hf hS ?_; clear hf; intro a hf
      refine done_l ?_
      refine t_normal ⟨i + 1, ((hf.backA hk7).kb hf 182 rfl (by first | rfl | exact int_eq (by omega))), ⟨hS.subA, by omega⟩, by first | omega | (simp only []; omega)⟩
     clear hf; intro hc24 a hf
     refine done_l (t_normal (c_seq ?_))
     refine c_false hf rfl ?_
     refine c_exit (t_exit (t_exit (b_exit (t_normal (c_seq (c_region ?_))))))
     refine mN hf hS ?_; clear hf; intro a hf
     refine sB hf hS (rd_eql hf rfl rfl rfl) ?_ ?_
     ·
      clear hf; intro hc26 a hf
      iterate 2 ((first | refine mN hf hS ?_ | refine step_l (st_rd hf (Wn.some hf rfl rfl rfl rfl) (rd_move hf rfl rfl) hS rfl rfl ?_)); clear hf; intro a hf)
      refine step_l (st_call hf (Wn.some hf rfl rfl rfl rfl) rfl rfl rfl fn17 (NLen_c _ _ _ (hS.selA)) rfl rfl ?_)
      clear hf hS; rintro v a w ⟨rfl, hS⟩ hf
      refine step_l (st_rdB hf (Wn.some hf rfl rfl rfl rfl) (rd_eql hf rfl rfl rfl) hS rfl rfl ?_ ?_)
      ·
       clear hf; intro hc27 a hf
       iterate 2 ((first | refine mN hf hS ?_ | refine pT hf hS ?_); clear hf; intro a hf)
       refine step_l (st_call hf (Wn.some hf rfl rfl rfl rfl) rfl rfl rfl fn12 (awake_c hS) rfl rfl ?_)
       clear hf hS; rintro v a w ⟨rfl, hS⟩ hf
       iterate 2 ((first | refine aN hf hS ?_ | refine pT hf hS ?_); clear hf; intro a hf)
       refine done_l (t_normal (c_ret ?_))
       refine eT hf ?_
       exact ⟨rfl, hS.subA⟩
      clear hf; intro hc27 a hf
      exact absurd rfl hc27
     clear hf; intro hc26 a hf
     exact absurd (by omega) hc26
    clear hf; intro hc19 a hf
    refine pF hf hS ?_; clear hf; intro a hf
    refine done_l (t_normal ?_)
    refine c_false hf rfl ?_
    refine c_skip (t_normal (c_seq (c_region ?_)))
    iterate 2 (refine mN hf hS ?_; clear hf; intro a hf)
    refine sR hf hS (rd_convInt hf rfl rfl Try.underlying3 Try.underlying24 rfl) ?_; clear hf; intro a hf
    refine mN hf hS ?_; clear hf; intro a hf
    refine sR hf hS (rd_convInt hf rfl rfl Try.underlying3 Try.underlying24 (wrap64 (by omega))) ?_; clear hf; intro a hf
    refine sR hf hS (rd_rem hf rfl rfl rfl (by first | decide | omega) (u64mod x (by omega))) ?_; clear hf; intro a hf
    refine sR hf hS (rd_convInt hf rfl rfl Try.underlying24 Try.underlying3 (Go.IntWalk.i64_in _ (by have := Nat.mod_lt (x % 18446744073709551616).toNat (show 0 < ops.length by omega); omega))) ?_; clear hf; intro a hf
    obtain ⟨P, hPe⟩ : ∃ P : Nat, P = (x % 18446744073709551616).toNat % ops.length := ⟨_, rfl⟩; have hP : P < ops.length := (by rw [hPe]; exact Nat.mod_lt _ (by omega)); rw [← hPe] at hf; obtain ⟨n, hgn⟩ := get_of_lt (l := ops) (k := P) hP rfl; obtain ⟨j, rfl⟩ : ∃ j : Nat, n = (j : Int) := ⟨n.toNat, by have := hr n (List.mem_of_getElem? hgn); omega⟩; have hj : j < k := (by have := hr _ (List.mem_of_getElem? hgn); omega); have hgc := cnt_get (ops := ops) hj; have hcl : ops.count (j : Int) ≤ ops.length := List.count_le_length
    refine step_l (st_call hf (Wn.none rfl) rfl rfl rfl fn19 (NTake_c _ _ _ _ (hS.selA)) rfl rfl ?_)
    clear hf hS; rintro v a w ⟨bb, kd, fr, tn, op, fo, ky, bk, es, qe, ce, ds, qd, cd, ms, qm, cm, rfl, hibb, hxbb, hkbb, hS⟩ hf; rw [take_map hP] at hS; obtain rfl : bb = true := hibb.trans (inS_map hP); have hop := opX ((hxbb (hibb.trans (inS_map hP))).trans (getX hgn)); subst hop
    refine mN hf hS ?_; clear hf; intro a hf
    refine sR hf hS (rd_extract hf rfl rfl rfl) ?_; clear hf; intro a hf
    refine step_l (st_rdb hf (Wn.none rfl) (rd_extract hf rfl rfl rfl) hS rfl rfl ?_ ?_)
    ·
     clear hf; intro hc28 a hf
     refine sA hf hS zr30 ?_
     clear hf hS; intro b_t a w hf hS
     refine sS hf hS sz30 ?_
     clear hf hS; intro a w hf hS
     refine aN hf hS ?_; clear hf; intro a hf
     refine done_l (t_normal (c_seq (c_seq (c_region ?_))))
     refine mN hf hS ?_; clear hf; intro a hf
     refine nT hf hS ?_; clear hf; intro a hf
     refine mN hf hS ?_; clear hf; intro a hf
     refine fG hf hS fb30_3 ?_; clear hf; intro a hf
     refine sG hf hS (rd_ld hf ag2) ?_; clear hf; intro a hf
     refine step_l (st_rdB hf (Wn.some hf rfl rfl rfl rfl) (rd_lss hf rfl rfl rfl) hS rfl rfl ?_ ?_)
     ·
      clear hf; intro hc30 a hf
      exact absurd hc30 (by omega)
     clear hf; intro hc30 a hf
     iterate 2 ((first | refine mN hf hS ?_ | refine pF hf hS ?_); clear hf; intro a hf)
     refine fG hf hS fb30_3 ?_; clear hf; intro a hf
     refine sG hf hS (rd_ld hf ag2) ?_; clear hf; intro a hf
     refine sG hf hS (rd_move hf rfl rfl) ?_; clear hf; intro a hf
     refine step_l (st_rdB hf (Wn.some hf rfl rfl rfl rfl) (rd_geq hf rfl rfl rfl) hS rfl rfl ?_ ?_)
     ·
      clear hf; intro hc31 a hf
      exact absurd hc31 (by omega)
     clear hf; intro hc31 a hf
     refine pF hf hS ?_; clear hf; intro a hf
     refine done_l (t_normal ?_)
     refine c_false hf rfl ?_
     refine c_skip (t_normal (c_seq (c_region ?_)))
     refine mN hf hS ?_; clear hf; intro a hf
     refine fA hf hS fb30_3 ?_; clear hf; intro a hf
     refine sR hf hS (rd_ld hf ag2) ?_; clear hf; intro a hf
     refine sR hf hS ((by first | exact rd_indexAddrN1 hf rfl rfl rfl Try.underlying41 sz3 (by omega) | exact rd_indexAddr hf rfl rfl rfl Try.underlying41 sz3 (by first | decide | omega) (by omega))) ?_; clear hf; intro a hf
     refine sR hf hS (rd_load1 hf rfl rfl ag3 (by intro _ h; exact (h.slOfRw (by repeat (first | exact Sel.head | apply Sel.tail))).get (i64s_get hgc))) ?_; clear hf; intro a hf
     refine sR hf hS (rd_sub hf rfl rfl rfl (by first | exact Go.IntWalk.i64_in _ (by omega) | exact rfl)) ?_; clear hf; intro a hf
     refine sR hf hS ((by first | exact rd_indexAddrN1 hf rfl rfl rfl Try.underlying41 sz3 (by omega) | exact rd_indexAddr hf rfl rfl rfl Try.underlying41 sz3 (by first | decide | omega) (by omega))) ?_; clear hf; intro a hf
     refine step_l (st_storeRw hf (Wn.none rfl) hS rfl rfl rfl (by rfl) sz3 (by rfl) (by repeat (first | exact Sel.head | apply Sel.tail)) (by omega) rfl ?_)
     clear hf hS; intro a w hf hS
     refine done_l ?_
     replace hS := (hS.selA : Sat W (Rw 3 1 (some ⟨bo, 0, none⟩) k k _ :: _) _).rwCast (xs' := i64s (cnt k (ops.take P ++ ops.drop (P + 1)))) (by rw [← cnt_del hj hgn, i64s_set]) rfl
     refine t_normal (c_region ?_)
     refine mN hf hS ?_; clear hf; intro a hf
     refine sR hf hS (rd_sub hf rfl rfl rfl (by first | exact Go.IntWalk.i64_in _ (by omega) | exact rfl)) ?_; clear hf; intro a hf
     refine aN hf hS ?_; clear hf; intro a hf
     refine done_l (b_normal (t_normal (c_region ?_)))
     refine sP hf hS ?_; clear hf; intro a hf
     refine mN hf hS ?_; clear hf; intro a hf
     refine done_l ?_
     refine t_normal ⟨(i + 1, ops.take P ++ ops.drop (P + 1)), (((hf.backA hk3).kb hf 109 rfl (by first | rfl | exact int_eq (by omega))).kb hf 12 rfl (by rw [len_cut hP]; exact int_eq (by omega))), ⟨hS.subA, ⟨by omega, by rw [len_cut hP]; omega, fun n hn => hr n (mem_cut hn)⟩⟩, by first | omega | (simp only []; omega)⟩
    clear hf; intro hc28 a hf
    exact Bool.noConfusion hc28
   clear hf; intro hc9 a hf
   refine done_l (t_normal (c_seq ?_))
   refine c_false hf rfl ?_
   refine c_exit (t_exit (t_exit (b_exit (t_normal (c_seq (c_seq (c_region ?_)))))))
   refine mN hf hS ?_; clear hf; intro a hf
   refine step_l (st_call hf (Wn.none rfl) rfl rfl rfl fn16 (NAll_c _ _ _ (hS.selA)) rfl rfl ?_)
   clear hf hS; rintro v a w ⟨q, cap, L, rfl, hA1, hA2, hA3, hS⟩ hf; have hLl : L.length = ops.length := by have := congrArg List.length hA1; rwa [List.length_map, List.length_map] at this
   refine sR hf hS (rd_len hf rfl rfl Try.underlying25) ?_; clear hf; intro a hf
   refine mN hf hS ?_; clear hf; intro a hf
   refine done_l (t_normal (c_block ?_))
   have hk8 := Keep.ofA hf [(6, 6), (12, 12), (22, 22), (157, 179)]
   refine c_loopK hk8 (α := Nat) (fun i => [(12, .int .i64 ((ops.length - i : Nat) : Int)), (157, .int .i64 (i : Nat))]) (fun i w => Sat W (Rw 3 1 (some ⟨bo, 0, none⟩) k k (i64s (cnt k (ops.drop i))) :: Rl 30 10 q L.length cap (L.flatMap msgC) :: NetP 46 30 59 117 5 62 83 68 p ([]) 0 :: R) w ∧ i ≤ ops.length) (fun i => ops.length - i) 0 (((hf.keep hk8).kb hf 157 rfl (by rfl)).kb hf 12 rfl (by rfl)) ⟨hS.subA, by omega⟩ ?_
   clear hf hS; rintro i a w hf ⟨hS, hi⟩; (try dsimp only [List.cons_append, List.nil_append] at hf)
   refine c_seq (c_region ?_)
   refine sB hf hS (rd_lss hf rfl rfl rfl) ?_ ?_
   ·
    clear hf; intro hc32 a hf
    obtain ⟨x, hget⟩ := get_of_lt (l := L) (k := i) (by omega) rfl; obtain ⟨ad, rfl⟩ := (hS.slOfRl (by repeat (first | exact Sel.head | apply Sel.tail))).some (by omega); obtain ⟨n, hgn⟩ := get_of_lt (l := ops) (k := i) (by omega) rfl; have hpx : pMsg x = mX1 n := Option.some.inj ((map_get pMsg hget).symm.trans (by rw [hA1]; exact map_get mX1 hgn)); obtain ⟨j, rfl⟩ : ∃ j : Nat, n = (j : Int) := ⟨n.toNat, by have := hr n (List.mem_of_getElem? hgn); omega⟩; have hj : j < k := by have := hr _ (List.mem_of_getElem? hgn); omega
    have hgc := cnt_get (ops := ops.drop i) hj
    have hcl : (ops.drop i).count (j : Int) ≤ (ops.drop i).length := List.count_le_length
    rw [List.length_drop] at hcl
    obtain ⟨kd, fr, tn, op, fo, ky, bk, ⟨qe, ce, es⟩, ⟨qd, cd, ds⟩, ⟨qm, cm, ms⟩, _⟩ := x; have hop := opX hpx; subst hop
    refine done_l (t_normal (c_seq ?_))
    refine c_true hf rfl ?_
    refine c_skip (t_normal (c_seq (c_block (c_seq (c_region ?_)))))
    refine sR hf hS ((by first | exact rd_indexAddrN hf rfl rfl rfl Try.underlying25 sz30 (by omega) | exact rd_indexAddr hf rfl rfl rfl Try.underlying25 sz30 (by first | decide | omega) (by omega))) ?_; clear hf; intro a hf
    refine sR hf hS (rd_loadN hf rfl rfl ag30 sz30 (by intro _ h; exact (show AggAt _ _ _ [.int .i64 kd, .int .i64 fr, .int .i64 tn, .int .i64 (j : Int), .int .i64 fo, .string (str ky), .int .i64 bk, .slice qe es.length ce, .slice qd ds.length cd, .slice qm ms.length cm] from SlAt.elem (cells := msgC) (h.slOfRl (by repeat (first | exact Sel.head | apply Sel.tail))) (fun _ => rfl) hget))) ?_; clear hf; intro a hf
    refine sA hf hS zr30 ?_
    clear hf hS; intro b_o a w hf hS
    refine sS hf hS sz30 ?_
    clear hf hS; intro a w hf hS
    refine done_l (t_normal (c_seq (c_seq (c_region ?_))))
    refine fA hf hS fb30_3 ?_; clear hf; intro a hf
    refine sR hf hS (rd_ld hf ag2) ?_; clear hf; intro a hf
    refine sB hf hS (rd_lss hf rfl rfl rfl) ?_ ?_
    ·
     clear hf; intro hc34 a hf
     exact absurd hc34 (by omega)
    clear hf; intro hc34 a hf
    refine mN hf hS ?_; clear hf; intro a hf
    refine fG hf hS fb30_3 ?_; clear hf; intro a hf
    refine sG hf hS (rd_ld hf ag2) ?_; clear hf; intro a hf
    refine sG hf hS (rd_move hf rfl rfl) ?_; clear hf; intro a hf
    refine step_l (st_rdB hf (Wn.some hf rfl rfl rfl rfl) (rd_geq hf rfl rfl rfl) hS rfl rfl ?_ ?_)
    ·
     clear hf; intro hc35 a hf
     exact absurd hc35 (by omega)
    clear hf; intro hc35 a hf
    refine pF hf hS ?_; clear hf; intro a hf
    refine done_l (t_normal ?_)
    refine c_false hf rfl ?_
    refine c_skip (t_normal (c_seq (c_region ?_)))
    refine mN hf hS ?_; clear hf; intro a hf
    refine fA hf hS fb30_3 ?_; clear hf; intro a hf
    refine sR hf hS (rd_ld hf ag2) ?_; clear hf; intro a hf
    refine sR hf hS ((by first | exact rd_indexAddrN1 hf rfl rfl rfl Try.underlying41 sz3 (by omega) | exact rd_indexAddr hf rfl rfl rfl Try.underlying41 sz3 (by first | decide | omega) (by omega))) ?_; clear hf; intro a hf
    refine sR hf hS (rd_load1 hf rfl rfl ag3 (by intro _ h; exact (h.slOfRw (by repeat (first | exact Sel.head | apply Sel.tail))).get (i64s_get hgc))) ?_; clear hf; intro a hf
    refine sR hf hS (rd_sub hf rfl rfl rfl (by first | exact Go.IntWalk.i64_in _ (by omega) | exact rfl)) ?_; clear hf; intro a hf
    refine sR hf hS ((by first | exact rd_indexAddrN1 hf rfl rfl rfl Try.underlying41 sz3 (by omega) | exact rd_indexAddr hf rfl rfl rfl Try.underlying41 sz3 (by first | decide | omega) (by omega))) ?_; clear hf; intro a hf
    refine step_l (st_storeRw hf (Wn.none rfl) hS rfl rfl rfl (by rfl) sz3 (by rfl) (by repeat (first | exact Sel.head | apply Sel.tail)) (by omega) rfl ?_)
    clear hf hS; intro a w hf hS
    refine done_l ?_
    replace hS := (hS.selA : Sat W (Rw 3 1 (some ⟨bo, 0, none⟩) k k _ :: _) _).rwCast (xs' := i64s (cnt k (ops.drop (i + 1)))) (by rw [← cnt_tail hj hgn, i64s_set]) rfl
    refine t_normal (c_region ?_)
    refine mN hf hS ?_; clear hf; intro a hf
    refine sR hf hS (rd_sub hf rfl rfl rfl (by first | exact Go.IntWalk.i64_in _ (by omega) | exact rfl)) ?_; clear hf; intro a hf
    refine aN hf hS ?_; clear hf; intro a hf
    refine done_l (b_normal (t_normal (c_region ?_)))
    refine sP hf hS ?_; clear hf; intro a hf
    refine mN hf hS ?_; clear hf; intro a hf
    refine done_l ?_
    refine t_normal ⟨i + 1, (((hf.backA hk8).kb hf 157 rfl (by first | rfl | exact int_eq (by omega))).kb hf 12 rfl (by first | rfl | exact int_eq (by omega))), ⟨hS.subA, by omega⟩, by first | omega | (simp only []; omega)⟩
   clear hf; intro hc32 a hf
   obtain rfl : i = ops.length := by omega
   refine done_l (t_normal (c_seq ?_))
   refine c_false hf rfl ?_
   refine c_exit (t_exit (t_exit (b_exit (t_normal (c_seq (c_seq (c_region ?_)))))))
   refine mN hf hS ?_; clear hf; intro a hf
   refine sR hf hS (rd_len hf rfl rfl Try.underlying41) ?_; clear hf; intro a hf
   refine mN hf hS ?_; clear hf; intro a hf
   refine done_l (t_normal (c_block ?_))
   have hk9 := Keep.ofA hf [(6, 6), (24, 24), (182, 188)]
   refine c_loopK hk9 (α := Nat) (fun i => [(182, .int .i64 (i : Nat))]) (fun i w => Sat W (Rw 3 1 (some ⟨bo, 0, none⟩) k k (i64s (cnt k (ops.drop ops.length))) :: NetP 46 30 59 117 5 62 83 68 p ([]) 0 :: R) w ∧ i ≤ k) (fun i => k - i) 0 ((hf.keep hk9).kb hf 182 rfl (by first | rfl | exact int_eq (by omega))) ⟨hS.subA, by omega⟩ ?_
   clear hf hS; rintro i a w hf ⟨hS, hi⟩; (try dsimp only [List.cons_append, List.nil_append] at hf)
   refine c_seq (c_region ?_)
   refine sB hf hS (rd_lss hf rfl rfl rfl) ?_ ?_
   ·
    clear hf; intro hc36 a hf
    have hgz := cnt_zero (show i < k by omega) ops
    refine done_l (t_normal (c_seq ?_))
    refine c_true hf rfl ?_
    refine c_skip (t_normal (c_seq (c_block (c_seq (c_region ?_)))))
    refine sR hf hS ((by first | exact rd_indexAddrN1 hf rfl rfl rfl Try.underlying41 sz3 (by omega) | exact rd_indexAddr hf rfl rfl rfl Try.underlying41 sz3 (by first | decide | omega) (by omega))) ?_; clear hf; intro a hf
    refine sR hf hS (rd_load1 hf rfl rfl ag3 (by intro _ h; exact (h.slOfRw (by repeat (first | exact Sel.head | apply Sel.tail))).get (i64s_get hgz))) ?_; clear hf; intro a hf
    refine aN hf hS ?_; clear hf; intro a hf
    refine done_l (t_normal (c_seq (c_region ?_)))
    refine mN hf hS ?_; clear hf; intro a hf
    refine sB hf hS (rd_neq hf rfl rfl rfl) ?_ ?_
    ·
     clear hf; intro hc37 a hf
     exact absurd rfl hc37
    clear hf; intro hc37 a hf
    refine done_l (t_normal ?_)
    refine c_false hf rfl ?_
    refine c_skip (b_normal (t_normal (c_region ?_)))
    refine sP hf hS ?_; clear hf; intro a hf
    refine mN hf hS ?_; clear hf; intro a hf
    refine done_l ?_
    refine t_normal ⟨i + 1, ((hf.backA hk9).kb hf 182 rfl (by first | rfl | exact int_eq (by omega))), ⟨hS.subA, by omega⟩, by first | omega | (simp only []; omega)⟩
   clear hf; intro hc36 a hf
   refine done_l (t_normal (c_seq ?_))
   refine c_false hf rfl ?_
   refine c_exit (t_exit (t_exit (b_exit (t_normal (c_seq (c_region ?_))))))
   refine mN hf hS ?_; clear hf; intro a hf
   refine sB hf hS (rd_eql hf rfl rfl rfl) ?_ ?_
   ·
    clear hf; intro hc38 a hf
    iterate 2 ((first | refine mN hf hS ?_ | refine step_l (st_rd hf (Wn.some hf rfl rfl rfl rfl) (rd_move hf rfl rfl) hS rfl rfl ?_)); clear hf; intro a hf)
    refine step_l (st_call hf (Wn.some hf rfl rfl rfl rfl) rfl rfl rfl fn17 (NLen_c _ _ _ (hS.selA)) rfl rfl ?_)
    clear hf hS; rintro v a w ⟨rfl, hS⟩ hf
    refine step_l (st_rdB hf (Wn.some hf rfl rfl rfl rfl) (rd_eql hf rfl rfl rfl) hS rfl rfl ?_ ?_)
    ·
     clear hf; intro hc39 a hf
     iterate 2 ((first | refine mN hf hS ?_ | refine pT hf hS ?_); clear hf; intro a hf)
     refine step_l (st_call hf (Wn.some hf rfl rfl rfl rfl) rfl rfl rfl fn12 (awake_c hS) rfl rfl ?_)
     clear hf hS; rintro v a w ⟨rfl, hS⟩ hf
     iterate 2 ((first | refine aN hf hS ?_ | refine pT hf hS ?_); clear hf; intro a hf)
     refine done_l (t_normal (c_ret ?_))
     refine eT hf ?_
     exact ⟨rfl, hS.subA⟩
    clear hf; intro hc39 a hf
    exact absurd rfl hc39
   clear hf; intro hc38 a hf
   exact absurd (by omega) hc38
  clear hf; intro hc8 a hf
  iterate 2 ((first | refine mN hf hS ?_ | refine step_l (st_rd hf (Wn.some hf rfl rfl rfl rfl) (rd_move hf rfl rfl) hS rfl rfl ?_)); clear hf; intro a hf)
  refine step_l (st_rdB hf (Wn.some hf rfl rfl rfl rfl) (rd_eql hf rfl rfl rfl) hS rfl rfl ?_ ?_)
  ·
   clear hf; intro hc40 a hf
   refine pF hf hS ?_; clear hf; intro a hf
   refine done_l (t_normal ?_)
   refine c_true hf rfl ?_
   refine c_exit (t_exit ?_)
   refine b_exit' (by decide) ?_
   refine t_exit (t_exit (b_exit (t_normal (c_seq (c_seq (c_region ?_))))))
   refine mN hf hS ?_; clear hf; intro a hf
   refine sR hf hS (rd_len hf rfl rfl Try.underlying41) ?_; clear hf; intro a hf
   refine mN hf hS ?_; clear hf; intro a hf
   refine done_l (t_normal (c_block ?_))
   have hk10 := Keep.ofA hf [(6, 6), (12, 12), (17, 20), (109, 153)]
   refine c_loopK hk10 (α := Nat × List Int) (fun ⟨i, ops⟩ => [(12, .int .i64 (ops.length : Nat)), (109, .int .i64 (i : Nat))]) (fun ⟨i, ops⟩ w => Sat W (Rw 3 1 (some ⟨bo, 0, none⟩) k k (i64s (cnt k ops)) :: NetP 46 30 59 117 5 62 83 68 p ((ops).map mX1) 0 :: R) w ∧ i ≤ lt.length ∧ ops.length ≤ 80 ∧ (∀ n ∈ ops, 0 ≤ n ∧ n < (k : Int))) (fun ⟨i, ops⟩ => lt.length - i) (0, ops) (((hf.keep hk10).kb hf 109 rfl (by first | rfl | exact int_eq (by omega))).kb hf 12 rfl (by first | rfl | exact int_eq (by omega))) ⟨hS.subA, ⟨by omega, by omega, hr⟩⟩ ?_
   clear hf hS; rintro ⟨i, ops⟩ a w hf ⟨hS, ⟨hi, hlen, hr⟩⟩; (try dsimp only [List.cons_append, List.nil_append] at hf)
   refine c_seq (c_region ?_)
   refine sB hf hS (rd_lss hf rfl rfl rfl) ?_ ?_
   ·
    clear hf; intro hc41 a hf
    obtain ⟨x, hget⟩ := get_of_lt (l := lt) (k := i) (by omega) rfl; obtain ⟨adl, rfl⟩ := (hvt _ (hS.subA)).some (by omega)
    refine done_l (t_normal (c_seq ?_))
    refine c_true hf rfl ?_
    refine c_skip (t_normal (c_seq (c_block (c_seq (c_region ?_)))))
    refine mN hf hS ?_; clear hf; intro a hf
    refine sR hf hS ((by first | exact rd_indexAddrN1 hf rfl rfl rfl Try.underlying41 sz3 (by omega) | exact rd_indexAddr hf rfl rfl rfl Try.underlying41 sz3 (by first | decide | omega) (by omega))) ?_; clear hf; intro a hf
    refine sR hf hS (rd_load1 hf rfl rfl ag3 (by intro _ h; exact one_elem (hvt _ (h.subA)) hget)) ?_; clear hf; intro a hf
    iterate 2 (refine aN hf hS ?_; clear hf; intro a hf)
    refine done_l (t_normal (c_seq (c_seq (c_region ?_))))
    refine mN hf hS ?_; clear hf; intro a hf
    refine sB hf hS (rd_geq hf rfl rfl rfl) ?_ ?_
    ·
     clear hf; intro hc42 a hf
     iterate 4 ((first | refine kS hf ?_ | refine mN hf hS ?_ | refine pT hf hS ?_); clear hf; intro a hf)
     refine done_l (t_normal ?_)
     refine c_true hf rfl ?_
     refine c_exit (t_exit ?_)
     refine b_exit' (by decide) ?_
     refine t_exit (t_exit (b_exit (t_normal (c_seq (c_seq (c_region ?_))))))
     refine mN hf hS ?_; clear hf; intro a hf
     refine step_l (st_call hf (Wn.none rfl) rfl rfl rfl fn16 (NAll_c _ _ _ (hS.selA)) rfl rfl ?_)
     clear hf hS; rintro v a w ⟨q, cap, L, rfl, hA1, hA2, hA3, hS⟩ hf; have hLl : L.length = ops.length := by have := congrArg List.length hA1; rwa [List.length_map, List.length_map] at this
     refine sR hf hS (rd_len hf rfl rfl Try.underlying25) ?_; clear hf; intro a hf
     refine mN hf hS ?_; clear hf; intro a hf
     refine done_l (t_normal (c_block ?_))
     have hk11 := Keep.ofA hf [(6, 6), (12, 12), (22, 22), (157, 179)]
     refine c_loopK hk11 (α := Nat) (fun i => [(12, .int .i64 ((ops.length - i : Nat) : Int)), (157, .int .i64 (i : Nat))]) (fun i w => Sat W (Rw 3 1 (some ⟨bo, 0, none⟩) k k (i64s (cnt k (ops.drop i))) :: Rl 30 10 q L.length cap (L.flatMap msgC) :: NetP 46 30 59 117 5 62 83 68 p ([]) 0 :: R) w ∧ i ≤ ops.length) (fun i => ops.length - i) 0 (((hf.keep hk11).kb hf 157 rfl (by rfl)).kb hf 12 rfl (by rfl)) ⟨hS.subA, by omega⟩ ?_
     clear hf hS; rintro i a w hf ⟨hS, hi⟩; (try dsimp only [List.cons_append, List.nil_append] at hf)
     refine c_seq (c_region ?_)
     refine sB hf hS (rd_lss hf rfl rfl rfl) ?_ ?_
     ·
      clear hf; intro hc43 a hf
      obtain ⟨x, hget⟩ := get_of_lt (l := L) (k := i) (by omega) rfl; obtain ⟨ad, rfl⟩ := (hS.slOfRl (by repeat (first | exact Sel.head | apply Sel.tail))).some (by omega); obtain ⟨n, hgn⟩ := get_of_lt (l := ops) (k := i) (by omega) rfl; have hpx : pMsg x = mX1 n := Option.some.inj ((map_get pMsg hget).symm.trans (by rw [hA1]; exact map_get mX1 hgn)); obtain ⟨j, rfl⟩ : ∃ j : Nat, n = (j : Int) := ⟨n.toNat, by have := hr n (List.mem_of_getElem? hgn); omega⟩; have hj : j < k := by have := hr _ (List.mem_of_getElem? hgn); omega
      have hgc := cnt_get (ops := ops.drop i) hj
      have hcl : (ops.drop i).count (j : Int) ≤ (ops.drop i).length := List.count_le_length
      rw [List.length_drop] at hcl
      obtain ⟨kd, fr, tn, op, fo, ky, bk, ⟨qe, ce, es⟩, ⟨qd, cd, ds⟩, ⟨qm, cm, ms⟩, _⟩ := x; have hop := opX hpx; subst hop
      refine done_l (t_normal (c_seq ?_))
      refine c_true hf rfl ?_
      refine c_skip (t_normal (c_seq (c_block (c_seq (c_region ?_)))))
      refine sR hf hS ((by first | exact rd_indexAddrN hf rfl rfl rfl Try.underlying25 sz30 (by omega) | exact rd_indexAddr hf rfl rfl rfl Try.underlying25 sz30 (by first | decide | omega) (by omega))) ?_; clear hf; intro a hf
      refine sR hf hS (rd_loadN hf rfl rfl ag30 sz30 (by intro _ h; exact (show AggAt _ _ _ [.int .i64 kd, .int .i64 fr, .int .i64 tn, .int .i64 (j : Int), .int .i64 fo, .string (str ky), .int .i64 bk, .slice qe es.length ce, .slice qd ds.length cd, .slice qm ms.length cm] from SlAt.elem (cells := msgC) (h.slOfRl (by repeat (first | exact Sel.head | apply Sel.tail))) (fun _ => rfl) hget))) ?_; clear hf; intro a hf
      refine sA hf hS zr30 ?_
      clear hf hS; intro b_o a w hf hS
      refine sS hf hS sz30 ?_
      clear hf hS; intro a w hf hS
      refine done_l (t_normal (c_seq (c_seq (c_region ?_))))
      refine fA hf hS fb30_3 ?_; clear hf; intro a hf
      refine sR hf hS (rd_ld hf ag2) ?_; clear hf; intro a hf
      refine sB hf hS (rd_lss hf rfl rfl rfl) ?_ ?_
      ·
       clear hf; intro hc45 a hf
       exact absurd hc45 (by omega)
      clear hf; intro hc45 a hf
      refine mN hf hS ?_; clear hf; intro a hf
      refine fG hf hS fb30_3 ?_; clear hf; intro a hf
      refine sG hf hS (rd_ld hf ag2) ?_; clear hf; intro a hf
      refine sG hf hS (rd_move hf rfl rfl) ?_; clear hf; intro a hf
      refine step_l (st_rdB hf (Wn.some hf rfl rfl rfl rfl) (rd_geq hf rfl rfl rfl) hS rfl rfl ?_ ?_)
      ·
       clear hf; intro hc46 a hf
       exact absurd hc46 (by omega)
      clear hf; intro hc46 a hf
      refine pF hf hS ?_; clear hf; intro a hf
      refine done_l (t_normal ?_)
      refine c_false hf rfl ?_
      refine c_skip (t_normal (c_seq (c_region ?_)))
      refine mN hf hS ?_; clear hf; intro a hf
      refine fA hf hS fb30_3 ?_; clear hf; intro a hf
      refine sR hf hS (rd_ld hf ag2) ?_; clear hf; intro a hf
      refine sR hf hS ((by first | exact rd_indexAddrN1 hf rfl rfl rfl Try.underlying41 sz3 (by omega) | exact rd_indexAddr hf rfl rfl rfl Try.underlying41 sz3 (by first | decide | omega) (by omega))) ?_; clear hf; intro a hf
      refine sR hf hS (rd_load1 hf rfl rfl ag3 (by intro _ h; exact (h.slOfRw (by repeat (first | exact Sel.head | apply Sel.tail))).get (i64s_get hgc))) ?_; clear hf; intro a hf
      refine sR hf hS (rd_sub hf rfl rfl rfl (by first | exact Go.IntWalk.i64_in _ (by omega) | exact rfl)) ?_; clear hf; intro a hf
      refine sR hf hS ((by first | exact rd_indexAddrN1 hf rfl rfl rfl Try.underlying41 sz3 (by omega) | exact rd_indexAddr hf rfl rfl rfl Try.underlying41 sz3 (by first | decide | omega) (by omega))) ?_; clear hf; intro a hf
      refine step_l (st_storeRw hf (Wn.none rfl) hS rfl rfl rfl (by rfl) sz3 (by rfl) (by repeat (first | exact Sel.head | apply Sel.tail)) (by omega) rfl ?_)
      clear hf hS; intro a w hf hS
      refine done_l ?_
      replace hS := (hS.selA : Sat W (Rw 3 1 (some ⟨bo, 0, none⟩) k k _ :: _) _).rwCast (xs' := i64s (cnt k (ops.drop (i + 1)))) (by rw [← cnt_tail hj hgn, i64s_set]) rfl
      refine t_normal (c_region ?_)
      refine mN hf hS ?_; clear hf; intro a hf
      refine sR hf hS (rd_sub hf rfl rfl rfl (by first | exact Go.IntWalk.i64_in _ (by omega) | exact rfl)) ?_; clear hf; intro a hf
      refine aN hf hS ?_; clear hf; intro a hf
      refine done_l (b_normal (t_normal (c_region ?_)))
      refine sP hf hS ?_; clear hf; intro a hf
      refine mN hf hS ?_; clear hf; intro a hf
      refine done_l ?_
      refine t_normal ⟨i + 1, (((hf.backA hk11).kb hf 157 rfl (by first | rfl | exact int_eq (by omega))).kb hf 12 rfl (by first | rfl | exact int_eq (by omega))), ⟨hS.subA, by omega⟩, by first | omega | (simp only []; omega)⟩
     clear hf; intro hc43 a hf
     obtain rfl : i = ops.length := by omega
     refine done_l (t_normal (c_seq ?_))
     refine c_false hf rfl ?_
     refine c_exit (t_exit (t_exit (b_exit (t_normal (c_seq (c_seq (c_region ?_)))))))
     refine mN hf hS ?_; clear hf; intro a hf
     refine sR hf hS (rd_len hf rfl rfl Try.underlying41) ?_; clear hf; intro a hf
     refine mN hf hS ?_; clear hf; intro a hf
     refine done_l (t_normal (c_block ?_))
     have hk12 := Keep.ofA hf [(6, 6), (24, 24), (182, 188)]
     refine c_loopK hk12 (α := Nat) (fun i => [(182, .int .i64 (i : Nat))]) (fun i w => Sat W (Rw 3 1 (some ⟨bo, 0, none⟩) k k (i64s (cnt k (ops.drop ops.length))) :: NetP 46 30 59 117 5 62 83 68 p ([]) 0 :: R) w ∧ i ≤ k) (fun i => k - i) 0 ((hf.keep hk12).kb hf 182 rfl (by first | rfl | exact int_eq (by omega))) ⟨hS.subA, by omega⟩ ?_
     clear hf hS; rintro i a w hf ⟨hS, hi⟩; (try dsimp only [List.cons_append, List.nil_append] at hf)
     refine c_seq (c_region ?_)
     refine sB hf hS (rd_lss hf rfl rfl rfl) ?_ ?_
     ·
      clear hf; intro hc47 a hf
      have hgz := cnt_zero (show i < k by omega) ops
      refine done_l (t_normal (c_seq ?_))
      refine c_true hf rfl ?_
      refine c_skip (t_normal (c_seq (c_block (c_seq (c_region ?_)))))
      refine sR hf hS ((by first | exact rd_indexAddrN1 hf rfl rfl rfl Try.underlying41 sz3 (by omega) | exact rd_indexAddr hf rfl rfl rfl Try.underlying41 sz3 (by first | decide | omega) (by omega))) ?_; clear hf; intro a hf
      refine sR hf hS (rd_load1 hf rfl rfl ag3 (by intro _ h; exact (h.slOfRw (by repeat (first | exact Sel.head | apply Sel.tail))).get (i64s_get hgz))) ?_; clear hf; intro a hf
      refine aN hf hS ?_; clear hf; intro a hf
      refine done_l (t_normal (c_seq (c_region ?_)))
      refine mN hf hS ?_; clear hf; intro a hf
      refine sB hf hS (rd_neq hf rfl rfl rfl) ?_ ?_
      ·
       clear hf; intro hc48 a hf
       exact absurd rfl hc48
      clear hf; intro hc48 a hf
      refine done_l (t_normal ?_)
      refine c_false hf rfl ?_
      refine c_skip (b_normal (t_normal (c_region ?_)))
      refine sP hf hS ?_; clear hf; intro a hf
      refine mN hf hS ?_; clear hf; intro a hf
      refine done_l ?_
      refine t_normal ⟨i + 1, ((hf.backA hk12).kb hf 182 rfl (by first | rfl | exact int_eq (by omega))), ⟨hS.subA, by omega⟩, by first | omega | (simp only []; omega)⟩
     clear hf; intro hc47 a hf
     refine done_l (t_normal (c_seq ?_))
     refine c_false hf rfl ?_
     refine c_exit (t_exit (t_exit (b_exit (t_normal (c_seq (c_region ?_))))))
     refine mN hf hS ?_; clear hf; intro a hf
     refine sB hf hS (rd_eql hf rfl rfl rfl) ?_ ?_
     ·
      clear hf; intro hc49 a hf
      iterate 2 ((first | refine mN hf hS ?_ | refine step_l (st_rd hf (Wn.some hf rfl rfl rfl rfl) (rd_move hf rfl rfl) hS rfl rfl ?_)); clear hf; intro a hf)
      refine step_l (st_call hf (Wn.some hf rfl rfl rfl rfl) rfl rfl rfl fn17 (NLen_c _ _ _ (hS.selA)) rfl rfl ?_)
      clear hf hS; rintro v a w ⟨rfl, hS⟩ hf
      refine step_l (st_rdB hf (Wn.some hf rfl rfl rfl rfl) (rd_eql hf rfl rfl rfl) hS rfl rfl ?_ ?_)
      ·
       clear hf; intro hc50 a hf
       iterate 2 ((first | refine mN hf hS ?_ | refine pT hf hS ?_); clear hf; intro a hf)
       refine step_l (st_call hf (Wn.some hf rfl rfl rfl rfl) rfl rfl rfl fn12 (awake_c hS) rfl rfl ?_)
       clear hf hS; rintro v a w ⟨rfl, hS⟩ hf
       iterate 2 ((first | refine aN hf hS ?_ | refine pT hf hS ?_); clear hf; intro a hf)
       refine done_l (t_normal (c_ret ?_))
       refine eT hf ?_
       exact ⟨rfl, hS.subA⟩
      clear hf; intro hc50 a hf
      exact absurd rfl hc50
     clear hf; intro hc49 a hf
     exact absurd (by omega) hc49
    clear hf; intro hc42 a hf
    iterate 2 ((first | refine mN hf hS ?_ | refine step_l (st_rd hf (Wn.some hf rfl rfl rfl rfl) (rd_move hf rfl rfl) hS rfl rfl ?_)); clear hf; intro a hf)
    refine step_l (st_rdB hf (Wn.some hf rfl rfl rfl rfl) (rd_eql hf rfl rfl rfl) hS rfl rfl ?_ ?_)
    ·
     clear hf; intro hc51 a hf
     refine pF hf hS ?_; clear hf; intro a hf
     refine done_l (t_normal ?_)
     refine c_true hf rfl ?_
     refine c_exit (t_exit ?_)
     refine b_exit' (by decide) ?_
     refine t_exit (t_exit (b_exit (t_normal (c_seq (c_seq (c_region ?_))))))
     refine mN hf hS ?_; clear hf; intro a hf
     refine step_l (st_call hf (Wn.none rfl) rfl rfl rfl fn16 (NAll_c _ _ _ (hS.selA)) rfl rfl ?_)
     clear hf hS; rintro v a w ⟨q, cap, L, rfl, hA1, hA2, hA3, hS⟩ hf; have hLl : L.length = ops.length := by have := congrArg List.length hA1; rwa [List.length_map, List.length_map] at this
     refine sR hf hS (rd_len hf rfl rfl Try.underlying25) ?_; clear hf; intro a hf
     refine mN hf hS ?_; clear hf; intro a hf
     refine done_l (t_normal (c_block ?_))
     have hk13 := Keep.ofA hf [(6, 6), (12, 12), (22, 22), (157, 179)]
     refine c_loopK hk13 (α := Nat) (fun i => [(12, .int .i64 ((ops.length - i : Nat) : Int)), (157, .int .i64 (i : Nat))]) (fun i w => Sat W (Rw 3 1 (some ⟨bo, 0, none⟩) k k (i64s (cnt k (ops.drop i))) :: Rl 30 10 q L.length cap (L.flatMap msgC) :: NetP 46 30 59 117 5 62 83 68 p ([]) 0 :: R) w ∧ i ≤ ops.length) (fun i => ops.length - i) 0 (((hf.keep hk13).kb hf 157 rfl (by rfl)).kb hf 12 rfl (by rfl)) ⟨hS.subA, by omega⟩ ?_
     clear hf hS; rintro i a w hf ⟨hS, hi⟩; (try dsimp only [List.cons_append, List.nil_append] at hf)
     refine c_seq (c_region ?_)
     refine sB hf hS (rd_lss hf rfl rfl rfl) ?_ ?_
     ·
      clear hf; intro hc52 a hf
      obtain ⟨x, hget⟩ := get_of_lt (l := L) (k := i) (by omega) rfl; obtain ⟨ad, rfl⟩ := (hS.slOfRl (by repeat (first | exact Sel.head | apply Sel.tail))).some (by omega); obtain ⟨n, hgn⟩ := get_of_lt (l := ops) (k := i) (by omega) rfl; have hpx : pMsg x = mX1 n := Option.some.inj ((map_get pMsg hget).symm.trans (by rw [hA1]; exact map_get mX1 hgn)); obtain ⟨j, rfl⟩ : ∃ j : Nat, n = (j : Int) := ⟨n.toNat, by have := hr n (List.mem_of_getElem? hgn); omega⟩; have hj : j < k := by have := hr _ (List.mem_of_getElem? hgn); omega
      have hgc := cnt_get (ops := ops.drop i) hj
      have hcl : (ops.drop i).count (j : Int) ≤ (ops.drop i).length := List.count_le_length
      rw [List.length_drop] at hcl
      obtain ⟨kd, fr, tn, op, fo, ky, bk, ⟨qe, ce, es⟩, ⟨qd, cd, ds⟩, ⟨qm, cm, ms⟩, _⟩ := x; have hop := opX hpx; subst hop
      refine done_l (t_normal (c_seq ?_))
      refine c_true hf rfl ?_
      refine c_skip (t_normal (c_seq (c_block (c_seq (c_region ?_)))))
      refine sR hf hS ((by first | exact rd_indexAddrN hf rfl rfl rfl Try.underlying25 sz30 (by omega) | exact rd_indexAddr hf rfl rfl rfl Try.underlying25 sz30 (by first | decide | omega) (by omega))) ?_; clear hf; intro a hf
      refine sR hf hS (rd_loadN hf rfl rfl ag30 sz30 (by intro _ h; exact (show AggAt _ _ _ [.int .i64 kd, .int .i64 fr, .int .i64 tn, .int .i64 (j : Int), .int .i64 fo, .string (str ky), .int .i64 bk, .slice qe es.length ce, .slice qd ds.length cd, .slice qm ms.length cm] from SlAt.elem (cells := msgC) (h.slOfRl (by repeat (first | exact Sel.head | apply Sel.tail))) (fun _ => rfl) hget))) ?_; clear hf; intro a hf
      refine sA hf hS zr30 ?_
      clear hf hS; intro b_o a w hf hS
      refine sS hf hS sz30 ?_
      clear hf hS; intro a w hf hS
      refine done_l (t_normal (c_seq (c_seq (c_region ?_))))
      refine fA hf hS fb30_3 ?_; clear hf; intro a hf
      refine sR hf hS (rd_ld hf ag2) ?_; clear hf; intro a hf
      refine sB hf hS (rd_lss hf rfl rfl rfl) ?_ ?_
      ·
       clear hf; intro hc54 a hf
       exact absurd hc54 (by omega)
      clear hf; intro hc54 a hf
      refine mN hf hS ?_; clear hf; intro a hf
      refine fG hf hS fb30_3 ?_; clear hf; intro a hf
      refine sG hf hS (rd_ld hf ag2) ?_; clear hf; intro a hf
      refine sG hf hS (rd_move hf rfl rfl) ?_; clear hf; intro a hf
      refine step_l (st_rdB hf (Wn.some hf rfl rfl rfl rfl) (rd_geq hf rfl rfl rfl) hS rfl rfl ?_ ?_)
      ·
       clear hf; intro hc55 a hf
       exact absurd hc55 (by omega)
      clear hf; intro hc55 a hf
      refine pF hf hS ?_; clear hf; intro a hf
      refine done_l (t_normal ?_)
      refine c_false hf rfl ?_
      refine c_skip (t_normal (c_seq (c_region ?_)))
      refine mN hf hS ?_; clear hf; intro a hf
      refine fA hf hS fb30_3 ?_; clear hf; intro a hf
      refine sR hf hS (rd_ld hf ag2) ?_; clear hf; intro a hf
      refine sR hf hS ((by first | exact rd_indexAddrN1 hf rfl rfl rfl Try.underlying41 sz3 (by omega) | exact rd_indexAddr hf rfl rfl rfl Try.underlying41 sz3 (by first | decide | omega) (by omega))) ?_; clear hf; intro a hf
      refine sR hf hS (rd_load1 hf rfl rfl ag3 (by intro _ h; exact (h.slOfRw (by repeat (first | exact Sel.head | apply Sel.tail))).get (i64s_get hgc))) ?_; clear hf; intro a hf
      refine sR hf hS (rd_sub hf rfl rfl rfl (by first | exact Go.IntWalk.i64_in _ (by omega) | exact rfl)) ?_; clear hf; intro a hf
      refine sR hf hS ((by first | exact rd_indexAddrN1 hf rfl rfl rfl Try.underlying41 sz3 (by omega) | exact rd_indexAddr hf rfl rfl rfl Try.underlying41 sz3 (by first | decide | omega) (by omega))) ?_; clear hf; intro a hf
      refine step_l (st_storeRw hf (Wn.none rfl) hS rfl rfl rfl (by rfl) sz3 (by rfl) (by repeat (first | exact Sel.head | apply Sel.tail)) (by omega) rfl ?_)
      clear hf hS; intro a w hf hS
      refine done_l ?_
      replace hS := (hS.selA : Sat W (Rw 3 1 (some ⟨bo, 0, none⟩) k k _ :: _) _).rwCast (xs' := i64s (cnt k (ops.drop (i + 1)))) (by rw [← cnt_tail hj hgn, i64s_set]) rfl
      refine t_normal (c_region ?_)
      refine mN hf hS ?_; clear hf; intro a hf
      refine sR hf hS (rd_sub hf rfl rfl rfl (by first | exact Go.IntWalk.i64_in _ (by omega) | exact rfl)) ?_; clear hf; intro a hf
      refine aN hf hS ?_; clear hf; intro a hf
      refine done_l (b_normal (t_normal (c_region ?_)))
      refine sP hf hS ?_; clear hf; intro a hf
      refine mN hf hS ?_; clear hf; intro a hf
      refine done_l ?_
      refine t_normal ⟨i + 1, (((hf.backA hk13).kb hf 157 rfl (by first | rfl | exact int_eq (by omega))).kb hf 12 rfl (by first | rfl | exact int_eq (by omega))), ⟨hS.subA, by omega⟩, by first | omega | (simp only []; omega)⟩
     clear hf; intro hc52 a hf
     obtain rfl : i = ops.length := by omega
     refine done_l (t_normal (c_seq ?_))
     refine c_false hf rfl ?_
     refine c_exit (t_exit (t_exit (b_exit (t_normal (c_seq (c_seq (c_region ?_)))))))
     refine mN hf hS ?_; clear hf; intro a hf
     refine sR hf hS (rd_len hf rfl rfl Try.underlying41) ?_; clear hf; intro a hf
     refine mN hf hS ?_; clear hf; intro a hf
     refine done_l (t_normal (c_block ?_))
     have hk14 := Keep.ofA hf [(6, 6), (24, 24), (182, 188)]
     refine c_loopK hk14 (α := Nat) (fun i => [(182, .int .i64 (i : Nat))]) (fun i w => Sat W (Rw 3 1 (some ⟨bo, 0, none⟩) k k (i64s (cnt k (ops.drop ops.length))) :: NetP 46 30 59 117 5 62 83 68 p ([]) 0 :: R) w ∧ i ≤ k) (fun i => k - i) 0 ((hf.keep hk14).kb hf 182 rfl (by first | rfl | exact int_eq (by omega))) ⟨hS.subA, by omega⟩ ?_
     clear hf hS; rintro i a w hf ⟨hS, hi⟩; (try dsimp only [List.cons_append, List.nil_append] at hf)
     refine c_seq (c_region ?_)
     refine sB hf hS (rd_lss hf rfl rfl rfl) ?_ ?_
     ·
      clear hf; intro hc56 a hf
      have hgz := cnt_zero (show i < k by omega) ops
      refine done_l (t_normal (c_seq ?_))
      refine c_true hf rfl ?_
      refine c_skip (t_normal (c_seq (c_block (c_seq (c_region ?_)))))
      refine sR hf hS ((by first | exact rd_indexAddrN1 hf rfl rfl rfl Try.underlying41 sz3 (by omega) | exact rd_indexAddr hf rfl rfl rfl Try.underlying41 sz3 (by first | decide | omega) (by omega))) ?_; clear hf; intro a hf
      refine sR hf hS (rd_load1 hf rfl rfl ag3 (by intro _ h; exact (h.slOfRw (by repeat (first | exact Sel.head | apply Sel.tail))).get (i64s_get hgz))) ?_; clear hf; intro a hf
      refine aN hf hS ?_; clear hf; intro a hf
      refine done_l (t_normal (c_seq (c_region ?_)))
      refine mN hf hS ?_; clear hf; intro a hf
      refine sB hf hS (rd_neq hf rfl rfl rfl) ?_ ?_
      ·
       clear hf; intro hc57 a hf
       exact absurd rfl hc57
      clear hf; intro hc57 a hf
      refine done_l (t_normal ?_)
      refine c_false hf rfl ?_
      refine c_skip (b_normal (t_normal (c_region ?_)))
      refine sP hf hS ?_; clear hf; intro a hf
      refine mN hf hS ?_; clear hf; intro a hf
      refine done_l ?_
      refine t_normal ⟨i + 1, ((hf.backA hk14).kb hf 182 rfl (by first | rfl | exact int_eq (by omega))), ⟨hS.subA, by omega⟩, by first | omega | (simp only []; omega)⟩
     clear hf; intro hc56 a hf
     refine done_l (t_normal (c_seq ?_))
     refine c_false hf rfl ?_
     refine c_exit (t_exit (t_exit (b_exit (t_normal (c_seq (c_region ?_))))))
     refine mN hf hS ?_; clear hf; intro a hf
     refine sB hf hS (rd_eql hf rfl rfl rfl) ?_ ?_
     ·
      clear hf; intro hc58 a hf
      iterate 2 ((first | refine mN hf hS ?_ | refine step_l (st_rd hf (Wn.some hf rfl rfl rfl rfl) (rd_move hf rfl rfl) hS rfl rfl ?_)); clear hf; intro a hf)
      refine step_l (st_call hf (Wn.some hf rfl rfl rfl rfl) rfl rfl rfl fn17 (NLen_c _ _ _ (hS.selA)) rfl rfl ?_)
      clear hf hS; rintro v a w ⟨rfl, hS⟩ hf
      refine step_l (st_rdB hf (Wn.some hf rfl rfl rfl rfl) (rd_eql hf rfl rfl rfl) hS rfl rfl ?_ ?_)
      ·
       clear hf; intro hc59 a hf
       iterate 2 ((first | refine mN hf hS ?_ | refine pT hf hS ?_); clear hf; intro a hf)
       refine step_l (st_call hf (Wn.some hf rfl rfl rfl rfl) rfl rfl rfl fn12 (awake_c hS) rfl rfl ?_)
       clear hf hS; rintro v a w ⟨rfl, hS⟩ hf
       iterate 2 ((first | refine aN hf hS ?_ | refine pT hf hS ?_); clear hf; intro a hf)
       refine done_l (t_normal (c_ret ?_))
       refine eT hf ?_
       exact ⟨rfl, hS.subA⟩
      clear hf; intro hc59 a hf
      exact absurd rfl hc59
     clear hf; intro hc58 a hf
     exact absurd (by omega) hc58
    clear hf; intro hc51 a hf
    refine pF hf hS ?_; clear hf; intro a hf
    refine done_l (t_normal ?_)
    refine c_false hf rfl ?_
    refine c_skip (t_normal (c_seq (c_region ?_)))
    iterate 2 (refine mN hf hS ?_; clear hf; intro a hf)
    refine sR hf hS (rd_convInt hf rfl rfl Try.underlying3 Try.underlying24 rfl) ?_; clear hf; intro a hf
    refine mN hf hS ?_; clear hf; intro a hf
    refine sR hf hS (rd_convInt hf rfl rfl Try.underlying3 Try.underlying24 (wrap64 (by omega))) ?_; clear hf; intro a hf
    refine sR hf hS (rd_rem hf rfl rfl rfl (by first | decide | omega) (u64mod x (by omega))) ?_; clear hf; intro a hf
    refine sR hf hS (rd_convInt hf rfl rfl Try.underlying24 Try.underlying3 (Go.IntWalk.i64_in _ (by have := Nat.mod_lt (x % 18446744073709551616).toNat (show 0 < ops.length by omega); omega))) ?_; clear hf; intro a hf
    obtain ⟨P, hPe⟩ : ∃ P : Nat, P = (x % 18446744073709551616).toNat % ops.length := ⟨_, rfl⟩; have hP : P < ops.length := (by rw [hPe]; exact Nat.mod_lt _ (by omega)); rw [← hPe] at hf; obtain ⟨n, hgn⟩ := get_of_lt (l := ops) (k := P) hP rfl; obtain ⟨j, rfl⟩ : ∃ j : Nat, n = (j : Int) := ⟨n.toNat, by have := hr n (List.mem_of_getElem? hgn); omega⟩; have hj : j < k := (by have := hr _ (List.mem_of_getElem? hgn); omega); have hgc := cnt_get (ops := ops) hj; have hcl : ops.count (j : Int) ≤ ops.length := List.count_le_length
    refine step_l (st_call hf (Wn.none rfl) rfl rfl rfl fn19 (NTake_c _ _ _ _ (hS.selA)) rfl rfl ?_)
    clear hf hS; rintro v a w ⟨bb, kd, fr, tn, op, fo, ky, bk, es, qe, ce, ds, qd, cd, ms, qm, cm, rfl, hibb, hxbb, hkbb, hS⟩ hf; rw [take_map hP] at hS; obtain rfl : bb = true := hibb.trans (inS_map hP); have hop := opX ((hxbb (hibb.trans (inS_map hP))).trans (getX hgn)); subst hop
    refine mN hf hS ?_; clear hf; intro a hf
    refine sR hf hS (rd_extract hf rfl rfl rfl) ?_; clear hf; intro a hf
    refine step_l (st_rdb hf (Wn.none rfl) (rd_extract hf rfl rfl rfl) hS rfl rfl ?_ ?_)
    ·
     clear hf; intro hc60 a hf
     refine sA hf hS zr30 ?_
     clear hf hS; intro b_t a w hf hS
     refine sS hf hS sz30 ?_
     clear hf hS; intro a w hf hS
     refine aN hf hS ?_; clear hf; intro a hf
     refine done_l (t_normal (c_seq (c_seq (c_region ?_))))
     refine mN hf hS ?_; clear hf; intro a hf
     refine nT hf hS ?_; clear hf; intro a hf
     refine mN hf hS ?_; clear hf; intro a hf
     refine fG hf hS fb30_3 ?_; clear hf; intro a hf
     refine sG hf hS (rd_ld hf ag2) ?_; clear hf; intro a hf
     refine step_l (st_rdB hf (Wn.some hf rfl rfl rfl rfl) (rd_lss hf rfl rfl rfl) hS rfl rfl ?_ ?_)
     ·
      clear hf; intro hc62 a hf
      exact absurd hc62 (by omega)
     clear hf; intro hc62 a hf
     iterate 2 ((first | refine mN hf hS ?_ | refine pF hf hS ?_); clear hf; intro a hf)
     refine fG hf hS fb30_3 ?_; clear hf; intro a hf
     refine sG hf hS (rd_ld hf ag2) ?_; clear hf; intro a hf
     refine sG hf hS (rd_move hf rfl rfl) ?_; clear hf; intro a hf
     refine step_l (st_rdB hf (Wn.some hf rfl rfl rfl rfl) (rd_geq hf rfl rfl rfl) hS rfl rfl ?_ ?_)
     ·
      clear hf; intro hc63 a hf
      exact absurd hc63 (by omega)
     clear hf; intro hc63 a hf
     refine pF hf hS ?_; clear hf; intro a hf
     refine done_l (t_normal ?_)
     refine c_false hf rfl ?_
     refine c_skip (t_normal (c_seq (c_region ?_)))
     refine mN hf hS ?_; clear hf; intro a hf
     refine fA hf hS fb30_3 ?_; clear hf; intro a hf
     refine sR hf hS (rd_ld hf ag2) ?_; clear hf; intro a hf
     refine sR hf hS ((by first | exact rd_indexAddrN1 hf rfl rfl rfl Try.underlying41 sz3 (by omega) | exact rd_indexAddr hf rfl rfl rfl Try.underlying41 sz3 (by first | decide | omega) (by omega))) ?_; clear hf; intro a hf
     refine sR hf hS (rd_load1 hf rfl rfl ag3 (by intro _ h; exact (h.slOfRw (by repeat (first | exact Sel.head | apply Sel.tail))).get (i64s_get hgc))) ?_; clear hf; intro a hf
     refine sR hf hS (rd_sub hf rfl rfl rfl (by first | exact Go.IntWalk.i64_in _ (by omega) | exact rfl)) ?_; clear hf; intro a hf
     refine sR hf hS ((by first | exact rd_indexAddrN1 hf rfl rfl rfl Try.underlying41 sz3 (by omega) | exact rd_indexAddr hf rfl rfl rfl Try.underlying41 sz3 (by first | decide | omega) (by omega))) ?_; clear hf; intro a hf
     refine step_l (st_storeRw hf (Wn.none rfl) hS rfl rfl rfl (by rfl) sz3 (by rfl) (by repeat (first | exact Sel.head | apply Sel.tail)) (by omega) rfl ?_)
     clear hf hS; intro a w hf hS
     refine done_l ?_
     replace hS := (hS.selA : Sat W (Rw 3 1 (some ⟨bo, 0, none⟩) k k _ :: _) _).rwCast (xs' := i64s (cnt k (ops.take P ++ ops.drop (P + 1)))) (by rw [← cnt_del hj hgn, i64s_set]) rfl
     refine t_normal (c_region ?_)
     refine mN hf hS ?_; clear hf; intro a hf
     refine sR hf hS (rd_sub hf rfl rfl rfl (by first | exact Go.IntWalk.i64_in _ (by omega) | exact rfl)) ?_; clear hf; intro a hf
     refine aN hf hS ?_; clear hf; intro a hf
     refine done_l (b_normal (t_normal (c_region ?_)))
     refine sP hf hS ?_; clear hf; intro a hf
     refine mN hf hS ?_; clear hf; intro a hf
     refine done_l ?_
     refine t_normal ⟨(i + 1, ops.take P ++ ops.drop (P + 1)), (((hf.backA hk10).kb hf 109 rfl (by first | rfl | exact int_eq (by omega))).kb hf 12 rfl (by rw [len_cut hP]; exact int_eq (by omega))), ⟨hS.subA, ⟨by omega, by rw [len_cut hP]; omega, fun n hn => hr n (mem_cut hn)⟩⟩, by first | omega | (simp only []; omega)⟩
    clear hf; intro hc60 a hf
    exact Bool.noConfusion hc60
   clear hf; intro hc41 a hf
   refine done_l (t_normal (c_seq ?_))
   refine c_false hf rfl ?_
   refine c_exit (t_exit (t_exit (b_exit (t_normal (c_seq (c_seq (c_region ?_)))))))
   refine mN hf hS ?_; clear hf; intro a hf
   refine step_l (st_call hf (Wn.none rfl) rfl rfl rfl fn16 (NAll_c _ _ _ (hS.selA)) rfl rfl ?_)
   clear hf hS; rintro v a w ⟨q, cap, L, rfl, hA1, hA2, hA3, hS⟩ hf; have hLl : L.length = ops.length := by have := congrArg List.length hA1; rwa [List.length_map, List.length_map] at this
   refine sR hf hS (rd_len hf rfl rfl Try.underlying25) ?_; clear hf; intro a hf
   refine mN hf hS ?_; clear hf; intro a hf
   refine done_l (t_normal (c_block ?_))
   have hk15 := Keep.ofA hf [(6, 6), (12, 12), (22, 22), (157, 179)]
   refine c_loopK hk15 (α := Nat) (fun i => [(12, .int .i64 ((ops.length - i : Nat) : Int)), (157, .int .i64 (i : Nat))]) (fun i w => Sat W (Rw 3 1 (some ⟨bo, 0, none⟩) k k (i64s (cnt k (ops.drop i))) :: Rl 30 10 q L.length cap (L.flatMap msgC) :: NetP 46 30 59 117 5 62 83 68 p ([]) 0 :: R) w ∧ i ≤ ops.length) (fun i => ops.length - i) 0 (((hf.keep hk15).kb hf 157 rfl (by rfl)).kb hf 12 rfl (by rfl)) ⟨hS.subA, by omega⟩ ?_
   clear hf hS; rintro i a w hf ⟨hS, hi⟩; (try dsimp only [List.cons_append, List.nil_append] at hf)
   refine c_seq (c_region ?_)
   refine sB hf hS (rd_lss hf rfl rfl rfl) ?_ ?_
   ·
    clear hf; intro hc64 a hf
    obtain ⟨x, hget⟩ := get_of_lt (l := L) (k := i) (by omega) rfl; obtain ⟨ad, rfl⟩ := (hS.slOfRl (by repeat (first | exact Sel.head | apply Sel.tail))).some (by omega); obtain ⟨n, hgn⟩ := get_of_lt (l := ops) (k := i) (by omega) rfl; have hpx : pMsg x = mX1 n := Option.some.inj ((map_get pMsg hget).symm.trans (by rw [hA1]; exact map_get mX1 hgn)); obtain ⟨j, rfl⟩ : ∃ j : Nat, n = (j : Int) := ⟨n.toNat, by have := hr n (List.mem_of_getElem? hgn); omega⟩; have hj : j < k := by have := hr _ (List.mem_of_getElem? hgn); omega
    have hgc := cnt_get (ops := ops.drop i) hj
    have hcl : (ops.drop i).count (j : Int) ≤ (ops.drop i).length := List.count_le_length
    rw [List.length_drop] at hcl
    obtain ⟨kd, fr, tn, op, fo, ky, bk, ⟨qe, ce, es⟩, ⟨qd, cd, ds⟩, ⟨qm, cm, ms⟩, _⟩ := x; have hop := opX hpx; subst hop
    refine done_l (t_normal (c_seq ?_))
    refine c_true hf rfl ?_
    refine c_skip (t_normal (c_seq (c_block (c_seq (c_region ?_)))))
    refine sR hf hS ((by first | exact rd_indexAddrN hf rfl rfl rfl Try.underlying25 sz30 (by omega) | exact rd_indexAddr hf rfl rfl rfl Try.underlying25 sz30 (by first | decide | omega) (by omega))) ?_; clear hf; intro a hf
    refine sR hf hS (rd_loadN hf rfl rfl ag30 sz30 (by intro _ h; exact (show AggAt _ _ _ [.int .i64 kd, .int .i64 fr, .int .i64 tn, .int .i64 (j : Int), .int .i64 fo, .string (str ky), .int .i64 bk, .slice qe es.length ce, .slice qd ds.length cd, .slice qm ms.length cm] from SlAt.elem (cells := msgC) (h.slOfRl (by repeat (first | exact Sel.head | apply Sel.tail))) (fun _ => rfl) hget))) ?_; clear hf; intro a hf
    refine sA hf hS zr30 ?_
    clear hf hS; intro b_o a w hf hS
    refine sS hf hS sz30 ?_
    clear hf hS; intro a w hf hS
    refine done_l (t_normal (c_seq (c_seq (c_region ?_))))
    refine fA hf hS fb30_3 ?_; clear hf; intro a hf
    refine sR hf hS (rd_ld hf ag2) ?_; clear hf; intro a hf
    refine sB hf hS (rd_lss hf rfl rfl rfl) ?_ ?_
    ·
     clear hf; intro hc66 a hf
     exact absurd hc66 (by omega)
    clear hf; intro hc66 a hf
    refine mN hf hS ?_; clear hf; intro a hf
    refine fG hf hS fb30_3 ?_; clear hf; intro a hf
    refine sG hf hS (rd_ld hf ag2) ?_; clear hf; intro a hf
    refine sG hf hS (rd_move hf rfl rfl) ?_; clear hf; intro a hf
    refine step_l (st_rdB hf (Wn.some hf rfl rfl rfl rfl) (rd_geq hf rfl rfl rfl) hS rfl rfl ?_ ?_)
    ·
     clear hf; intro hc67 a hf
     exact absurd hc67 (by omega)
    clear hf; intro hc67 a hf
    refine pF hf hS ?_; clear hf; intro a hf
    refine done_l (t_normal ?_)
    refine c_false hf rfl ?_
    refine c_skip (t_normal (c_seq (c_region ?_)))
    refine mN hf hS ?_; clear hf; intro a hf
    refine fA hf hS fb30_3 ?_; clear hf; intro a hf
    refine sR hf hS (rd_ld hf ag2) ?_; clear hf; intro a hf
    refine sR hf hS ((by first | exact rd_indexAddrN1 hf rfl rfl rfl Try.underlying41 sz3 (by omega) | exact rd_indexAddr hf rfl rfl rfl Try.underlying41 sz3 (by first | decide | omega) (by omega))) ?_; clear hf; intro a hf
    refine sR hf hS (rd_load1 hf rfl rfl ag3 (by intro _ h; exact (h.slOfRw (by repeat (first | exact Sel.head | apply Sel.tail))).get (i64s_get hgc))) ?_; clear hf; intro a hf
    refine sR hf hS (rd_sub hf rfl rfl rfl (by first | exact Go.IntWalk.i64_in _ (by omega) | exact rfl)) ?_; clear hf; intro a hf
    refine sR hf hS ((by first | exact rd_indexAddrN1 hf rfl rfl rfl Try.underlying41 sz3 (by omega) | exact rd_indexAddr hf rfl rfl rfl Try.underlying41 sz3 (by first | decide | omega) (by omega))) ?_; clear hf; intro a hf
    refine step_l (st_storeRw hf (Wn.none rfl) hS rfl rfl rfl (by rfl) sz3 (by rfl) (by repeat (first | exact Sel.head | apply Sel.tail)) (by omega) rfl ?_)
    clear hf hS; intro a w hf hS
    refine done_l ?_
    replace hS := (hS.selA : Sat W (Rw 3 1 (some ⟨bo, 0, none⟩) k k _ :: _) _).rwCast (xs' := i64s (cnt k (ops.drop (i + 1)))) (by rw [← cnt_tail hj hgn, i64s_set]) rfl
    refine t_normal (c_region ?_)
    refine mN hf hS ?_; clear hf; intro a hf
    refine sR hf hS (rd_sub hf rfl rfl rfl (by first | exact Go.IntWalk.i64_in _ (by omega) | exact rfl)) ?_; clear hf; intro a hf
    refine aN hf hS ?_; clear hf; intro a hf
    refine done_l (b_normal (t_normal (c_region ?_)))
    refine sP hf hS ?_; clear hf; intro a hf
    refine mN hf hS ?_; clear hf; intro a hf
    refine done_l ?_
    refine t_normal ⟨i + 1, (((hf.backA hk15).kb hf 157 rfl (by first | rfl | exact int_eq (by omega))).kb hf 12 rfl (by first | rfl | exact int_eq (by omega))), ⟨hS.subA, by omega⟩, by first | omega | (simp only []; omega)⟩
   clear hf; intro hc64 a hf
   obtain rfl : i = ops.length := by omega
   refine done_l (t_normal (c_seq ?_))
   refine c_false hf rfl ?_
   refine c_exit (t_exit (t_exit (b_exit (t_normal (c_seq (c_seq (c_region ?_)))))))
   refine mN hf hS ?_; clear hf; intro a hf
   refine sR hf hS (rd_len hf rfl rfl Try.underlying41) ?_; clear hf; intro a hf
   refine mN hf hS ?_; clear hf; intro a hf
   refine done_l (t_normal (c_block ?_))
   have hk16 := Keep.ofA hf [(6, 6), (24, 24), (182, 188)]
   refine c_loopK hk16 (α := Nat) (fun i => [(182, .int .i64 (i : Nat))]) (fun i w => Sat W (Rw 3 1 (some ⟨bo, 0, none⟩) k k (i64s (cnt k (ops.drop ops.length))) :: NetP 46 30 59 117 5 62 83 68 p ([]) 0 :: R) w ∧ i ≤ k) (fun i => k - i) 0 ((hf.keep hk16).kb hf 182 rfl (by first | rfl | exact int_eq (by omega))) ⟨hS.subA, by omega⟩ ?_
   clear hf hS; rintro i a w hf ⟨hS, hi⟩; (try dsimp only [List.cons_append, List.nil_append] at hf)
   refine c_seq (c_region ?_)
   refine sB hf hS (rd_lss hf rfl rfl rfl) ?_ ?_
   ·
    clear hf; intro hc68 a hf
    have hgz := cnt_zero (show i < k by omega) ops
    refine done_l (t_normal (c_seq ?_))
    refine c_true hf rfl ?_
    refine c_skip (t_normal (c_seq (c_block (c_seq (c_region ?_)))))
    refine sR hf hS ((by first | exact rd_indexAddrN1 hf rfl rfl rfl Try.underlying41 sz3 (by omega) | exact rd_indexAddr hf rfl rfl rfl Try.underlying41 sz3 (by first | decide | omega) (by omega))) ?_; clear hf; intro a hf
    refine sR hf hS (rd_load1 hf rfl rfl ag3 (by intro _ h; exact (h.slOfRw (by repeat (first | exact Sel.head | apply Sel.tail))).get (i64s_get hgz))) ?_; clear hf; intro a hf
    refine aN hf hS ?_; clear hf; intro a hf
    refine done_l (t_normal (c_seq (c_region ?_)))
    refine mN hf hS ?_; clear hf; intro a hf
    refine sB hf hS (rd_neq hf rfl rfl rfl) ?_ ?_
    ·
     clear hf; intro hc69 a hf
     exact absurd rfl hc69
    clear hf; intro hc69 a hf
    refine done_l (t_normal ?_)
    refine c_false hf rfl ?_
    refine c_skip (b_normal (t_normal (c_region ?_)))
    refine sP hf hS ?_; clear hf; intro a hf
    refine mN hf hS ?_; clear hf; intro a hf
    refine done_l ?_
    refine t_normal ⟨i + 1, ((hf.backA hk16).kb hf 182 rfl (by first | rfl | exact int_eq (by omega))), ⟨hS.subA, by omega⟩, by first | omega | (simp only []; omega)⟩
   clear hf; intro hc68 a hf
   refine done_l (t_normal (c_seq ?_))
   refine c_false hf rfl ?_
   refine c_exit (t_exit (t_exit (b_exit (t_normal (c_seq (c_region ?_))))))
   refine mN hf hS ?_; clear hf; intro a hf
   refine sB hf hS (rd_eql hf rfl rfl rfl) ?_ ?_
   ·
    clear hf; intro hc70 a hf
    iterate 2 ((first | refine mN hf hS ?_ | refine step_l (st_rd hf (Wn.some hf rfl rfl rfl rfl) (rd_move hf rfl rfl) hS rfl rfl ?_)); clear hf; intro a hf)
    refine step_l (st_call hf (Wn.some hf rfl rfl rfl rfl) rfl rfl rfl fn17 (NLen_c _ _ _ (hS.selA)) rfl rfl ?_)
    clear hf hS; rintro v a w ⟨rfl, hS⟩ hf
    refine step_l (st_rdB hf (Wn.some hf rfl rfl rfl rfl) (rd_eql hf rfl rfl rfl) hS rfl rfl ?_ ?_)
    ·
     clear hf; intro hc71 a hf
     iterate 2 ((first | refine mN hf hS ?_ | refine pT hf hS ?_); clear hf; intro a hf)
     refine step_l (st_call hf (Wn.some hf rfl rfl rfl rfl) rfl rfl rfl fn12 (awake_c hS) rfl rfl ?_)
     clear hf hS; rintro v a w ⟨rfl, hS⟩ hf
     iterate 2 ((first | refine aN hf hS ?_ | refine pT hf hS ?_); clear hf; intro a hf)
     refine done_l (t_normal (c_ret ?_))
     refine eT hf ?_
     exact ⟨rfl, hS.subA⟩
    clear hf; intro hc71 a hf
    exact absurd rfl hc71
   clear hf; intro hc70 a hf
   exact absurd (by omega) hc70
  clear hf; intro hc40 a hf
  refine pF hf hS ?_; clear hf; intro a hf
  refine done_l (t_normal ?_)
  refine c_false hf rfl ?_
  refine c_skip (t_normal (c_seq (c_region ?_)))
  refine mN hf hS ?_; clear hf; intro a hf
  refine sR hf hS (rd_convInt hf rfl rfl Try.underlying3 Try.underlying24 rfl) ?_; clear hf; intro a hf
  refine mN hf hS ?_; clear hf; intro a hf
  refine sR hf hS (rd_convInt hf rfl rfl Try.underlying3 Try.underlying24 (wrap64 (by omega))) ?_; clear hf; intro a hf
  refine sR hf hS (rd_rem hf rfl rfl rfl (by first | decide | omega) (u64mod x (by omega))) ?_; clear hf; intro a hf
  refine sR hf hS (rd_convInt hf rfl rfl Try.underlying24 Try.underlying3 (Go.IntWalk.i64_in _ (by have := Nat.mod_lt (x % 18446744073709551616).toNat (show 0 < ops.length by omega); omega))) ?_; clear hf; intro a hf
  refine aN hf hS ?_; clear hf; intro a hf
  refine done_l ?_
  obtain ⟨P, hPe⟩ : ∃ P : Nat, P = (x % 18446744073709551616).toNat % ops.length := ⟨_, rfl⟩
  have hP : P < ops.length := (by rw [hPe]; exact Nat.mod_lt _ (by omega))
  rw [← hPe] at hf
  obtain ⟨n, hgn⟩ := get_of_lt (l := ops) (k := P) hP rfl
  obtain ⟨j, rfl⟩ : ∃ j : Nat, n = (j : Int) := ⟨n.toNat, by have := hr n (List.mem_of_getElem? hgn); omega⟩
  have hj : j < k := (by have := hr _ (List.mem_of_getElem? hgn); omega)
  have hgc := cnt_get (ops := ops) hj
  have hcl : ops.count (j : Int) ≤ ops.length := List.count_le_length
  refine t_normal (c_seq (c_region ?_))
  iterate 2 (refine mN hf hS ?_; clear hf; intro a hf)
  refine step_l (st_call hf (Wn.none rfl) rfl rfl rfl fn18 (NAt_c _ _ _ _ (hS.selA)) rfl rfl ?_)
  clear hf hS; rintro v a w ⟨bb, kd, fr, tn, op, fo, ky, bk, es, qe, ce, ds, qd, cd, ms, qm, cm, rfl, hibb, hxbb, hkbb, hS⟩ hf; have hop := opX ((hxbb (hibb.trans (inS_map hP))).trans (getX hgn)); subst hop
  refine mN hf hS ?_; clear hf; intro a hf
  refine sR hf hS (rd_extract hf rfl rfl rfl) ?_; clear hf; intro a hf
  refine sR hf hS (rd_extract hf rfl rfl rfl) ?_; clear hf; intro a hf
  refine sA hf hS zr30 ?_
  clear hf hS; intro b_m a w hf hS
  refine sS hf hS sz30 ?_
  clear hf hS; intro a w hf hS
  refine aN hf hS ?_; clear hf; intro a hf
  refine done_l (t_normal (c_seq (c_seq (c_region ?_))))
  iterate 2 (refine mN hf hS ?_; clear hf; intro a hf)
  refine step_l (st_call hf (Wn.none rfl) rfl rfl rfl fn10 (NCopy_c _ _ _ _ (hS.selA)) rfl rfl ?_)
  clear hf hS; rintro v a w ⟨rfl, hS⟩ hf; rw [(copy_map hgn (by omega)).1] at hf; rw [(copy_map hgn (by omega)).2] at hS
  first | refine split_dec (d := 84) hf rfl ?_ ?_ | refine split_bool (d := 84) hf rfl ?_ ?_
  ·
   clear hf; intro hc73 hf
   refine nT hf hS ?_; clear hf; intro a hf
   refine mN hf hS ?_; clear hf; intro a hf
   refine fG hf hS fb30_3 ?_; clear hf; intro a hf
   refine sG hf hS (rd_ld hf ag2) ?_; clear hf; intro a hf
   refine step_l (st_rdB hf (Wn.some hf rfl rfl rfl rfl) (rd_lss hf rfl rfl rfl) hS rfl rfl ?_ ?_)
   ·
    clear hf; intro hc74 a hf
    exact absurd hc74 (by omega)
   clear hf; intro hc74 a hf
   iterate 2 ((first | refine mN hf hS ?_ | refine pF hf hS ?_); clear hf; intro a hf)
   refine fG hf hS fb30_3 ?_; clear hf; intro a hf
   refine sG hf hS (rd_ld hf ag2) ?_; clear hf; intro a hf
   refine sG hf hS (rd_move hf rfl rfl) ?_; clear hf; intro a hf
   refine step_l (st_rdB hf (Wn.some hf rfl rfl rfl rfl) (rd_geq hf rfl rfl rfl) hS rfl rfl ?_ ?_)
   ·
    clear hf; intro hc75 a hf
    exact absurd hc75 (by omega)
   clear hf; intro hc75 a hf
   refine pF hf hS ?_; clear hf; intro a hf
   refine done_l (t_normal ?_)
   refine c_false hf rfl ?_
   refine c_skip (t_normal (c_seq (c_region ?_)))
   refine mN hf hS ?_; clear hf; intro a hf
   refine fA hf hS fb30_3 ?_; clear hf; intro a hf
   refine sR hf hS (rd_ld hf ag2) ?_; clear hf; intro a hf
   refine sR hf hS ((by first | exact rd_indexAddrN1 hf rfl rfl rfl Try.underlying41 sz3 (by omega) | exact rd_indexAddr hf rfl rfl rfl Try.underlying41 sz3 (by first | decide | omega) (by omega))) ?_; clear hf; intro a hf
   refine sR hf hS (rd_load1 hf rfl rfl ag3 (by intro _ h; exact (h.slOfRw (by repeat (first | exact Sel.head | apply Sel.tail))).get (i64s_get hgc))) ?_; clear hf; intro a hf
   refine sP hf hS ?_; clear hf; intro a hf
   refine sR hf hS ((by first | exact rd_indexAddrN1 hf rfl rfl rfl Try.underlying41 sz3 (by omega) | exact rd_indexAddr hf rfl rfl rfl Try.underlying41 sz3 (by first | decide | omega) (by omega))) ?_; clear hf; intro a hf
   refine step_l (st_storeRw hf (Wn.none rfl) hS rfl rfl rfl (by rfl) sz3 (by rfl) (by repeat (first | exact Sel.head | apply Sel.tail)) (by omega) rfl ?_)
   clear hf hS; intro a w hf hS
   refine done_l ?_
   replace hS := (hS.selA : Sat W (Rw 3 1 (some ⟨bo, 0, none⟩) k k _ :: _) _).rwCast (xs' := i64s (cnt k (ops ++ [(j : Int)]))) (by rw [← cnt_add hj, i64s_set]) rfl
   refine t_normal (c_region ?_)
   refine mN hf hS ?_; clear hf; intro a hf
   refine sP hf hS ?_; clear hf; intro a hf
   refine aN hf hS ?_; clear hf; intro a hf
   refine done_l (b_normal (t_normal (c_region ?_)))
   refine sP hf hS ?_; clear hf; intro a hf
   refine mN hf hS ?_; clear hf; intro a hf
   refine done_l ?_
   refine t_normal ⟨(i + 1, ops ++ [(j : Int)]), (((hf.backA hk2).kb hf 59 rfl (by first | rfl | exact int_eq (by omega))).kb hf 12 rfl (by rw [List.length_append]; rfl)), ⟨hS.subA, ⟨by omega, by omega, by rw [List.length_append]; simp; omega, fun n hn => (List.mem_append.1 hn).elim (hr n) (fun h => by rw [List.mem_singleton.1 h]; omega)⟩⟩, by first | omega | (simp only []; omega)⟩
  clear hf; intro hc73 hf
  exact Bool.noConfusion hc73
 clear hf; intro hc7 a hf
 refine done_l (t_normal (c_seq ?_))
 refine c_false hf rfl ?_
 refine c_exit (t_exit (t_exit (b_exit (t_normal (c_seq (c_seq (c_region ?_)))))))
 refine mN hf hS ?_; clear hf; intro a hf
 refine sR hf hS (rd_len hf rfl rfl Try.underlying41) ?_; clear hf; intro a hf
 refine mN hf hS ?_; clear hf; intro a hf
 refine done_l (t_normal (c_block ?_))
 have hk17 := Keep.ofA hf [(6, 6), (12, 12), (17, 20), (109, 153)]
 refine c_loopK hk17 (α := Nat × List Int) (fun ⟨i, ops⟩ => [(12, .int .i64 (ops.length : Nat)), (109, .int .i64 (i : Nat))]) (fun ⟨i, ops⟩ w => Sat W (Rw 3 1 (some ⟨bo, 0, none⟩) k k (i64s (cnt k ops)) :: NetP 46 30 59 117 5 62 83 68 p ((ops).map mX1) 0 :: R) w ∧ i ≤ lt.length ∧ ops.length ≤ 80 ∧ (∀ n ∈ ops, 0 ≤ n ∧ n < (k : Int))) (fun ⟨i, ops⟩ => lt.length - i) (0, ops) (((hf.keep hk17).kb hf 109 rfl (by first | rfl | exact int_eq (by omega))).kb hf 12 rfl (by first | rfl | exact int_eq (by omega))) ⟨hS.subA, ⟨by omega, by omega, hr⟩⟩ ?_
 clear hf hS; rintro ⟨i, ops⟩ a w hf ⟨hS, ⟨hi, hlen, hr⟩⟩; (try dsimp only [List.cons_append, List.nil_append] at hf)
 refine c_seq (c_region ?_)
 refine sB hf hS (rd_lss hf rfl rfl rfl) ?_ ?_
 ·
  clear hf; intro hc76 a hf
  obtain ⟨x, hget⟩ := get_of_lt (l := lt) (k := i) (by omega) rfl; obtain ⟨adl, rfl⟩ := (hvt _ (hS.subA)).some (by omega)
  refine done_l (t_normal (c_seq ?_))
  refine c_true hf rfl ?_
  refine c_skip (t_normal (c_seq (c_block (c_seq (c_region ?_)))))
  refine mN hf hS ?_; clear hf; intro a hf
  refine sR hf hS ((by first | exact rd_indexAddrN1 hf rfl rfl rfl Try.underlying41 sz3 (by omega) | exact rd_indexAddr hf rfl rfl rfl Try.underlying41 sz3 (by first | decide | omega) (by omega))) ?_; clear hf; intro a hf
  refine sR hf hS (rd_load1 hf rfl rfl ag3 (by intro _ h; exact one_elem (hvt _ (h.subA)) hget)) ?_; clear hf; intro a hf
  iterate 2 (refine aN hf hS ?_; clear hf; intro a hf)
  refine done_l (t_normal (c_seq (c_seq (c_region ?_))))
  refine mN hf hS ?_; clear hf; intro a hf
  refine sB hf hS (rd_geq hf rfl rfl rfl) ?_ ?_
  ·
   clear hf; intro hc77 a hf
   iterate 4 ((first | refine kS hf ?_ | refine mN hf hS ?_ | refine pT hf hS ?_); clear hf; intro a hf)
   refine done_l (t_normal ?_)
   refine c_true hf rfl ?_
   refine c_exit (t_exit ?_)
   refine b_exit' (by decide) ?_
   refine t_exit (t_exit (b_exit (t_normal (c_seq (c_seq (c_region ?_))))))
   refine mN hf hS ?_; clear hf; intro a hf
   refine step_l (st_call hf (Wn.none rfl) rfl rfl rfl fn16 (NAll_c _ _ _ (hS.selA)) rfl rfl ?_)
   clear hf hS; rintro v a w ⟨q, cap, L, rfl, hA1, hA2, hA3, hS⟩ hf; have hLl : L.length = ops.length := by have := congrArg List.length hA1; rwa [List.length_map, List.length_map] at this
   refine sR hf hS (rd_len hf rfl rfl Try.underlying25) ?_; clear hf; intro a hf
   refine mN hf hS ?_; clear hf; intro a hf
   refine done_l (t_normal (c_block ?_))
   have hk18 := Keep.ofA hf [(6, 6), (12, 12), (22, 22), (157, 179)]
   refine c_loopK hk18 (α := Nat) (fun i => [(12, .int .i64 ((ops.length - i : Nat) : Int)), (157, .int .i64 (i : Nat))]) (fun i w => Sat W (Rw 3 1 (some ⟨bo, 0, none⟩) k k (i64s (cnt k (ops.drop i))) :: Rl 30 10 q L.length cap (L.flatMap msgC) :: NetP 46 30 59 117 5 62 83 68 p ([]) 0 :: R) w ∧ i ≤ ops.length) (fun i => ops.length - i) 0 (((hf.keep hk18).kb hf 157 rfl (by rfl)).kb hf 12 rfl (by rfl)) ⟨hS.subA, by omega⟩ ?_
   clear hf hS; rintro i a w hf ⟨hS, hi⟩; (try dsimp only [List.cons_append, List.nil_append] at hf)
   refine c_seq (c_region ?_)
   refine sB hf hS (rd_lss hf rfl rfl rfl) ?_ ?_
   ·
    clear hf; intro hc78 a hf
    obtain ⟨x, hget⟩ := get_of_lt (l := L) (k := i) (by omega) rfl; obtain ⟨ad, rfl⟩ := (hS.slOfRl (by repeat (first | exact Sel.head | apply Sel.tail))).some (by omega); obtain ⟨n, hgn⟩ := get_of_lt (l := ops) (k := i) (by omega) rfl; have hpx : pMsg x = mX1 n := Option.some.inj ((map_get pMsg hget).symm.trans (by rw [hA1]; exact map_get mX1 hgn)); obtain ⟨j, rfl⟩ : ∃ j : Nat, n = (j : Int) := ⟨n.toNat, by have := hr n (List.mem_of_getElem? hgn); omega⟩; have hj : j < k := by have := hr _ (List.mem_of_getElem? hgn); omega
    have hgc := cnt_get (ops := ops.drop i) hj
    have hcl : (ops.drop i).count (j : Int) ≤ (ops.drop i).length := List.count_le_length
    rw [List.length_drop] at hcl
    obtain ⟨kd, fr, tn, op, fo, ky, bk, ⟨qe, ce, es⟩, ⟨qd, cd, ds⟩, ⟨qm, cm, ms⟩, _⟩ := x; have hop := opX hpx; subst hop
    refine done_l (t_normal (c_seq ?_))
    refine c_true hf rfl ?_
    refine c_skip (t_normal (c_seq (c_block (c_seq (c_region ?_)))))
    refine sR hf hS ((by first | exact rd_indexAddrN hf rfl rfl rfl Try.underlying25 sz30 (by omega) | exact rd_indexAddr hf rfl rfl rfl Try.underlying25 sz30 (by first | decide | omega) (by omega))) ?_; clear hf; intro a hf
    refine sR hf hS (rd_loadN hf rfl rfl ag30 sz30 (by intro _ h; exact (show AggAt _ _ _ [.int .i64 kd, .int .i64 fr, .int .i64 tn, .int .i64 (j : Int), .int .i64 fo, .string (str ky), .int .i64 bk, .slice qe es.length ce, .slice qd ds.length cd, .slice qm ms.length cm] from SlAt.elem (cells := msgC) (h.slOfRl (by repeat (first | exact Sel.head | apply Sel.tail))) (fun _ => rfl) hget))) ?_; clear hf; intro a hf
    refine sA hf hS zr30 ?_
    clear hf hS; intro b_o a w hf hS
    refine sS hf hS sz30 ?_
    clear hf hS; intro a w hf hS
    refine done_l (t_normal (c_seq (c_seq (c_region ?_))))
    refine fA hf hS fb30_3 ?_; clear hf; intro a hf
    refine sR hf hS (rd_ld hf ag2) ?_; clear hf; intro a hf
    refine sB hf hS (rd_lss hf rfl rfl rfl) ?_ ?_
    ·
     clear hf; intro hc80 a hf
     exact absurd hc80 (by omega)
    clear hf; intro hc80 a hf
    refine mN hf hS ?_; clear hf; intro a hf
    refine fG hf hS fb30_3 ?_; clear hf; intro a hf
    refine sG hf hS (rd_ld hf ag2) ?_; clear hf; intro a hf
    refine sG hf hS (rd_move hf rfl rfl) ?_; clear hf; intro a hf
    refine step_l (st_rdB hf (Wn.some hf rfl rfl rfl rfl) (rd_geq hf rfl rfl rfl) hS rfl rfl ?_ ?_)
    ·
     clear hf; intro hc81 a hf
     exact absurd hc81 (by omega)
    clear hf; intro hc81 a hf
    refine pF hf hS ?_; clear hf; intro a hf
    refine done_l (t_normal ?_)
    refine c_false hf rfl ?_
    refine c_skip (t_normal (c_seq (c_region ?_)))
    refine mN hf hS ?_; clear hf; intro a hf
    refine fA hf hS fb30_3 ?_; clear hf; intro a hf
    refine sR hf hS (rd_ld hf ag2) ?_; clear hf; intro a hf
    refine sR hf hS ((by first | exact rd_indexAddrN1 hf rfl rfl rfl Try.underlying41 sz3 (by omega) | exact rd_indexAddr hf rfl rfl rfl Try.underlying41 sz3 (by first | decide | omega) (by omega))) ?_; clear hf; intro a hf
    refine sR hf hS (rd_load1 hf rfl rfl ag3 (by intro _ h; exact (h.slOfRw (by repeat (first | exact Sel.head | apply Sel.tail))).get (i64s_get hgc))) ?_; clear hf; intro a hf
    refine sR hf hS (rd_sub hf rfl rfl rfl (by first | exact Go.IntWalk.i64_in _ (by omega) | exact rfl)) ?_; clear hf; intro a hf
    refine sR hf hS ((by first | exact rd_indexAddrN1 hf rfl rfl rfl Try.underlying41 sz3 (by omega) | exact rd_indexAddr hf rfl rfl rfl Try.underlying41 sz3 (by first | decide | omega) (by omega))) ?_; clear hf; intro a hf
    refine step_l (st_storeRw hf (Wn.none rfl) hS rfl rfl rfl (by rfl) sz3 (by rfl) (by repeat (first | exact Sel.head | apply Sel.tail)) (by omega) rfl ?_)
    clear hf hS; intro a w hf hS
    refine done_l ?_
    replace hS := (hS.selA : Sat W (Rw 3 1 (some ⟨bo, 0, none⟩) k k _ :: _) _).rwCast (xs' := i64s (cnt k (ops.drop (i + 1)))) (by rw [← cnt_tail hj hgn, i64s_set]) rfl
    refine t_normal (c_region ?_)
    refine mN hf hS ?_; clear hf; intro a hf
    refine sR hf hS (rd_sub hf rfl rfl rfl (by first | exact Go.IntWalk.i64_in _ (by omega) | exact rfl)) ?_; clear hf; intro a hf
    refine aN hf hS ?_; clear hf; intro a hf
    refine done_l (b_normal (t_normal (c_region ?_)))
    refine sP hf hS ?_; clear hf; intro a hf
    refine mN hf hS ?_; clear hf; intro a hf
    refine done_l ?_
    refine t_normal ⟨i + 1, (((hf.backA hk18).kb hf 157 rfl (by first | rfl | exact int_eq (by omega))).kb hf 12 rfl (by first | rfl | exact int_eq (by omega))), ⟨hS.subA, by omega⟩, by first | omega | (simp only []; omega)⟩
   clear hf; intro hc78 a hf
   obtain rfl : i = ops.length := by omega
   refine done_l (t_normal (c_seq ?_))
   refine c_false hf rfl ?_
   refine c_exit (t_exit (t_exit (b_exit (t_normal (c_seq (c_seq (c_region ?_)))))))
   refine mN hf hS ?_; clear hf; intro a hf
   refine sR hf hS (rd_len hf rfl rfl Try.underlying41) ?_; clear hf; intro a hf
   refine mN hf hS ?_; clear hf; intro a hf
   refine done_l (t_normal (c_block ?_))
   have hk19 := Keep.ofA hf [(6, 6), (24, 24), (182, 188)]
   refine c_loopK hk19 (α := Nat) (fun i => [(182, .int .i64 (i : Nat))]) (fun i w => Sat W (Rw 3 1 (some ⟨bo, 0, none⟩) k k (i64s (cnt k (ops.drop ops.length))) :: NetP 46 30 59 117 5 62 83 68 p ([]) 0 :: R) w ∧ i ≤ k) (fun i => k - i) 0 ((hf.keep hk19).kb hf 182 rfl (by first | rfl | exact int_eq (by omega))) ⟨hS.subA, by omega⟩ ?_
   clear hf hS; rintro i a w hf ⟨hS, hi⟩; (try dsimp only [List.cons_append, List.nil_append] at hf)
   refine c_seq (c_region ?_)
   refine sB hf hS (rd_lss hf rfl rfl rfl) ?_ ?_
   ·
    clear hf; intro hc82 a hf
    have hgz := cnt_zero (show i < k by omega) ops
    refine done_l (t_normal (c_seq ?_))
    refine c_true hf rfl ?_
    refine c_skip (t_normal (c_seq (c_block (c_seq (c_region ?_)))))
    refine sR hf hS ((by first | exact rd_indexAddrN1 hf rfl rfl rfl Try.underlying41 sz3 (by omega) | exact rd_indexAddr hf rfl rfl rfl Try.underlying41 sz3 (by first | decide | omega) (by omega))) ?_; clear hf; intro a hf
    refine sR hf hS (rd_load1 hf rfl rfl ag3 (by intro _ h; exact (h.slOfRw (by repeat (first | exact Sel.head | apply Sel.tail))).get (i64s_get hgz))) ?_; clear hf; intro a hf
    refine aN hf hS ?_; clear hf; intro a hf
    refine done_l (t_normal (c_seq (c_region ?_)))
    refine mN hf hS ?_; clear hf; intro a hf
    refine sB hf hS (rd_neq hf rfl rfl rfl) ?_ ?_
    ·
     clear hf; intro hc83 a hf
     exact absurd rfl hc83
    clear hf; intro hc83 a hf
    refine done_l (t_normal ?_)
    refine c_false hf rfl ?_
    refine c_skip (b_normal (t_normal (c_region ?_)))
    refine sP hf hS ?_; clear hf; intro a hf
    refine mN hf hS ?_; clear hf; intro a hf
    refine done_l ?_
    refine t_normal ⟨i + 1, ((hf.backA hk19).kb hf 182 rfl (by first | rfl | exact int_eq (by omega))), ⟨hS.subA, by omega⟩, by first | omega | (simp only []; omega)⟩
   clear hf; intro hc82 a hf
   refine done_l (t_normal (c_seq ?_))
   refine c_false hf rfl ?_
   refine c_exit (t_exit (t_exit (b_exit (t_normal (c_seq (c_region ?_))))))
   refine mN hf hS ?_; clear hf; intro a hf
   refine sB hf hS (rd_eql hf rfl rfl rfl) ?_ ?_
   ·
    clear hf; intro hc84 a hf
    iterate 2 ((first | refine mN hf hS ?_ | refine step_l (st_rd hf (Wn.some hf rfl rfl rfl rfl) (rd_move hf rfl rfl) hS rfl rfl ?_)); clear hf; intro a hf)
    refine step_l (st_call hf (Wn.some hf rfl rfl rfl rfl) rfl rfl rfl fn17 (NLen_c _ _ _ (hS.selA)) rfl rfl ?_)
    clear hf hS; rintro v a w ⟨rfl, hS⟩ hf
    refine step_l (st_rdB hf (Wn.some hf rfl rfl rfl rfl) (rd_eql hf rfl rfl rfl) hS rfl rfl ?_ ?_)
    ·
     clear hf; intro hc85 a hf
     iterate 2 ((first | refine mN hf hS ?_ | refine pT hf hS ?_); clear hf; intro a hf)
     refine step_l (st_call hf (Wn.some hf rfl rfl rfl rfl) rfl rfl rfl fn12 (awake_c hS) rfl rfl ?_)
     clear hf hS; rintro v a w ⟨rfl, hS⟩ hf
     iterate 2 ((first | refine aN hf hS ?_ | refine pT hf hS ?_); clear hf; intro a hf)
     refine done_l (t_normal (c_ret ?_))
     refine eT hf ?_
     exact ⟨rfl, hS.subA⟩
    clear hf; intro hc85 a hf
    exact absurd rfl hc85
   clear hf; intro hc84 a hf
   exact absurd (by omega) hc84
  clear hf; intro hc77 a hf
  iterate 2 ((first | refine mN hf hS ?_ | refine step_l (st_rd hf (Wn.some hf rfl rfl rfl rfl) (rd_move hf rfl rfl) hS rfl rfl ?_)); clear hf; intro a hf)
  refine step_l (st_rdB hf (Wn.some hf rfl rfl rfl rfl) (rd_eql hf rfl rfl rfl) hS rfl rfl ?_ ?_)
  ·
   clear hf; intro hc86 a hf
   refine pF hf hS ?_; clear hf; intro a hf
   refine done_l (t_normal ?_)
   refine c_true hf rfl ?_
   refine c_exit (t_exit ?_)
   refine b_exit' (by decide) ?_
   refine t_exit (t_exit (b_exit (t_normal (c_seq (c_seq (c_region ?_))))))
   refine mN hf hS ?_; clear hf; intro a hf
   refine step_l (st_call hf (Wn.none rfl) rfl rfl rfl fn16 (NAll_c _ _ _ (hS.selA)) rfl rfl ?_)
   clear hf hS; rintro v a w ⟨q, cap, L, rfl, hA1, hA2, hA3, hS⟩ hf; have hLl : L.length = ops.length := by have := congrArg List.length hA1; rwa [List.length_map, List.length_map] at this
   refine sR hf hS (rd_len hf rfl rfl Try.underlying25) ?_; clear hf; intro a hf
   refine mN hf hS ?_; clear hf; intro a hf
   refine done_l (t_normal (c_block ?_))
   have hk20 := Keep.ofA hf [(6, 6), (12, 12), (22, 22), (157, 179)]
   refine c_loopK hk20 (α := Nat) (fun i => [(12, .int .i64 ((ops.length - i : Nat) : Int)), (157, .int .i64 (i : Nat))]) (fun i w => Sat W (Rw 3 1 (some ⟨bo, 0, none⟩) k k (i64s (cnt k (ops.drop i))) :: Rl 30 10 q L.length cap (L.flatMap msgC) :: NetP 46 30 59 117 5 62 83 68 p ([]) 0 :: R) w ∧ i ≤ ops.length) (fun i => ops.length - i) 0 (((hf.keep hk20).kb hf 157 rfl (by rfl)).kb hf 12 rfl (by rfl)) ⟨hS.subA, by omega⟩ ?_
   clear hf hS; rintro i a w hf ⟨hS, hi⟩; (try dsimp only [List.cons_append, List.nil_append] at hf)
   refine c_seq (c_region ?_)
   refine sB hf hS (rd_lss hf rfl rfl rfl) ?_ ?_
   ·
    clear hf; intro hc87 a hf
    obtain ⟨x, hget⟩ := get_of_lt (l := L) (k := i) (by omega) rfl; obtain ⟨ad, rfl⟩ := (hS.slOfRl (by repeat (first | exact Sel.head | apply Sel.tail))).some (by omega); obtain ⟨n, hgn⟩ := get_of_lt (l := ops) (k := i) (by omega) rfl; have hpx : pMsg x = mX1 n := Option.some.inj ((map_get pMsg hget).symm.trans (by rw [hA1]; exact map_get mX1 hgn)); obtain ⟨j, rfl⟩ : ∃ j : Nat, n = (j : Int) := ⟨n.toNat, by have := hr n (List.mem_of_getElem? hgn); omega⟩; have hj : j < k := by have := hr _ (List.mem_of_getElem? hgn); omega
    have hgc := cnt_get (ops := ops.drop i) hj
    have hcl : (ops.drop i).count (j : Int) ≤ (ops.drop i).length := List.count_le_length
    rw [List.length_drop] at hcl
    obtain ⟨kd, fr, tn, op, fo, ky, bk, ⟨qe, ce, es⟩, ⟨qd, cd, ds⟩, ⟨qm, cm, ms⟩, _⟩ := x; have hop := opX hpx; subst hop
    refine done_l (t_normal (c_seq ?_))
    refine c_true hf rfl ?_
    refine c_skip (t_normal (c_seq (c_block (c_seq (c_region ?_)))))
    refine sR hf hS ((by first | exact rd_indexAddrN hf rfl rfl rfl Try.underlying25 sz30 (by omega) | exact rd_indexAddr hf rfl rfl rfl Try.underlying25 sz30 (by first | decide | omega) (by omega))) ?_; clear hf; intro a hf
    refine sR hf hS (rd_loadN hf rfl rfl ag30 sz30 (by intro _ h; exact (show AggAt _ _ _ [.int .i64 kd, .int .i64 fr, .int .i64 tn, .int .i64 (j : Int), .int .i64 fo, .string (str ky), .int .i64 bk, .slice qe es.length ce, .slice qd ds.length cd, .slice qm ms.length cm] from SlAt.elem (cells := msgC) (h.slOfRl (by repeat (first | exact Sel.head | apply Sel.tail))) (fun _ => rfl) hget))) ?_; clear hf; intro a hf
    refine sA hf hS zr30 ?_
    clear hf hS; intro b_o a w hf hS
    refine sS hf hS sz30 ?_
    clear hf hS; intro a w hf hS
    refine done_l (t_normal (c_seq (c_seq (c_region ?_))))
    refine fA hf hS fb30_3 ?_; clear hf; intro a hf
    refine sR hf hS (rd_ld hf ag2) ?_; clear hf; intro a hf
    refine sB hf hS (rd_lss hf rfl rfl rfl) ?_ ?_
    ·
     clear hf; intro hc89 a hf
     exact absurd hc89 (by omega)
    clear hf; intro hc89 a hf
    refine mN hf hS ?_; clear hf; intro a hf
    refine fG hf hS fb30_3 ?_; clear hf; intro a hf
    refine sG hf hS (rd_ld hf ag2) ?_; clear hf; intro a hf
    refine sG hf hS (rd_move hf rfl rfl) ?_; clear hf; intro a hf
    refine step_l (st_rdB hf (Wn.some hf rfl rfl rfl rfl) (rd_geq hf rfl rfl rfl) hS rfl rfl ?_ ?_)
    ·
     clear hf; intro hc90 a hf
     exact absurd hc90 (by omega)
    clear hf; intro hc90 a hf
    refine pF hf hS ?_; clear hf; intro a hf
    refine done_l (t_normal ?_)
    refine c_false hf rfl ?_
    refine c_skip (t_normal (c_seq (c_region ?_)))
    refine mN hf hS ?_; clear hf; intro a hf
    refine fA hf hS fb30_3 ?_; clear hf; intro a hf
    refine sR hf hS (rd_ld hf ag2) ?_; clear hf; intro a hf
    refine sR hf hS ((by first | exact rd_indexAddrN1 hf rfl rfl rfl Try.underlying41 sz3 (by omega) | exact rd_indexAddr hf rfl rfl rfl Try.underlying41 sz3 (by first | decide | omega) (by omega))) ?_; clear hf; intro a hf
    refine sR hf hS (rd_load1 hf rfl rfl ag3 (by intro _ h; exact (h.slOfRw (by repeat (first | exact Sel.head | apply Sel.tail))).get (i64s_get hgc))) ?_; clear hf; intro a hf
    refine sR hf hS (rd_sub hf rfl rfl rfl (by first | exact Go.IntWalk.i64_in _ (by omega) | exact rfl)) ?_; clear hf; intro a hf
    refine sR hf hS ((by first | exact rd_indexAddrN1 hf rfl rfl rfl Try.underlying41 sz3 (by omega) | exact rd_indexAddr hf rfl rfl rfl Try.underlying41 sz3 (by first | decide | omega) (by omega))) ?_; clear hf; intro a hf
    refine step_l (st_storeRw hf (Wn.none rfl) hS rfl rfl rfl (by rfl) sz3 (by rfl) (by repeat (first | exact Sel.head | apply Sel.tail)) (by omega) rfl ?_)
    clear hf hS; intro a w hf hS
    refine done_l ?_
    replace hS := (hS.selA : Sat W (Rw 3 1 (some ⟨bo, 0, none⟩) k k _ :: _) _).rwCast (xs' := i64s (cnt k (ops.drop (i + 1)))) (by rw [← cnt_tail hj hgn, i64s_set]) rfl
    refine t_normal (c_region ?_)
    refine mN hf hS ?_; clear hf; intro a hf
    refine sR hf hS (rd_sub hf rfl rfl rfl (by first | exact Go.IntWalk.i64_in _ (by omega) | exact rfl)) ?_; clear hf; intro a hf
    refine aN hf hS ?_; clear hf; intro a hf
    refine done_l (b_normal (t_normal (c_region ?_)))
    refine sP hf hS ?_; clear hf; intro a hf
    refine mN hf hS ?_; clear hf; intro a hf
    refine done_l ?_
    refine t_normal ⟨i + 1, (((hf.backA hk20).kb hf 157 rfl (by first | rfl | exact int_eq (by omega))).kb hf 12 rfl (by first | rfl | exact int_eq (by omega))), ⟨hS.subA, by omega⟩, by first | omega | (simp only []; omega)⟩
   clear hf; intro hc87 a hf
   obtain rfl : i = ops.length := by omega
   refine done_l (t_normal (c_seq ?_))
   refine c_false hf rfl ?_
   refine c_exit (t_exit (t_exit (b_exit (t_normal (c_seq (c_seq (c_region ?_)))))))
   refine mN hf hS ?_; clear hf; intro a hf
   refine sR hf hS (rd_len hf rfl rfl Try.underlying41) ?_; clear hf; intro a hf
   refine mN hf hS ?_; clear hf; intro a hf
   refine done_l (t_normal (c_block ?_))
   have hk21 := Keep.ofA hf [(6, 6), (24, 24), (182, 188)]
   refine c_loopK hk21 (α := Nat) (fun i => [(182, .int .i64 (i : Nat))]) (fun i w => Sat W (Rw 3 1 (some ⟨bo, 0, none⟩) k k (i64s (cnt k (ops.drop ops.length))) :: NetP 46 30 59 117 5 62 83 68 p ([]) 0 :: R) w ∧ i ≤ k) (fun i => k - i) 0 ((hf.keep hk21).kb hf 182 rfl (by first | rfl | exact int_eq (by omega))) ⟨hS.subA, by omega⟩ ?_
   clear hf hS; rintro i a w hf ⟨hS, hi⟩; (try dsimp only [List.cons_append, List.nil_append] at hf)
   refine c_seq (c_region ?_)
   refine sB hf hS (rd_lss hf rfl rfl rfl) ?_ ?_
   ·
    clear hf; intro hc91 a hf
    have hgz := cnt_zero (show i < k by omega) ops
    refine done_l (t_normal (c_seq ?_))
    refine c_true hf rfl ?_
    refine c_skip (t_normal (c_seq (c_block (c_seq (c_region ?_)))))
    refine sR hf hS ((by first | exact rd_indexAddrN1 hf rfl rfl rfl Try.underlying41 sz3 (by omega) | exact rd_indexAddr hf rfl rfl rfl Try.underlying41 sz3 (by first | decide | omega) (by omega))) ?_; clear hf; intro a hf
    refine sR hf hS (rd_load1 hf rfl rfl ag3 (by intro _ h; exact (h.slOfRw (by repeat (first | exact Sel.head | apply Sel.tail))).get (i64s_get hgz))) ?_; clear hf; intro a hf
    refine aN hf hS ?_; clear hf; intro a hf
    refine done_l (t_normal (c_seq (c_region ?_)))
    refine mN hf hS ?_; clear hf; intro a hf
    refine sB hf hS (rd_neq hf rfl rfl rfl) ?_ ?_
    ·
     clear hf; intro hc92 a hf
     exact absurd rfl hc92
    clear hf; intro hc92 a hf
    refine done_l (t_normal ?_)
    refine c_false hf rfl ?_
    refine c_skip (b_normal (t_normal (c_region ?_)))
    refine sP hf hS ?_; clear hf; intro a hf
    refine mN hf hS ?_; clear hf; intro a hf
    refine done_l ?_
    refine t_normal ⟨i + 1, ((hf.backA hk21).kb hf 182 rfl (by first | rfl | exact int_eq (by omega))), ⟨hS.subA, by omega⟩, by first | omega | (simp only []; omega)⟩
   clear hf; intro hc91 a hf
   refine done_l (t_normal (c_seq ?_))
   refine c_false hf rfl ?_
   refine c_exit (t_exit (t_exit (b_exit (t_normal (c_seq (c_region ?_))))))
   refine mN hf hS ?_; clear hf; intro a hf
   refine sB hf hS (rd_eql hf rfl rfl rfl) ?_ ?_
   ·
    clear hf; intro hc93 a hf
    iterate 2 ((first | refine mN hf hS ?_ | refine step_l (st_rd hf (Wn.some hf rfl rfl rfl rfl) (rd_move hf rfl rfl) hS rfl rfl ?_)); clear hf; intro a hf)
    refine step_l (st_call hf (Wn.some hf rfl rfl rfl rfl) rfl rfl rfl fn17 (NLen_c _ _ _ (hS.selA)) rfl rfl ?_)
    clear hf hS; rintro v a w ⟨rfl, hS⟩ hf
    refine step_l (st_rdB hf (Wn.some hf rfl rfl rfl rfl) (rd_eql hf rfl rfl rfl) hS rfl rfl ?_ ?_)
    ·
     clear hf; intro hc94 a hf
     iterate 2 ((first | refine mN hf hS ?_ | refine pT hf hS ?_); clear hf; intro a hf)
     refine step_l (st_call hf (Wn.some hf rfl rfl rfl rfl) rfl rfl rfl fn12 (awake_c hS) rfl rfl ?_)
     clear hf hS; rintro v a w ⟨rfl, hS⟩ hf
     iterate 2 ((first | refine aN hf hS ?_ | refine pT hf hS ?_); clear hf; intro a hf)
     refine done_l (t_normal (c_ret ?_))
     refine eT hf ?_
     exact ⟨rfl, hS.subA⟩
    clear hf; intro hc94 a hf
    exact absurd rfl hc94
   clear hf; intro hc93 a hf
   exact absurd (by omega) hc93
  clear hf; intro hc86 a hf
  refine pF hf hS ?_; clear hf; intro a hf
  refine done_l (t_normal ?_)
  refine c_false hf rfl ?_
  refine c_skip (t_normal (c_seq (c_region ?_)))
  iterate 2 (refine mN hf hS ?_; clear hf; intro a hf)
  refine sR hf hS (rd_convInt hf rfl rfl Try.underlying3 Try.underlying24 rfl) ?_; clear hf; intro a hf
  refine mN hf hS ?_; clear hf; intro a hf
  refine sR hf hS (rd_convInt hf rfl rfl Try.underlying3 Try.underlying24 (wrap64 (by omega))) ?_; clear hf; intro a hf
  refine sR hf hS (rd_rem hf rfl rfl rfl (by first | decide | omega) (u64mod x (by omega))) ?_; clear hf; intro a hf
  refine sR hf hS (rd_convInt hf rfl rfl Try.underlying24 Try.underlying3 (Go.IntWalk.i64_in _ (by have := Nat.mod_lt (x % 18446744073709551616).toNat (show 0 < ops.length by omega); omega))) ?_; clear hf; intro a hf
  obtain ⟨P, hPe⟩ : ∃ P : Nat, P = (x % 18446744073709551616).toNat % ops.length := ⟨_, rfl⟩; have hP : P < ops.length := (by rw [hPe]; exact Nat.mod_lt _ (by omega)); rw [← hPe] at hf; obtain ⟨n, hgn⟩ := get_of_lt (l := ops) (k := P) hP rfl; obtain ⟨j, rfl⟩ : ∃ j : Nat, n = (j : Int) := ⟨n.toNat, by have := hr n (List.mem_of_getElem? hgn); omega⟩; have hj : j < k := (by have := hr _ (List.mem_of_getElem? hgn); omega); have hgc := cnt_get (ops := ops) hj; have hcl : ops.count (j : Int) ≤ ops.length := List.count_le_length
  refine step_l (st_call hf (Wn.none rfl) rfl rfl rfl fn19 (NTake_c _ _ _ _ (hS.selA)) rfl rfl ?_)
  clear hf hS; rintro v a w ⟨bb, kd, fr, tn, op, fo, ky, bk, es, qe, ce, ds, qd, cd, ms, qm, cm, rfl, hibb, hxbb, hkbb, hS⟩ hf; rw [take_map hP] at hS; obtain rfl : bb = true := hibb.trans (inS_map hP); have hop := opX ((hxbb (hibb.trans (inS_map hP))).trans (getX hgn)); subst hop
  refine mN hf hS ?_; clear hf; intro a hf
  refine sR hf hS (rd_extract hf rfl rfl rfl) ?_; clear hf; intro a hf
  refine step_l (st_rdb hf (Wn.none rfl) (rd_extract hf rfl rfl rfl) hS rfl rfl ?_ ?_)
  ·
   clear hf; intro hc95 a hf
   refine sA hf hS zr30 ?_
   clear hf hS; intro b_t a w hf hS
   refine sS hf hS sz30 ?_
   clear hf hS; intro a w hf hS
   refine aN hf hS ?_; clear hf; intro a hf
   refine done_l (t_normal (c_seq (c_seq (c_region ?_))))
   refine mN hf hS ?_; clear hf; intro a hf
   refine nT hf hS ?_; clear hf; intro a hf
   refine mN hf hS ?_; clear hf; intro a hf
   refine fG hf hS fb30_3 ?_; clear hf; intro a hf
   refine sG hf hS (rd_ld hf ag2) ?_; clear hf; intro a hf
   refine step_l (st_rdB hf (Wn.some hf rfl rfl rfl rfl) (rd_lss hf rfl rfl rfl) hS rfl rfl ?_ ?_)
   ·
    clear hf; intro hc97 a hf
    exact absurd hc97 (by omega)
   clear hf; intro hc97 a hf
   iterate 2 ((first | refine mN hf hS ?_ | refine pF hf hS ?_); clear hf; intro a hf)
   refine fG hf hS fb30_3 ?_; clear hf; intro a hf
   refine sG hf hS (rd_ld hf ag2) ?_; clear hf; intro a hf
   refine sG hf hS (rd_move hf rfl rfl) ?_; clear hf; intro a hf
   refine step_l (st_rdB hf (Wn.some hf rfl rfl rfl rfl) (rd_geq hf rfl rfl rfl) hS rfl rfl ?_ ?_)
   ·
    clear hf; intro hc98 a hf
    exact absurd hc98 (by omega)
   clear hf; intro hc98 a hf
   refine pF hf hS ?_; clear hf; intro a hf
   refine done_l (t_normal ?_)
   refine c_false hf rfl ?_
   refine c_skip (t_normal (c_seq (c_region ?_)))
   refine mN hf hS ?_; clear hf; intro a hf
   refine fA hf hS fb30_3 ?_; clear hf; intro a hf
   refine sR hf hS (rd_ld hf ag2) ?_; clear hf; intro a hf
   refine sR hf hS ((by first | exact rd_indexAddrN1 hf rfl rfl rfl Try.underlying41 sz3 (by omega) | exact rd_indexAddr hf rfl rfl rfl Try.underlying41 sz3 (by first | decide | omega) (by omega))) ?_; clear hf; intro a hf
   refine sR hf hS (rd_load1 hf rfl rfl ag3 (by intro _ h; exact (h.slOfRw (by repeat (first | exact Sel.head | apply Sel.tail))).get (i64s_get hgc))) ?_; clear hf; intro a hf
   refine sR hf hS (rd_sub hf rfl rfl rfl (by first | exact Go.IntWalk.i64_in _ (by omega) | exact rfl)) ?_; clear hf; intro a hf
   refine sR hf hS ((by first | exact rd_indexAddrN1 hf rfl rfl rfl Try.underlying41 sz3 (by omega) | exact rd_indexAddr hf rfl rfl rfl Try.underlying41 sz3 (by first | decide | omega) (by omega))) ?_; clear hf; intro a hf
   refine step_l (st_storeRw hf (Wn.none rfl) hS rfl rfl rfl (by rfl) sz3 (by rfl) (by repeat (first | exact Sel.head | apply Sel.tail)) (by omega) rfl ?_)
   clear hf hS; intro a w hf hS
   refine done_l ?_
   replace hS := (hS.selA : Sat W (Rw 3 1 (some ⟨bo, 0, none⟩) k k _ :: _) _).rwCast (xs' := i64s (cnt k (ops.take P ++ ops.drop (P + 1)))) (by rw [← cnt_del hj hgn, i64s_set]) rfl
   refine t_normal (c_region ?_)
   refine mN hf hS ?_; clear hf; intro a hf
   refine sR hf hS (rd_sub hf rfl rfl rfl (by first | exact Go.IntWalk.i64_in _ (by omega) | exact rfl)) ?_; clear hf; intro a hf
   refine aN hf hS ?_; clear hf; intro a hf
   refine done_l (b_normal (t_normal (c_region ?_)))
   refine sP hf hS ?_; clear hf; intro a hf
   refine mN hf hS ?_; clear hf; intro a hf
   refine done_l ?_
   refine t_normal ⟨(i + 1, ops.take P ++ ops.drop (P + 1)), (((hf.backA hk17).kb hf 109 rfl (by first | rfl | exact int_eq (by omega))).kb hf 12 rfl (by rw [len_cut hP]; exact int_eq (by omega))), ⟨hS.subA, ⟨by omega, by rw [len_cut hP]; omega, fun n hn => hr n (mem_cut hn)⟩⟩, by first | omega | (simp only []; omega)⟩
  clear hf; intro hc95 a hf
  exact Bool.noConfusion hc95
 clear hf; intro hc76 a hf
 refine done_l (t_normal (c_seq ?_))
 refine c_false hf rfl ?_
 refine c_exit (t_exit (t_exit (b_exit (t_normal (c_seq (c_seq (c_region ?_)))))))
 refine mN hf hS ?_; clear hf; intro a hf
 refine step_l (st_call hf (Wn.none rfl) rfl rfl rfl fn16 (NAll_c _ _ _ (hS.selA)) rfl rfl ?_)
 clear hf hS; rintro v a w ⟨q, cap, L, rfl, hA1, hA2, hA3, hS⟩ hf; have hLl : L.length = ops.length := by have := congrArg List.length hA1; rwa [List.length_map, List.length_map] at this
 refine sR hf hS (rd_len hf rfl rfl Try.underlying25) ?_; clear hf; intro a hf
 refine mN hf hS ?_; clear hf; intro a hf
 refine done_l (t_normal (c_block ?_))
 have hk22 := Keep.ofA hf [(6, 6), (12, 12), (22, 22), (157, 179)]
 refine c_loopK hk22 (α := Nat) (fun i => [(12, .int .i64 ((ops.length - i : Nat) : Int)), (157, .int .i64 (i : Nat))]) (fun i w => Sat W (Rw 3 1 (some ⟨bo, 0, none⟩) k k (i64s (cnt k (ops.drop i))) :: Rl 30 10 q L.length cap (L.flatMap msgC) :: NetP 46 30 59 117 5 62 83 68 p ([]) 0 :: R) w ∧ i ≤ ops.length) (fun i => ops.length - i) 0 (((hf.keep hk22).kb hf 157 rfl (by rfl)).kb hf 12 rfl (by rfl)) ⟨hS.subA, by omega⟩ ?_
 clear hf hS; rintro i a w hf ⟨hS, hi⟩; (try dsimp only [List.cons_append, List.nil_append] at hf)
 refine c_seq (c_region ?_)
 refine sB hf hS (rd_lss hf rfl rfl rfl) ?_ ?_
 ·
  clear hf; intro hc99 a hf
  obtain ⟨x, hget⟩ := get_of_lt (l := L) (k := i) (by omega) rfl; obtain ⟨ad, rfl⟩ := (hS.slOfRl (by repeat (first | exact Sel.head | apply Sel.tail))).some (by omega); obtain ⟨n, hgn⟩ := get_of_lt (l := ops) (k := i) (by omega) rfl; have hpx : pMsg x = mX1 n := Option.some.inj ((map_get pMsg hget).symm.trans (by rw [hA1]; exact map_get mX1 hgn)); obtain ⟨j, rfl⟩ : ∃ j : Nat, n = (j : Int) := ⟨n.toNat, by have := hr n (List.mem_of_getElem? hgn); omega⟩; have hj : j < k := by have := hr _ (List.mem_of_getElem? hgn); omega
  have hgc := cnt_get (ops := ops.drop i) hj
  have hcl : (ops.drop i).count (j : Int) ≤ (ops.drop i).length := List.count_le_length
  rw [List.length_drop] at hcl
  obtain ⟨kd, fr, tn, op, fo, ky, bk, ⟨qe, ce, es⟩, ⟨qd, cd, ds⟩, ⟨qm, cm, ms⟩, _⟩ := x; have hop := opX hpx; subst hop
  refine done_l (t_normal (c_seq ?_))
  refine c_true hf rfl ?_
  refine c_skip (t_normal (c_seq (c_block (c_seq (c_region ?_)))))
  refine sR hf hS ((by first | exact rd_indexAddrN hf rfl rfl rfl Try.underlying25 sz30 (by omega) | exact rd_indexAddr hf rfl rfl rfl Try.underlying25 sz30 (by first | decide | omega) (by omega))) ?_; clear hf; intro a hf
  refine sR hf hS (rd_loadN hf rfl rfl ag30 sz30 (by intro _ h; exact (show AggAt _ _ _ [.int .i64 kd, .int .i64 fr, .int .i64 tn, .int .i64 (j : Int), .int .i64 fo, .string (str ky), .int .i64 bk, .slice qe es.length ce, .slice qd ds.length cd, .slice qm ms.length cm] from SlAt.elem (cells := msgC) (h.slOfRl (by repeat (first | exact Sel.head | apply Sel.tail))) (fun _ => rfl) hget))) ?_; clear hf; intro a hf
  refine sA hf hS zr30 ?_
  clear hf hS; intro b_o a w hf hS
  refine sS hf hS sz30 ?_
  clear hf hS; intro a w hf hS
  refine done_l (t_normal (c_seq (c_seq (c_region ?_))))
  refine fA hf hS fb30_3 ?_; clear hf; intro a hf
  refine sR hf hS (rd_ld hf ag2) ?_; clear hf; intro a hf
  refine sB hf hS (rd_lss hf rfl rfl rfl) ?_ ?_
  ·
   clear hf; intro hc101 a hf
   exact absurd hc101 (by omega)
  clear hf; intro hc101 a hf
  refine mN hf hS ?_; clear hf; intro a hf
  refine fG hf hS fb30_3 ?_; clear hf; intro a hf
  refine sG hf hS (rd_ld hf ag2) ?_; clear hf; intro a hf
  refine sG hf hS (rd_move hf rfl rfl) ?_; clear hf; intro a hf
  refine step_l (st_rdB hf (Wn.some hf rfl rfl rfl rfl) (rd_geq hf rfl rfl rfl) hS rfl rfl ?_ ?_)
  ·
   clear hf; intro hc102 a hf
   exact absurd hc102 (by omega)
  clear hf; intro hc102 a hf
  refine pF hf hS ?_; clear hf; intro a hf
  refine done_l (t_normal ?_)
  refine c_false hf rfl ?_
  refine c_skip (t_normal (c_seq (c_region ?_)))
  refine mN hf hS ?_; clear hf; intro a hf
  refine fA hf hS fb30_3 ?_; clear hf; intro a hf
  refine sR hf hS (rd_ld hf ag2) ?_; clear hf; intro a hf
  refine sR hf hS ((by first | exact rd_indexAddrN1 hf rfl rfl rfl Try.underlying41 sz3 (by omega) | exact rd_indexAddr hf rfl rfl rfl Try.underlying41 sz3 (by first | decide | omega) (by omega))) ?_; clear hf; intro a hf
  refine sR hf hS (rd_load1 hf rfl rfl ag3 (by intro _ h; exact (h.slOfRw (by repeat (first | exact Sel.head | apply Sel.tail))).get (i64s_get hgc))) ?_; clear hf; intro a hf
  refine sR hf hS (rd_sub hf rfl rfl rfl (by first | exact Go.IntWalk.i64_in _ (by omega) | exact rfl)) ?_; clear hf; intro a hf
  refine sR hf hS ((by first | exact rd_indexAddrN1 hf rfl rfl rfl Try.underlying41 sz3 (by omega) | exact rd_indexAddr hf rfl rfl rfl Try.underlying41 sz3 (by first | decide | omega) (by omega))) ?_; clear hf; intro a hf
  refine step_l (st_storeRw hf (Wn.none rfl) hS rfl rfl rfl (by rfl) sz3 (by rfl) (by repeat (first | exact Sel.head | apply Sel.tail)) (by omega) rfl ?_)
  clear hf hS; intro a w hf hS
  refine done_l ?_
  replace hS := (hS.selA : Sat W (Rw 3 1 (some ⟨bo, 0, none⟩) k k _ :: _) _).rwCast (xs' := i64s (cnt k (ops.drop (i + 1)))) (by rw [← cnt_tail hj hgn, i64s_set]) rfl
  refine t_normal (c_region ?_)
  refine mN hf hS ?_; clear hf; intro a hf
  refine sR hf hS (rd_sub hf rfl rfl rfl (by first | exact Go.IntWalk.i64_in _ (by omega) | exact rfl)) ?_; clear hf; intro a hf
  refine aN hf hS ?_; clear hf; intro a hf
  refine done_l (b_normal (t_normal (c_region ?_)))
  refine sP hf hS ?_; clear hf; intro a hf
  refine mN hf hS ?_; clear hf; intro a hf
  refine done_l ?_
  refine t_normal ⟨i + 1, (((hf.backA hk22).kb hf 157 rfl (by first | rfl | exact int_eq (by omega))).kb hf 12 rfl (by first | rfl | exact int_eq (by omega))), ⟨hS.subA, by omega⟩, by first | omega | (simp only []; omega)⟩
 clear hf; intro hc99 a hf
 obtain rfl : i = ops.length := by omega
 refine done_l (t_normal (c_seq ?_))
 refine c_false hf rfl ?_
 refine c_exit (t_exit (t_exit (b_exit (t_normal (c_seq (c_seq (c_region ?_)))))))
 refine mN hf hS ?_; clear hf; intro a hf
 refine sR hf hS (rd_len hf rfl rfl Try.underlying41) ?_; clear hf; intro a hf
 refine mN hf hS ?_; clear hf; intro a hf
 refine done_l (t_normal (c_block ?_))
 have hk23 := Keep.ofA hf [(6, 6), (24, 24), (182, 188)]
 refine c_loopK hk23 (α := Nat) (fun i => [(182, .int .i64 (i : Nat))]) (fun i w => Sat W (Rw 3 1 (some ⟨bo, 0, none⟩) k k (i64s (cnt k (ops.drop ops.length))) :: NetP 46 30 59 117 5 62 83 68 p ([]) 0 :: R) w ∧ i ≤ k) (fun i => k - i) 0 ((hf.keep hk23).kb hf 182 rfl (by first | rfl | exact int_eq (by omega))) ⟨hS.subA, by omega⟩ ?_
 clear hf hS; rintro i a w hf ⟨hS, hi⟩; (try dsimp only [List.cons_append, List.nil_append] at hf)
 refine c_seq (c_region ?_)
 refine sB hf hS (rd_lss hf rfl rfl rfl) ?_ ?_
 ·
  clear hf; intro hc103 a hf
  have hgz := cnt_zero (show i < k by omega) ops
  refine done_l (t_normal (c_seq ?_))
  refine c_true hf rfl ?_
  refine c_skip (t_normal (c_seq (c_block (c_seq (c_region ?_)))))
  refine sR hf hS ((by first | exact rd_indexAddrN1 hf rfl rfl rfl Try.underlying41 sz3 (by omega) | exact rd_indexAddr hf rfl rfl rfl Try.underlying41 sz3 (by first | decide | omega) (by omega))) ?_; clear hf; intro a hf
  refine sR hf hS (rd_load1 hf rfl rfl ag3 (by intro _ h; exact (h.slOfRw (by repeat (first | exact Sel.head | apply Sel.tail))).get (i64s_get hgz))) ?_; clear hf; intro a hf
  refine aN hf hS ?_; clear hf; intro a hf
  refine done_l (t_normal (c_seq (c_region ?_)))
  refine mN hf hS ?_; clear hf; intro a hf
  refine sB hf hS (rd_neq hf rfl rfl rfl) ?_ ?_
  ·
   clear hf; intro hc104 a hf
   exact absurd rfl hc104
  clear hf; intro hc104 a hf
  refine done_l (t_normal ?_)
  refine c_false hf rfl ?_
  refine c_skip (b_normal (t_normal (c_region ?_)))
  refine sP hf hS ?_; clear hf; intro a hf
  refine mN hf hS ?_; clear hf; intro a hf
  refine done_l ?_
  refine t_normal ⟨i + 1, ((hf.backA hk23).kb hf 182 rfl (by first | rfl | exact int_eq (by omega))), ⟨hS.subA, by omega⟩, by first | omega | (simp only []; omega)⟩
 clear hf; intro hc103 a hf
 refine done_l (t_normal (c_seq ?_))
 refine c_false hf rfl ?_
 refine c_exit (t_exit (t_exit (b_exit (t_normal (c_seq (c_region ?_))))))
 refine mN hf hS ?_; clear hf; intro a hf
 refine sB hf hS (rd_eql hf rfl rfl rfl) ?_ ?_
 ·
  clear hf; intro hc105 a hf
  iterate 2 ((first | refine mN hf hS ?_ | refine step_l (st_rd hf (Wn.some hf rfl rfl rfl rfl) (rd_move hf rfl rfl) hS rfl rfl ?_)); clear hf; intro a hf)
  refine step_l (st_call hf (Wn.some hf rfl rfl rfl rfl) rfl rfl rfl fn17 (NLen_c _ _ _ (hS.selA)) rfl rfl ?_)
  clear hf hS; rintro v a w ⟨rfl, hS⟩ hf
  refine step_l (st_rdB hf (Wn.some hf rfl rfl rfl rfl) (rd_eql hf rfl rfl rfl) hS rfl rfl ?_ ?_)
  ·
   clear hf; intro hc106 a hf
   iterate 2 ((first | refine mN hf hS ?_ | refine pT hf hS ?_); clear hf; intro a hf)
   refine step_l (st_call hf (Wn.some hf rfl rfl rfl rfl) rfl rfl rfl fn12 (awake_c hS) rfl rfl ?_)
   clear hf hS; rintro v a w ⟨rfl, hS⟩ hf
   iterate 2 ((first | refine aN hf hS ?_ | refine pT hf hS ?_); clear hf; intro a hf)
   refine done_l (t_normal (c_ret ?_))
   refine eT hf ?_
   exact ⟨rfl, hS.subA⟩
  clear hf; intro hc106 a hf
  exact absurd rfl hc106
 clear hf; intro hc105 a hf
 exact absurd (by omega) hc105

end Go.Proofs.Ytcflbdpjoanbgaa
