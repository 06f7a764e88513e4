/-
  The statement NetOrder, walked.
  Conditions: none.
-/
import Derived.Test.YtcflbdpjoanbgaaPrt1
namespace Go.Proofs.Ytcflbdpjoanbgaa
open Go Go.Sl
set_option linter.unusedVariables false
set_option linter.unusedSimpArgs false
theorem fn11 : fnB Try.prog 11 = true := by kernel_rfl
theorem fn12 : fnB Try.prog 12 = true := by kernel_rfl
theorem fn13 : fnB Try.prog 13 = true := by kernel_rfl
theorem fn14 : fnB Try.prog 14 = true := by kernel_rfl
theorem fn15 : fnB Try.prog 15 = true := by kernel_rfl
theorem fn16 : fnB Try.prog 16 = true := by kernel_rfl
set_option maxRecDepth 100000 in
set_option maxHeartbeats 4000000 in
theorem NetOrder_c (l : List MsgT) (ql : Option Addr) (cl : Nat) (at0 : Int) {W : World} {R : List HP} {w : World} (hS : Sat W (R) w) (hlc : l.length ≤ cl) (hl9 : l.length ≤ 9223372036854775806) (hv : ∀ w, Sat W R w → MsgsAt w (ql, cl, l)) : Calls Try.prog 4 [.slice ql l.length cl, .int .i64 at0].toArray w (Ret fun v w' => v = .bool true ∧ Sat W R w') := by
 refine fn_start 104 Try.func4 rfl rfl rfl ?_
 intro a hf
 refine c_seq (c_region ?_)
 refine aN hf hS ?_; clear hf; intro a hf
 refine done_l (t_normal (c_seq (c_seq (c_region ?_))))
 refine mN hf hS ?_; clear hf; intro a hf
 refine sR hf hS (rd_len hf rfl rfl Try.underlying25) ?_; clear hf; intro a hf
 refine sB hf hS (rd_gtr hf rfl rfl rfl) ?_ ?_
 ·
  clear hf; intro hc1 a hf
  refine done_l (t_normal ?_)
  refine c_true hf rfl ?_
  refine c_seq (c_region ?_)
  refine step_l (st_call hf (Wn.none rfl) rfl rfl rfl fn12 (awake_c hS) rfl rfl ?_)
  clear hf hS; rintro v a w ⟨rfl, hS⟩ hf
  refine aN hf hS ?_; clear hf; intro a hf
  refine done_l (t_normal (c_ret (t_ret ?_)))
  refine eT hf ?_
  exact ⟨rfl, hS.subA⟩
 clear hf; intro hc1 a hf
 refine done_l (t_normal ?_)
 refine c_false hf rfl ?_
 refine c_skip (t_normal (c_seq (c_seq (c_region ?_))))
 refine mN hf hS ?_; clear hf; intro a hf
 refine sR hf hS (rd_len hf rfl rfl Try.underlying25) ?_; clear hf; intro a hf
 refine mN hf hS ?_; clear hf; intro a hf
 refine done_l (t_normal (c_block ?_))
 have hk0 := Keep.ofA hf [(4, 4), (6, 6), (22, 30)]
 refine c_loopK hk0 (α := Nat) (fun i => [(22, .int .i64 (i : Nat))]) (fun i w => Sat W (R) w ∧ i ≤ l.length ∧ ∀ m ∈ l.take i, lightM m) (fun i => l.length - i) 0 ((hf.keep hk0).kb hf 22 rfl (by first | rfl | exact int_eq (by omega))) ⟨hS.subA, ⟨by omega, fun m hm => by simp at hm⟩⟩ ?_
 clear hf hS; rintro i a w hf ⟨hS, ⟨hi, hlt⟩⟩; (try dsimp only [List.cons_append, List.nil_append] at hf)
 refine c_seq (c_region ?_)
 refine sB hf hS (rd_lss hf rfl rfl rfl) ?_ ?_
 ·
  clear hf; intro hc2 a hf
  obtain ⟨x, hget⟩ := get_of_lt (l := l) (k := i) (by omega) rfl; obtain ⟨ad, rfl⟩ := (hv _ (hS.subA)).some (by omega); have hmv := fun w h => (hv w h).in hget; obtain ⟨kd, fr, tn, op, fo, ky, bk, ⟨qe, ce, es⟩, ⟨qd, cd, ds⟩, ⟨qm, cm, ms⟩, _⟩ := x; have hle := (hmv _ (hS.subA)).1.len; have hld := (hmv _ (hS.subA)).2.1.len; have hlm := (hmv _ (hS.subA)).2.2.len; (try dsimp only [mEs, mDs, mMs] at hle hld hlm)
  refine done_l (t_normal (c_seq ?_))
  refine c_true hf rfl ?_
  refine c_skip (t_normal (c_seq (c_block (c_seq (c_region ?_)))))
  refine sR hf hS ((by first | exact rd_indexAddrN hf rfl rfl rfl Try.underlying25 sz30 (by omega) | exact rd_indexAddr hf rfl rfl rfl Try.underlying25 sz30 (by first | decide | omega) (by omega))) ?_; clear hf; intro a hf
  refine sR hf hS (rd_loadN hf rfl rfl ag30 sz30 (by intro _ h; exact (show AggAt _ _ _ [.int .i64 kd, .int .i64 fr, .int .i64 tn, .int .i64 op, .int .i64 fo, .string (str ky), .int .i64 bk, .slice qe es.length ce, .slice qd ds.length cd, .slice qm ms.length cm] from (hv _ (h.subA)).el hget))) ?_; clear hf; intro a hf
  refine sA hf hS zr30 ?_
  clear hf hS; intro b_m a w hf hS
  refine sS hf hS sz30 ?_
  clear hf hS; intro a w hf hS
  refine done_l (t_normal (c_seq (c_region ?_)))
  refine sR hf hS (rd_ldN hf ag30 sz30) ?_; clear hf; intro a hf
  refine step_l (st_call hf (Wn.none rfl) rfl rfl rfl fn13 (light_c _ _ _ _ _ _ _ _ _ _ _ _ _ _ _ _  hS (fun _ h => (hmv _ (h.subA)).1) (fun _ h => (hmv _ (h.subA)).2.1) (fun _ h => (hmv _ (h.subA)).2.2) (by omega) (by omega) (by omega)) rfl rfl ?_)
  clear hf hS; rintro v a w ⟨bb1, rfl, hbb1, hS⟩ hf
  first | refine split_dec (d := 27) hf rfl ?_ ?_ | refine split_bool (d := 27) hf rfl ?_ ?_
  ·
   clear hf; intro hc4 hf
   have hlx : lightM ((kd, fr, tn, op, fo, ky, bk, (qe, ce, es), (qd, cd, ds), (qm, cm, ms), ()) : MsgT) := hbb1 hc4
   refine nT hf hS ?_; clear hf; intro a hf
   refine done_l (t_normal ?_)
   refine c_false hf rfl ?_
   refine c_skip (b_normal (t_normal (c_region ?_)))
   refine sP hf hS ?_; clear hf; intro a hf
   refine mN hf hS ?_; clear hf; intro a hf
   refine done_l ?_
   refine t_normal ⟨i + 1, ((hf.backA hk0).kb hf 22 rfl (by first | rfl | exact int_eq (by omega))), ⟨hS.subA, ⟨by omega, light_step hlt hget hlx⟩⟩, by first | omega | (simp only []; omega)⟩
  clear hf; intro hc4 hf
  refine nT hf hS ?_; clear hf; intro a hf
  refine done_l (t_normal ?_)
  refine c_true hf rfl ?_
  refine c_seq (c_region ?_)
  refine step_l (st_call hf (Wn.none rfl) rfl rfl rfl fn12 (awake_c hS) rfl rfl ?_)
  clear hf hS; rintro v a w ⟨rfl, hS⟩ hf
  refine aN hf hS ?_; clear hf; intro a hf
  refine done_l (t_normal (c_ret (b_ret (t_ret (t_ret (b_ret (t_ret ?_)))))))
  refine eT hf ?_
  exact ⟨rfl, hS.subA⟩
 clear hf; intro hc2 a hf
 obtain rfl : i = l.length := by omega
 rw [List.take_length] at hlt
 have hfit := ord_fit (hv _ (hS.subA)) hlt
 refine done_l (t_normal (c_seq ?_))
 refine c_false hf rfl ?_
 refine c_exit (t_exit (t_exit (b_exit (t_normal (c_seq (c_region ?_))))))
 refine mN hf hS ?_; clear hf; intro a hf
 refine sR hf hS (rd_convInt hf rfl rfl Try.underlying3 Try.underlying24 rfl) ?_; clear hf; intro a hf
 refine mN hf hS ?_; clear hf; intro a hf
 refine sR hf hS (rd_len hf rfl rfl Try.underlying25) ?_; clear hf; intro a hf
 refine sR hf hS (rd_add hf rfl rfl rfl (i64_add1 (by omega))) ?_; clear hf; intro a hf
 refine sR hf hS (rd_convInt hf rfl rfl Try.underlying3 Try.underlying24 (wrap64 (by omega))) ?_; clear hf; intro a hf
 refine sR hf hS (rd_rem hf rfl rfl rfl (by first | decide | omega) (u64mod at0 (by omega))) ?_; clear hf; intro a hf
 refine sR hf hS (rd_convInt hf rfl rfl Try.underlying24 Try.underlying3 (Go.IntWalk.i64_in _ (by have := Nat.mod_lt (at0 % 18446744073709551616).toNat (show 0 < (l.length + 1) by omega); omega))) ?_; clear hf; intro a hf
 refine aN hf hS ?_; clear hf; intro a hf
 refine done_l ?_
 obtain ⟨P, hPe⟩ : ∃ P : Nat, P = (at0 % 18446744073709551616).toNat % (l.length + 1) := ⟨_, rfl⟩
 have hP : P ≤ l.length := (by have := Nat.mod_lt (at0 % 18446744073709551616).toNat (show 0 < l.length + 1 by omega); omega)
 rw [← hPe] at hf
 have hlt1 : (l.take P).length = P := (by rw [List.length_take]; omega)
 have hlt2 : (l.drop P).length = l.length - P := List.length_drop
 refine t_normal (c_seq (c_region ?_))
 refine step_l (st_call hf (Wn.none rfl) rfl rfl rfl fn7 (NNew_c hS) rfl rfl ?_)
 clear hf hS; rintro v a w ⟨pa, rfl, hS⟩ hf
 refine step_l (st_call hf (Wn.none rfl) rfl rfl rfl fn7 (NNew_c hS) rfl rfl ?_)
 clear hf hS; rintro v a w ⟨pb, rfl, hS⟩ hf
 refine step_l (st_call hf (Wn.none rfl) rfl rfl rfl fn7 (NNew_c hS) rfl rfl ?_)
 clear hf hS; rintro v a w ⟨pc, rfl, hS⟩ hf
 iterate 3 (refine aN hf hS ?_; clear hf; intro a hf)
 refine done_l (t_normal (c_seq (c_region ?_)))
 iterate 2 (refine mN hf hS ?_; clear hf; intro a hf)
 refine step_l (st_call hf (Wn.none rfl) rfl rfl rfl fn9 (NSend_c pa [] 0 l _ cl (hS.selA) (fun _ h => hv _ (h.subA)) ⟨by omega, by omega⟩) rfl rfl ?_)
 clear hf hS; rintro v a w ⟨rfl, hS⟩ hf; have hihA := sendS_in (l.map pMsg) ([], 0, 0); obtain ⟨xa, la, na, hA⟩ : ∃ x y z, sendS (l.map pMsg) ([], 0, 0) = (x, y, z) := ⟨_, _, _, rfl⟩; rw [hA] at hf hS hihA; dsimp only at hf hS hihA; rw [List.length_map] at hihA
 refine aN hf hS ?_; clear hf; intro a hf
 refine done_l (t_normal (c_seq (c_region ?_)))
 iterate 3 (refine mN hf hS ?_; clear hf; intro a hf)
 refine sR hf hS (rd_sliceH hf rfl rfl rfl Try.underlying25 sz30 (by omega) (by omega)) ?_; clear hf; intro a hf
 simp only [Int.toNat_natCast] at hf
 refine step_l (st_call hf (Wn.none rfl) rfl rfl rfl fn9 (by have h0 := (NSend_c pb [] 0 (l.take P) _ cl (hS.selA) (fun _ h => (hv _ (h.subA)).take hP) ⟨by omega, by omega⟩); rw [hlt1] at h0; exact h0) rfl rfl ?_)
 clear hf hS; rintro v a w ⟨rfl, hS⟩ hf; have hihB := sendS_in ((l.take P).map pMsg) ([], 0, 0); obtain ⟨xb, lb, nb, hB⟩ : ∃ x y z, sendS ((l.take P).map pMsg) ([], 0, 0) = (x, y, z) := ⟨_, _, _, rfl⟩; rw [hB] at hf hS hihB; dsimp only at hf hS hihB; rw [List.length_map] at hihB
 refine aN hf hS ?_; clear hf; intro a hf
 refine done_l (t_normal (c_seq (c_region ?_)))
 iterate 4 (refine mN hf hS ?_; clear hf; intro a hf)
 refine sR hf hS (rd_sliceL hf rfl rfl rfl Try.underlying25 sz30 (by omega) (by omega)) ?_; clear hf; intro a hf
 simp only [Int.toNat_natCast] at hf
 refine step_l (st_call hf (Wn.none rfl) rfl rfl rfl fn9 (by have h0 := (NSend_c pb xb lb (l.drop P) _ (cl - P) (hS.selA) (fun _ h => (hv _ (h.subA)).drop hP hlc rfl) ⟨by omega, by omega⟩); rw [hlt2] at h0; exact h0) rfl rfl ?_)
 clear hf hS; rintro v a w ⟨rfl, hS⟩ hf; have hihB2 := sendS_in ((l.drop P).map pMsg) (xb, lb, 0); obtain ⟨xb2, lb2, nb2, hB2⟩ : ∃ x y z, sendS ((l.drop P).map pMsg) (xb, lb, 0) = (x, y, z) := ⟨_, _, _, rfl⟩; rw [hB2] at hf hS hihB2; dsimp only at hf hS hihB2; rw [List.length_map] at hihB2
 refine sR hf hS (rd_add hf rfl rfl rfl (i64_add (by omega))) ?_; clear hf; intro a hf
 refine aN hf hS ?_; clear hf; intro a hf
 refine done_l (t_normal (c_seq (c_region ?_)))
 refine aN hf hS ?_; clear hf; intro a hf
 refine done_l (t_normal (c_seq (c_seq (c_region ?_))))
 refine mN hf hS ?_; clear hf; intro a hf
 refine sR hf hS (rd_len hf rfl rfl Try.underlying25) ?_; clear hf; intro a hf
 refine mN hf hS ?_; clear hf; intro a hf
 refine done_l (t_normal (c_block ?_))
 have hk1 := Keep.ofA hf [(12, 12), (14, 14), (59, 69)]
 refine c_loopK hk1 (α := Nat × Option Addr × Nat) (fun ⟨i, q, cap⟩ => [(12, .slice q ((l.take i).filter fun m => mayM (pMsg m)).length cap), (59, .int .i64 (i : Nat))]) (fun ⟨i, q, cap⟩ w => Sat W (Rw 30 10 q ((l.take i).filter fun m => mayM (pMsg m)).length cap (((l.take i).filter fun m => mayM (pMsg m)).flatMap msgC) :: NetP 46 30 59 117 5 62 83 68 pa xa la :: NetP 46 30 59 117 5 62 83 68 pb xb2 lb2 :: NetP 46 30 59 117 5 62 83 68 pc [] 0 :: R) w ∧ i ≤ l.length) (fun ⟨i, q, cap⟩ => l.length - i) (0, none, 0) (((hf.keep hk1).kb hf 59 rfl (by first | rfl | exact int_eq (by omega))).kb hf 12 rfl (by first | rfl | exact int_eq (by omega))) ⟨(hS.rwNil 30 10).subA, by omega⟩ ?_
 clear hf hS; rintro ⟨i, q, cap⟩ a w hf ⟨hS, hi⟩; (try dsimp only [List.cons_append, List.nil_append] at hf)
 refine c_seq (c_region ?_)
 refine sB hf hS (rd_lss hf rfl rfl rfl) ?_ ?_
 ·
  clear hf; intro hc5 a hf
  obtain ⟨x, hget⟩ := get_of_lt (l := l) (k := i) (by omega) rfl; obtain ⟨ad, rfl⟩ := (hv _ (hS.subA)).some (by omega); have hmv := fun w h => (hv w h).in hget; obtain ⟨kd, fr, tn, op, fo, ky, bk, ⟨qe, ce, es⟩, ⟨qd, cd, ds⟩, ⟨qm, cm, ms⟩, _⟩ := x; have hle := (hmv _ (hS.subA)).1.len; have hld := (hmv _ (hS.subA)).2.1.len; have hlm := (hmv _ (hS.subA)).2.2.len; (try dsimp only [mEs, mDs, mMs] at hle hld hlm); have hgl : ((l.take i).filter fun m => mayM (pMsg m)).length ≤ i := Nat.le_trans (List.length_filter_le _ _) (by rw [List.length_take]; omega)
  refine done_l (t_normal (c_seq ?_))
  refine c_true hf rfl ?_
  refine c_skip (t_normal (c_seq (c_block (c_seq (c_region ?_)))))
  refine sR hf hS ((by first | exact rd_indexAddrN hf rfl rfl rfl Try.underlying25 sz30 (by omega) | exact rd_indexAddr hf rfl rfl rfl Try.underlying25 sz30 (by first | decide | omega) (by omega))) ?_; clear hf; intro a hf
  refine sR hf hS (rd_loadN hf rfl rfl ag30 sz30 (by intro _ h; exact (show AggAt _ _ _ [.int .i64 kd, .int .i64 fr, .int .i64 tn, .int .i64 op, .int .i64 fo, .string (str ky), .int .i64 bk, .slice qe es.length ce, .slice qd ds.length cd, .slice qm ms.length cm] from (hv _ (h.subA)).el hget))) ?_; clear hf; intro a hf
  refine sA hf hS zr30 ?_
  clear hf hS; intro b_g a w hf hS
  refine sS hf hS sz30 ?_
  clear hf hS; intro a w hf hS
  refine done_l (t_normal (c_seq (c_region ?_)))
  refine sR hf hS (rd_ldN hf ag30 sz30) ?_; clear hf; intro a hf
  refine step_l (st_call hf (Wn.none rfl) rfl rfl rfl fn14 (RMay_c _ _ _ _ _ _ _ _ _ _ _ _ _ _ _ _  hS (fun _ h => (hmv _ (h.subA)).1) (fun _ h => (hmv _ (h.subA)).2.1) (fun _ h => (hmv _ (h.subA)).2.2) (by omega) (by omega) (by omega)) rfl rfl ?_)
  clear hf hS; rintro v a w ⟨rfl, hS⟩ hf
  first | refine split_dec (d := 64) hf rfl ?_ ?_ | refine split_bool (d := 64) hf rfl ?_ ?_
  ·
   clear hf; intro hc7 hf
   have hmy := hc7
   refine done_l (t_normal ?_)
   refine c_true hf rfl ?_
   refine c_region ?_
   refine mN hf hS ?_; clear hf; intro a hf
   refine sR hf hS (rd_ldN hf ag30 sz30) ?_; clear hf; intro a hf
   refine step_l (st_buildSlice hf (Wn.none rfl) hS rfl rfl Try.underlying25 sz30 zr30 (by decide) bz30_1 rfl (.cons rfl (by first | rfl) (by rfl) (by repeat (first | exact Put.nil | apply Put.cons | apply Put.succ)) .nil) rfl rfl ?_)
   clear hf hS; intro b_8 a w hf hS
   refine step_l (st_append hf (Wn.none rfl) rfl rfl rfl Try.underlying25 tyb30 (by rfl) (by decide) hS (by repeat (first | exact Sel.head | apply Sel.tail)) (by first | exact hS.slOfBlk (by repeat (first | exact Sel.head | apply Sel.tail)) (by rfl) | exact hS.slOfBlkPre (by repeat (first | exact Sel.head | apply Sel.tail)) (bvs_len1 _) | exact hS.slOfRw (by repeat (first | exact Sel.head | apply Sel.tail)) | exact SlAt.nil _ _ _) (by first | rfl | exact bvs_one _ | (simp [Value.oneCell']; done)) (by omega) rfl rfl ?_)
   clear hf hS; intro pA capA a w hf hS hnilA
   refine aN hf hS ?_; clear hf; intro a hf
   refine done_l (b_normal (t_normal (c_region ?_)))
   refine sP hf hS ?_; clear hf; intro a hf
   refine mN hf hS ?_; clear hf; intro a hf
   refine done_l ?_
   have hgn : ((l.take (i + 1)).filter fun m => mayM (pMsg m)) = ((l.take i).filter fun m => mayM (pMsg m)) ++ [((kd, fr, tn, op, fo, ky, bk, (qe, ce, es), (qd, cd, ds), (qm, cm, ms), ()) : MsgT)] := (take_filter hget).trans (by rw [if_pos (show mayM (pMsg ((kd, fr, tn, op, fo, ky, bk, (qe, ce, es), (qd, cd, ds), (qm, cm, ms), ()) : MsgT)) = true from hmy)]); have h2 : Sat W (Rw 30 10 pA (((l.take i).filter fun m => mayM (pMsg m)).length + 1) capA (((l.take i).filter fun m => mayM (pMsg m)).flatMap msgC ++ msgC ((kd, fr, tn, op, fo, ky, bk, (qe, ce, es), (qd, cd, ds), (qm, cm, ms), ()) : MsgT)) :: NetP 46 30 59 117 5 62 83 68 pa xa la :: NetP 46 30 59 117 5 62 83 68 pb xb2 lb2 :: NetP 46 30 59 117 5 62 83 68 pc [] 0 :: R) w := hS.subA; replace h2 := h2.rwCast (xs' := ((l.take (i + 1)).filter fun m => mayM (pMsg m)).flatMap msgC) (len' := ((l.take (i + 1)).filter fun m => mayM (pMsg m)).length) (by rw [hgn, List.flatMap_append]; rfl) (by rw [hgn, List.length_append]; rfl)
   refine t_normal ⟨(i + 1, pA, capA), (((hf.backA hk1).kb hf 59 rfl (by first | rfl | exact int_eq (by omega))).kb hf 12 rfl (by rw [hgn, List.length_append]; rfl)), ⟨(h2.subA), by omega⟩, by first | omega | (simp only []; omega)⟩
  clear hf; intro hc7 hf
  have hmy := hc7
  refine done_l (t_normal ?_)
  refine c_false hf rfl ?_
  refine c_skip (b_normal (t_normal (c_region ?_)))
  refine sP hf hS ?_; clear hf; intro a hf
  refine mN hf hS ?_; clear hf; intro a hf
  refine done_l ?_
  have hgn : ((l.take (i + 1)).filter fun m => mayM (pMsg m)) = ((l.take i).filter fun m => mayM (pMsg m)) := (take_filter hget).trans (by rw [if_neg (show ¬ mayM (pMsg ((kd, fr, tn, op, fo, ky, bk, (qe, ce, es), (qd, cd, ds), (qm, cm, ms), ()) : MsgT)) = true from fun e => by rw [show mayM (pMsg ((kd, fr, tn, op, fo, ky, bk, (qe, ce, es), (qd, cd, ds), (qm, cm, ms), ()) : MsgT)) = false from hmy] at e; cases e), List.append_nil])
  refine t_normal ⟨(i + 1, q, cap), (((hf.backA hk1).kb hf 59 rfl (by first | rfl | exact int_eq (by omega))).kb hf 12 rfl (by rw [hgn])), ⟨(by rw [hgn]; exact hS.subA), by omega⟩, by first | omega | (simp only []; omega)⟩
 clear hf; intro hc5 a hf
 obtain rfl : i = l.length := by omega
 rw [List.take_length] at hf hS
 have hgl := List.length_filter_le (fun m => mayM (pMsg m)) l
 refine done_l (t_normal (c_seq ?_))
 refine c_false hf rfl ?_
 refine c_exit (t_exit (t_exit (b_exit (t_normal (c_seq (c_region ?_))))))
 iterate 2 (refine mN hf hS ?_; clear hf; intro a hf)
 refine step_l (st_call hf (Wn.none rfl) rfl rfl rfl fn9 (NSend_c pc [] 0 (l.filter fun m => mayM (pMsg m)) _ cap (hS.selA) (fun _ h => ⟨h.slOfRw (by repeat (first | exact Sel.head | apply Sel.tail)), fun m hm => (hv _ (h.subA)).2 m (List.mem_filter.1 hm).1⟩) ⟨by omega, by omega⟩) rfl rfl ?_)
 clear hf hS; rintro v a w ⟨rfl, hS⟩ hf; have hihC := sendS_in ((l.filter fun m => mayM (pMsg m)).map pMsg) ([], 0, 0); obtain ⟨xc, lc, nc, hC⟩ : ∃ x y z, sendS ((l.filter fun m => mayM (pMsg m)).map pMsg) ([], 0, 0) = (x, y, z) := ⟨_, _, _, rfl⟩; rw [hC] at hf hS hihC; dsimp only at hf hS hihC; rw [List.length_map] at hihC; have hab := hA.symm.trans (ord_two hB hB2); simp only [Prod.mk.injEq] at hab; obtain ⟨hab1, hab2, hab3⟩ := hab; have hgd := sendS_good (l.map pMsg) [] 0 0 0 hfit; rw [← filter_map, hC, hA] at hgd; dsimp only at hgd; obtain ⟨hgd1, hgd2⟩ := hgd; have hln := sendS_len ((l.filter fun m => mayM (pMsg m)).map pMsg) ([], 0, 0); rw [hC] at hln; dsimp only [List.length_nil] at hln
 refine aN hf hS ?_; clear hf; intro a hf
 refine done_l (t_normal (c_seq (c_region ?_)))
 iterate 2 (refine mN hf hS ?_; clear hf; intro a hf)
 refine sB hf hS (rd_eql hf rfl rfl rfl) ?_ ?_
 ·
  clear hf; intro hc10 a hf
  iterate 3 ((first | refine mN hf hS ?_ | refine step_l (st_rd hf (Wn.some hf rfl rfl rfl rfl) (rd_move hf rfl rfl) hS rfl rfl ?_)); clear hf; intro a hf)
  refine step_l (st_rdB hf (Wn.some hf rfl rfl rfl rfl) (rd_eql hf rfl rfl rfl) hS rfl rfl ?_ ?_)
  ·
   clear hf; intro hc11 a hf
   iterate 3 ((first | refine mN hf hS ?_ | refine step_l (st_rd hf (Wn.some hf rfl rfl rfl rfl) (rd_move hf rfl rfl) hS rfl rfl ?_) | refine pT hf hS ?_); clear hf; intro a hf)
   refine step_l (st_call hf (Wn.some hf rfl rfl rfl rfl) rfl rfl rfl fn11 (NLost_c pa _ _ (hS.selA)) rfl rfl ?_)
   clear hf hS; rintro v a w ⟨rfl, hS⟩ hf
   refine sG hf hS (rd_move hf rfl rfl) ?_; clear hf; intro a hf
   refine step_l (st_call hf (Wn.some hf rfl rfl rfl rfl) rfl rfl rfl fn11 (NLost_c pb _ _ (hS.selA)) rfl rfl ?_)
   clear hf hS; rintro v a w ⟨rfl, hS⟩ hf
   refine step_l (st_rdB hf (Wn.some hf rfl rfl rfl rfl) (rd_eql hf rfl rfl rfl) hS rfl rfl ?_ ?_)
   ·
    clear hf; intro hc12 a hf
    iterate 3 ((first | refine mN hf hS ?_ | refine step_l (st_rd hf (Wn.some hf rfl rfl rfl rfl) (rd_move hf rfl rfl) hS rfl rfl ?_) | refine pT hf hS ?_); clear hf; intro a hf)
    refine step_l (st_call hf (Wn.some hf rfl rfl rfl rfl) rfl rfl rfl fn16 (NAll_c pa _ _ (hS.selA)) rfl rfl ?_)
    clear hf hS; rintro v a w ⟨qA, cA, LA, rfl, hA1, hA2, hA3, hS⟩ hf
    refine sG hf hS (rd_move hf rfl rfl) ?_; clear hf; intro a hf
    refine step_l (st_call hf (Wn.some hf rfl rfl rfl rfl) rfl rfl rfl fn16 (NAll_c pb _ _ (hS.selA)) rfl rfl ?_)
    clear hf hS; rintro v a w ⟨qB, cB, LB, rfl, hB1, hB2a, hB3, hS⟩ hf
    refine step_l (st_call hf (Wn.some hf rfl rfl rfl rfl) rfl rfl rfl fn15 (same_c LA _ _ LB _ _ hS (fun _ h => h.rowsAt (by repeat (first | exact Sel.head | apply Sel.tail)) (by repeat (first | exact Sel.head | apply Sel.tail)) hA2) (fun _ h => h.rowsAt (by repeat (first | exact Sel.head | apply Sel.tail)) (by repeat (first | exact Sel.head | apply Sel.tail)) hB2a) (by rw [hA1, hB1, hab1]) (by omega)) rfl rfl ?_)
    clear hf hS; rintro v a w ⟨rfl, hS⟩ hf
    first | refine split_dec (d := 93) hf rfl ?_ ?_ | refine split_bool (d := 93) hf rfl ?_ ?_
    ·
     clear hf; intro hc13 hf
     iterate 3 ((first | refine mN hf hS ?_ | refine step_l (st_rd hf (Wn.some hf rfl rfl rfl rfl) (rd_move hf rfl rfl) hS rfl rfl ?_) | refine pT hf hS ?_); clear hf; intro a hf)
     refine step_l (st_call hf (Wn.some hf rfl rfl rfl rfl) rfl rfl rfl fn17 (NLen_c pc _ _ (hS.selA)) rfl rfl ?_)
     clear hf hS; rintro v a w ⟨rfl, hS⟩ hf
     refine sG hf hS (rd_move hf rfl rfl) ?_; clear hf; intro a hf
     refine step_l (st_rdB hf (Wn.some hf rfl rfl rfl rfl) (rd_eql hf rfl rfl rfl) hS rfl rfl ?_ ?_)
     ·
      clear hf; intro hc14 a hf
      iterate 2 ((first | refine mN hf hS ?_ | refine pT hf hS ?_); clear hf; intro a hf)
      refine step_l (st_call hf (Wn.some hf rfl rfl rfl rfl) rfl rfl rfl fn12 (awake_c hS) rfl rfl ?_)
      clear hf hS; rintro v a w ⟨rfl, hS⟩ hf
      iterate 2 ((first | refine aN hf hS ?_ | refine pT hf hS ?_); clear hf; intro a hf)
      refine done_l (t_normal (c_ret ?_))
      refine eT hf ?_
      exact ⟨rfl, hS.subA⟩
     clear hf; intro hc14 a hf
     exact absurd (by omega) hc14
    clear hf; intro hc13 hf
    exact Bool.noConfusion hc13
   clear hf; intro hc12 a hf
   exact absurd (by omega) hc12
  clear hf; intro hc11 a hf
  exact absurd (by omega) hc11
 clear hf; intro hc10 a hf
 exact absurd (by omega) hc10

end Go.Proofs.Ytcflbdpjoanbgaa
