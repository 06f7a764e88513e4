/-
  Walked: Own.
  Conditions: none.
-/
import Derived.Test.YtcflbdpjoanbgaaGreatRe51
import Derived.Test.YtcflbdpjoanbgaaGreatNt1
namespace Go.Proofs.YtcflbdpjoanbgaaGreat
open Go Go.Sl
set_option linter.unusedVariables false
set_option linter.unusedSimpArgs false

theorem ClDot_c (L : List DotT) (q0 : Option Addr) (c0 : Nat) {W : World} {R : List HP} {w : World} (hS : Sat W (R) w) (hv : ∀ w, Sat W R w → DotsAt w (q0, c0, L)) : Calls Tryz.prog 48 [.slice q0 L.length c0].toArray w (Ret fun v w' => ∃ q cap, v = .slice q L.length cap ∧ Sat W (Rw 87 2 q L.length cap (L.flatMap dotC) :: R) w') := by
 refine fn_start 8 Tryz.func48 rfl rfl rfl ?_
 intro a hf
 have hl := (hv _ hS).len
 refine c_seq (c_region ?_)
 refine aN hf hS ?_; clear hf; intro a hf
 refine done_l (t_normal (c_seq (c_seq (c_region ?_))))
 refine mN hf hS ?_; clear hf; intro a hf
 refine step_l (st_rdb hf (Wn.none rfl) (rd_eqlNilS hf rfl rfl rfl Tryz.underlying59) hS rfl rfl ?_ ?_)
 ·
  clear hf; intro hc1 a hf
  have hz : L.length = 0 := (hv _ hS).1.len0 hc1
  refine done_l (t_normal ?_)
  refine c_true hf rfl ?_
  refine c_seq (c_region ?_)
  refine aN hf hS ?_; clear hf; intro a hf
  refine done_l (t_normal (c_ret (t_ret ?_)))
  refine eT hf ?_
  have hz2 : L = [] := List.eq_nil_of_length_eq_zero hz; subst hz2; exact ⟨none, 0, rfl, hS.rwNil _ 2⟩
 clear hf; intro hc1 a hf
 refine done_l (t_normal ?_)
 refine c_false hf rfl ?_
 refine c_skip (t_normal (c_seq (c_region ?_)))
 refine step_l (st_buildRw hf (Wn.none rfl) hS rfl rfl Tryz.underlying59 sz87 zr87 (by decide) (by decide) bz87_0 rfl .nil rfl rfl rfl ?_)
 clear hf hS; intro b_2 a w hf hS
 refine mN hf hS ?_; clear hf; intro a hf
 refine step_l (st_append hf (Wn.none rfl) rfl rfl rfl Tryz.underlying59 tyb87 (by rfl) (by decide) hS (by repeat (first | exact Sel.head | apply Sel.tail)) (by first | exact hS.slOfBlk (by repeat (first | exact Sel.head | apply Sel.tail)) (by rfl) | exact hS.slOfBlkPre (by repeat (first | exact Sel.head | apply Sel.tail)) (bvs_len1 _) | exact hS.slOfRw (by repeat (first | exact Sel.head | apply Sel.tail)) | exact SlAt.nil _ _ _ | exact (hv _ (hS.subA)).1) (by first | rfl | exact bvs_one _ | (simp [Value.oneCell']; done) | exact one_dot _) (by omega) rfl rfl ?_)
 clear hf hS; intro pA capA a w hf hS hnilA
 refine aN hf hS ?_; clear hf; intro a hf
 refine done_l (t_normal (c_ret ?_))
 refine eT hf ?_
 exact ⟨pA, capA, by rw [Nat.zero_add], (hS.rwCast (xs' := L.flatMap dotC) (by simp) (Nat.zero_add _)).subA⟩

theorem ClMember_c (L : List DotT) (q0 : Option Addr) (c0 : Nat) {W : World} {R : List HP} {w : World} (hS : Sat W (R) w) (hv : ∀ w, Sat W R w → DotsAt w (q0, c0, L)) : Calls Tryz.prog 49 [.slice q0 L.length c0].toArray w (Ret fun v w' => ∃ q cap, v = .slice q L.length cap ∧ Sat W (Rw 73 2 q L.length cap (L.flatMap dotC) :: R) w') := by
 refine fn_start 8 Tryz.func49 rfl rfl rfl ?_
 intro a hf
 have hl := (hv _ hS).len
 refine c_seq (c_region ?_)
 refine aN hf hS ?_; clear hf; intro a hf
 refine done_l (t_normal (c_seq (c_seq (c_region ?_))))
 refine mN hf hS ?_; clear hf; intro a hf
 refine step_l (st_rdb hf (Wn.none rfl) (rd_eqlNilS hf rfl rfl rfl Tryz.underlying30) hS rfl rfl ?_ ?_)
 ·
  clear hf; intro hc1 a hf
  have hz : L.length = 0 := (hv _ hS).1.len0 hc1
  refine done_l (t_normal ?_)
  refine c_true hf rfl ?_
  refine c_seq (c_region ?_)
  refine aN hf hS ?_; clear hf; intro a hf
  refine done_l (t_normal (c_ret (t_ret ?_)))
  refine eT hf ?_
  have hz2 : L = [] := List.eq_nil_of_length_eq_zero hz; subst hz2; exact ⟨none, 0, rfl, hS.rwNil _ 2⟩
 clear hf; intro hc1 a hf
 refine done_l (t_normal ?_)
 refine c_false hf rfl ?_
 refine c_skip (t_normal (c_seq (c_region ?_)))
 refine step_l (st_buildRw hf (Wn.none rfl) hS rfl rfl Tryz.underlying30 sz73 zr73 (by decide) (by decide) bz73_0 rfl .nil rfl rfl rfl ?_)
 clear hf hS; intro b_2 a w hf hS
 refine mN hf hS ?_; clear hf; intro a hf
 refine step_l (st_append hf (Wn.none rfl) rfl rfl rfl Tryz.underlying30 tyb73 (by rfl) (by decide) hS (by repeat (first | exact Sel.head | apply Sel.tail)) (by first | exact hS.slOfBlk (by repeat (first | exact Sel.head | apply Sel.tail)) (by rfl) | exact hS.slOfBlkPre (by repeat (first | exact Sel.head | apply Sel.tail)) (bvs_len1 _) | exact hS.slOfRw (by repeat (first | exact Sel.head | apply Sel.tail)) | exact SlAt.nil _ _ _ | exact (hv _ (hS.subA)).1) (by first | rfl | exact bvs_one _ | (simp [Value.oneCell']; done) | exact one_dot _) (by omega) rfl rfl ?_)
 clear hf hS; intro pA capA a w hf hS hnilA
 refine aN hf hS ?_; clear hf; intro a hf
 refine done_l (t_normal (c_ret ?_))
 refine eT hf ?_
 exact ⟨pA, capA, by rw [Nat.zero_add], (hS.rwCast (xs' := L.flatMap dotC) (by simp) (Nat.zero_add _)).subA⟩

theorem Own_c (ky : List UInt8) (s0 s1 s2 s3 s4 s5 s6 s7 : Int) (xs : List ValT) (xq : Option Addr) (xc : Nat) {W : World} {R : List HP} {w : World} (hS : Sat W (R) w) (hv : ∀ w, Sat W R w → ValsAt w (xq, xc, xs)) : Calls Tryz.prog 47 [.agg #[.string (str ky), .int .i64 s0, .int .i64 s1, .int .i64 s2, .int .i64 s3, .int .i64 s4, .int .i64 s5, .int .i64 s6, .int .i64 s7, .slice xq xs.length xc]].toArray w (Ret fun v w' => ∃ q c L, v = .agg #[.string (str ky), .int .i64 s0, .int .i64 s1, .int .i64 s2, .int .i64 s3, .int .i64 s4, .int .i64 s5, .int .i64 s6, .int .i64 s7, .slice q L.length c] ∧ L.map pVal = xs.map pVal ∧ Sat W (ValR 107 5 (q, c, L) :: R) w') := by
 refine fn_start 27 Tryz.func47 rfl rfl rfl ?_
 intro a hf
 have hl := (hv _ hS).len
 refine c_seq (c_region ?_)
 refine step_l (st_box hf (Wn.none rfl) hS rfl rfl (by rfl) rfl rfl ?_)
 clear hf hS; intro b_m a w hf hS
 refine sA hf hS zr58 ?_
 clear hf hS; intro b_r a w hf hS
 refine done_l (t_normal (c_seq (c_region ?_)))
 refine aN hf hS ?_; clear hf; intro a hf
 refine done_l (t_normal (c_seq (c_seq (c_region ?_))))
 refine fA hf hS fb58_1 ?_; clear hf; intro a hf
 refine fA hf hS fb56_1 ?_; clear hf; intro a hf
 refine sR hf hS (rd_ld hf ag54) ?_; clear hf; intro a hf
 refine sR hf hS (rd_len hf rfl rfl Tryz.underlying54) ?_; clear hf; intro a hf
 refine mN hf hS ?_; clear hf; intro a hf
 refine done_l (t_normal (c_block ?_))
 have hk0 := Keep.ofA hf [(3, 3), (5, 5), (10, 22)]
 refine c_loopK hk0 (α := Nat × Option Addr × Nat × List ValT) (fun ⟨k, q, cap, L⟩ => [(3, .slice q L.length cap), (10, .int .i64 (k : Nat))]) (fun ⟨k, q, cap, L⟩ w => Sat W (Rw 107 4 q L.length cap (L.flatMap valC) :: Rws 5 (L.map fun v : ValT => v.2.1) :: Blk b_m [.string (str ky), .int .i64 s0, .int .i64 s1, .int .i64 s2, .int .i64 s3, .int .i64 s4, .int .i64 s5, .int .i64 s6, .int .i64 s7, .slice xq xs.length xc] 58 :: Blk b_r [.string ⟨#[]⟩, .int .i64 0, .int .i64 0, .int .i64 0, .int .i64 0, .int .i64 0, .int .i64 0, .int .i64 0, .int .i64 0, .slice none 0 0] 58 :: R) w ∧ k ≤ xs.length ∧ L.length = k ∧ L.map pVal = (xs.take k).map pVal) (fun ⟨k, q, cap, L⟩ => xs.length - k) (0, none, 0, []) (((hf.keep hk0).kb hf 10 rfl (by first | rfl | exact int_eq (by omega))).kb hf 3 rfl (by first | rfl | exact int_eq (by omega))) ⟨((hS.rwsNil 5).rwNil 107 4).subA, ⟨by omega, rfl, rfl⟩⟩ ?_
 clear hf hS; rintro ⟨k, q, cap, L⟩ a w hf ⟨hS, ⟨hk, hlk, hok⟩⟩; (try dsimp only [List.cons_append, List.nil_append] at hf)
 refine c_seq (c_region ?_)
 refine sB hf hS (rd_lss hf rfl rfl rfl) ?_ ?_
 ·
  clear hf; intro hc3 a hf
  obtain ⟨x, hget⟩ := get_of_lt (l := xs) (k := k) (by omega) rfl; obtain ⟨ad, rfl⟩ := (hv _ (hS.subA)).some (by omega); have hvx := fun w h => ((hv w h).in hget).1; have hbl := ((hv _ (hS.subA)).in hget).2; obtain ⟨⟨dn, dc, _⟩, ⟨vq, vc, bs⟩, dead, _⟩ := x; dsimp only at hbl
  refine done_l (t_normal (c_seq ?_))
  refine c_true hf rfl ?_
  refine c_skip (t_normal (c_seq (c_block (c_seq (c_region ?_)))))
  refine sR hf hS ((by first | exact rd_indexAddrN hf rfl rfl rfl Tryz.underlying54 sz107 (by omega) | exact rd_indexAddr hf rfl rfl rfl Tryz.underlying54 sz107 (by first | decide | omega) (by omega))) ?_; clear hf; intro a hf
  refine sR hf hS (rd_loadN hf rfl rfl ag107 sz107 (by intro _ h; exact (show AggAt _ _ _ [.int .i64 dn, .int .i64 dc, .slice vq bs.length vc, .bool dead] from (hv _ (h.subA)).el hget))) ?_; clear hf; intro a hf
  refine sA hf hS zr107 ?_
  clear hf hS; intro b_v a w hf hS
  refine sS hf hS sz107 ?_
  clear hf hS; intro a w hf hS
  refine done_l (t_normal (c_seq (c_region ?_)))
  refine fA hf hS fb107_1 ?_; clear hf; intro a hf
  refine sR hf hS (rd_ld hf ag34) ?_; clear hf; intro a hf
  refine step_l (st_call hf (Wn.none rfl) rfl rfl rfl fn76 (Clone_c bs _ _ _ hS rfl (by omega) (fun _ h => hvx _ (h.subA))) rfl rfl ?_)
  clear hf hS; rintro v a w ⟨qc, capc, rfl, hS⟩ hf
  refine fA hf hS fb107_1 ?_; clear hf; intro a hf
  refine sS hf hS sz34 ?_
  clear hf hS; intro a w hf hS
  refine done_l (t_normal (c_region ?_))
  refine mN hf hS ?_; clear hf; intro a hf
  refine sR hf hS (rd_ldN hf ag107 sz107) ?_; clear hf; intro a hf
  refine step_l (st_buildSlice hf (Wn.none rfl) hS rfl rfl Tryz.underlying54 sz107 zr107 (by decide) bz107_1 rfl (.cons rfl (by first | rfl) (by rfl) (by repeat (first | exact Put.nil | apply Put.cons | apply Put.succ)) .nil) rfl rfl ?_)
  clear hf hS; intro b_5 a w hf hS
  refine step_l (st_append hf (Wn.none rfl) rfl rfl rfl Tryz.underlying54 tyb107 (by rfl) (by decide) hS (by repeat (first | exact Sel.head | apply Sel.tail)) (by first | exact hS.slOfBlk (by repeat (first | exact Sel.head | apply Sel.tail)) (by rfl) | exact hS.slOfBlkPre (by repeat (first | exact Sel.head | apply Sel.tail)) (bvs_len1 _) | exact hS.slOfRw (by repeat (first | exact Sel.head | apply Sel.tail)) | exact SlAt.nil _ _ _) (by first | rfl | exact bvs_one _ | (simp [Value.oneCell']; done)) (by omega) rfl rfl ?_)
  clear hf hS; intro pA capA a w hf hS hnilA
  refine aN hf hS ?_; clear hf; intro a hf
  refine done_l (b_normal (t_normal (c_region ?_)))
  refine sP hf hS ?_; clear hf; intro a hf
  refine mN hf hS ?_; clear hf; intro a hf
  refine done_l ?_
  have h1 : Sat W (Rws 5 (L.map fun v : ValT => v.2.1) :: Rw 5 1 qc bs.length capc (bvs bs) :: Rw 107 4 pA (L.length + 1) capA (L.flatMap valC ++ [.int .i64 dn, .int .i64 dc, .slice qc bs.length capc, .bool dead]) :: Blk b_m [.string (str ky), .int .i64 s0, .int .i64 s1, .int .i64 s2, .int .i64 s3, .int .i64 s4, .int .i64 s5, .int .i64 s6, .int .i64 s7, .slice (some ad) xs.length xc] 58 :: Blk b_r [.string ⟨#[]⟩, .int .i64 0, .int .i64 0, .int .i64 0, .int .i64 0, .int .i64 0, .int .i64 0, .int .i64 0, .int .i64 0, .slice none 0 0] 58 :: R) w := hS.subA; replace h1 := h1.rwsSnoc rfl; have h2 : Sat W (Rw 107 4 pA (L.length + 1) capA (L.flatMap valC ++ [.int .i64 dn, .int .i64 dc, .slice qc bs.length capc, .bool dead]) :: Rws 5 (L.map (fun v : ValT => v.2.1) ++ [(qc, capc, bs)]) :: Blk b_m [.string (str ky), .int .i64 s0, .int .i64 s1, .int .i64 s2, .int .i64 s3, .int .i64 s4, .int .i64 s5, .int .i64 s6, .int .i64 s7, .slice (some ad) xs.length xc] 58 :: Blk b_r [.string ⟨#[]⟩, .int .i64 0, .int .i64 0, .int .i64 0, .int .i64 0, .int .i64 0, .int .i64 0, .int .i64 0, .int .i64 0, .slice none 0 0] 58 :: R) w := h1.subA; replace h2 := h2.rwCast (xs' := (L ++ [((dn, dc, ()), (qc, capc, bs), dead, ())]).flatMap valC) (len' := (L ++ [((dn, dc, ()), (qc, capc, bs), dead, ())]).length) (by simp [valC, dotC, slv]) (by simp)
  refine t_normal ⟨(k + 1, pA, capA, L ++ [((dn, dc, ()), (qc, capc, bs), dead, ())]), (((hf.backA hk0).kb hf 10 rfl (by first | rfl | exact int_eq (by omega))).kb hf 3 rfl (by simp)), ⟨(by rw [List.map_append]; exact h2.subA), ⟨by omega, by simp [hlk], map_snoc hok hget rfl⟩⟩, by first | omega | (simp only []; omega)⟩
 clear hf; intro hc3 a hf
 obtain rfl : k = xs.length := by omega
 rw [List.take_length] at hok
 refine done_l (t_normal (c_seq ?_))
 refine c_false hf rfl ?_
 refine c_exit (t_exit (t_exit (b_exit (t_normal (c_seq (c_region ?_))))))
 refine mN hf hS ?_; clear hf; intro a hf
 refine fA hf hS fb58_1 ?_; clear hf; intro a hf
 refine fA hf hS fb56_1 ?_; clear hf; intro a hf
 refine sS hf hS sz54 ?_
 clear hf hS; intro a w hf hS
 refine done_l (t_normal (c_seq (c_region ?_)))
 refine sR hf hS (rd_ldN hf ag58 sz58) ?_; clear hf; intro a hf
 refine sS hf hS sz58 ?_
 clear hf hS; intro a w hf hS
 refine done_l (t_normal (c_ret ?_))
 refine e_res1 hf.defers rfl (res_cellN hf rfl ag58 sz58 hS (by repeat (first | exact Sel.head | apply Sel.tail)) (by repeat (first | exact Seg.nil | apply Seg.cons | apply Seg.succ)) .nil) ?_
 exact ⟨_, _, L, rfl, hok, Sat.all (ps := [Rw 107 4 q L.length cap (L.flatMap valC), Rws 5 (L.map fun v : ValT => v.2.1)]) (hS.subA)⟩

set_option maxRecDepth 100000 in
set_option maxHeartbeats 4000000 in
theorem Pln_c (kd fr tn op fo : Int) (ky : List UInt8) (bk : Int) (es : List EntT) (qe : Option Addr) (ce : Nat) (ds : List DigT) (qd : Option Addr) (cd : Nat) (ms : List MemT) (qm : Option Addr) (cm : Nat) {W : World} {R : List HP} {w : World} (hS : Sat W (R) w) (hve : ∀ w, Sat W R w → EntsAt w (qe, ce, es)) (hvd : ∀ w, Sat W R w → DigsAt w (qd, cd, ds)) (hvm : ∀ w, Sat W R w → DotsAt w (qm, cm, ms)) : Calls Tryz.prog 27 [.agg #[.int .i64 kd, .int .i64 fr, .int .i64 tn, .int .i64 op, .int .i64 fo, .string (str ky), .int .i64 bk, .slice qe es.length ce, .slice qd ds.length cd, .slice qm ms.length cm]].toArray w (Ret fun v w' => ∃ q1 c1 L1 q2 c2 L2 q3 c3 L3, v = .agg #[.int .i64 kd, .int .i64 fr, .int .i64 tn, .int .i64 (plI (hasP 0 kd) op), .int .i64 (plI (hasP 1 kd) fo), .string (str (plB (hasP 2 kd) ky)), .int .i64 (plI (hasP 3 kd) bk), .slice q1 (L1 : List EntT).length c1, .slice q2 (L2 : List DigT).length c2, .slice q3 (L3 : List DotT).length c3] ∧ L1.map pEnt = plL (hasP 4 kd) (es.map pEnt) ∧ L2.map pDig = plL (hasP 5 kd) (ds.map pDig) ∧ L3.map pDot = plL (hasP 6 kd) (ms.map pDot) ∧ Sat W (EntR 58 107 5 (q1, c1, L1) :: DigR 61 87 (q2, c2, L2) :: Rw 73 2 q3 L3.length c3 (L3.flatMap dotC) :: R) w') := by
 refine fn_start 49 Tryz.func27 rfl rfl rfl ?_
 intro a hf
 obtain ⟨op', hop⟩ : ∃ x, plI (hasP 0 kd) op = x := ⟨_, rfl⟩; obtain ⟨fo', hfo⟩ : ∃ x, plI (hasP 1 kd) fo = x := ⟨_, rfl⟩; obtain ⟨ky', hky⟩ : ∃ x, plB (hasP 2 kd) ky = x := ⟨_, rfl⟩; obtain ⟨bk', hbk⟩ : ∃ x, plI (hasP 3 kd) bk = x := ⟨_, rfl⟩; obtain ⟨⟨qe', ce', es'⟩, hes⟩ : ∃ x, plS (hasP 4 kd) (qe, ce, es) = x := ⟨_, rfl⟩; obtain ⟨⟨qd', cd', ds'⟩, hds⟩ : ∃ x, plS (hasP 5 kd) (qd, cd, ds) = x := ⟨_, rfl⟩; obtain ⟨⟨qm', cm', ms'⟩, hms⟩ : ∃ x, plS (hasP 6 kd) (qm, cm, ms) = x := ⟨_, rfl⟩; have hpl := plP_eq (fr := fr) (tn := tn) hop hfo hky hbk hes hds hms; dsimp only at hpl; have hve' : ∀ w, Sat W R w → EntsAt w (qe', ce', es') := (by intro w h; rw [← hes]; exact plS_at (hve w h) (EntsAt.nil w)); have hvd' : ∀ w, Sat W R w → DigsAt w (qd', cd', ds') := (by intro w h; rw [← hds]; exact plS_at (hvd w h) (DigsAt.nil w)); have hvm' : ∀ w, Sat W R w → DotsAt w (qm', cm', ms') := (by intro w h; rw [← hms]; exact plS_at (hvm w h) (DotsAt.nil w)); have hE0 : hasP 4 kd = false → es'.length = 0 := plS_len0 hes
 have hle := (hve' _ hS).len; have hld := (hvd' _ hS).len
 refine c_seq (c_region ?_)
 refine step_l (st_box hf (Wn.none rfl) hS rfl rfl (by rfl) rfl rfl ?_)
 clear hf hS; intro b_m a w hf hS
 refine sA hf hS zr32 ?_
 clear hf hS; intro b_r a w hf hS
 refine done_l (t_normal (c_seq (c_region ?_)))
 refine sR hf hS (rd_ldN hf ag32 sz32) ?_; clear hf; intro a hf
 refine step_l (st_call hf (Wn.none rfl) rfl rfl rfl fn46 (Plain_c _ _ _ _ _ _ _ _ _ _ _ _ _ _ _ _ hS) rfl rfl ?_)
 clear hf hS; rintro v a w ⟨rfl, hS⟩ hf; rw [hop, hfo, hky, hbk, hes, hds, hms] at hf; dsimp only [slv] at hf
 refine sS hf hS sz32 ?_
 clear hf hS; intro a w hf hS
 refine done_l (t_normal (c_seq (c_region ?_)))
 refine aN hf hS ?_; clear hf; intro a hf
 refine done_l (t_normal (c_seq (c_seq (c_region ?_))))
 refine fA hf hS fb32_7 ?_; clear hf; intro a hf
 refine sR hf hS (rd_ld hf ag28) ?_; clear hf; intro a hf
 refine sR hf hS (rd_len hf rfl rfl Tryz.underlying28) ?_; clear hf; intro a hf
 refine mN hf hS ?_; clear hf; intro a hf
 refine done_l (t_normal (c_block ?_))
 have hk0 := Keep.ofA hf [(3, 3), (5, 5), (14, 23)]
 refine c_loopK hk0 (α := Nat × Option Addr × Nat × List EntT) (fun ⟨k, q, cap, L⟩ => [(3, .slice q L.length cap), (14, .int .i64 (k : Nat))]) (fun ⟨k, q, cap, L⟩ w => Sat W (Rw 58 10 q L.length cap (L.flatMap entC) :: AllG (fun e : EntT => ValR 107 5 e.2.1.2.1) L :: Blk b_m [.int .i64 kd, .int .i64 fr, .int .i64 tn, .int .i64 op', .int .i64 fo', .string (str ky'), .int .i64 bk', .slice qe' es'.length ce', .slice qd' ds'.length cd', .slice qm' ms'.length cm'] 32 :: Blk b_r [.int .i64 0, .int .i64 0, .int .i64 0, .int .i64 0, .int .i64 0, .string ⟨#[]⟩, .int .i64 0, .slice none 0 0, .slice none 0 0, .slice none 0 0] 32 :: R) w ∧ k ≤ es'.length ∧ L.length = k ∧ L.map pEnt = (es'.take k).map pEnt) (fun ⟨k, q, cap, L⟩ => es'.length - k) (0, none, 0, []) (((hf.keep hk0).kb hf 14 rfl (by first | rfl | exact int_eq (by omega))).kb hf 3 rfl (by first | rfl | exact int_eq (by omega))) ⟨((hS.allNil (fun e : EntT => ValR 107 5 e.2.1.2.1)).rwNil 58 10).subA, ⟨by omega, rfl, rfl⟩⟩ ?_
 clear hf hS; rintro ⟨k, q, cap, L⟩ a w hf ⟨hS, ⟨hk, hlk, hok⟩⟩; (try dsimp only [List.cons_append, List.nil_append] at hf)
 refine c_seq (c_region ?_)
 refine sB hf hS (rd_lss hf rfl rfl rfl) ?_ ?_
 ·
  clear hf; intro hc3 a hf
  obtain ⟨x, hget⟩ := get_of_lt (l := es') (k := k) (by omega) rfl; obtain ⟨ad, rfl⟩ := (hve' _ (hS.subA)).some (by omega); have h8 := ((hve' _ (hS.subA)).in hget).1; have hvx := fun w h => ((hve' w h).in hget).2; obtain ⟨ky, ⟨seen, ⟨xq, xc, xs⟩, _⟩, _⟩ := x; obtain ⟨s0, s1, s2, s3, s4, s5, s6, s7, rfl⟩ := len8 h8
  refine done_l (t_normal (c_seq ?_))
  refine c_true hf rfl ?_
  refine c_skip (t_normal (c_seq (c_block (c_seq (c_region ?_)))))
  refine sR hf hS ((by first | exact rd_indexAddrN hf rfl rfl rfl Tryz.underlying28 sz58 (by omega) | exact rd_indexAddr hf rfl rfl rfl Tryz.underlying28 sz58 (by first | decide | omega) (by omega))) ?_; clear hf; intro a hf
  refine sR hf hS (rd_loadN hf rfl rfl ag58 sz58 (by intro _ h; exact (show AggAt _ _ _ [.string (str ky), .int .i64 s0, .int .i64 s1, .int .i64 s2, .int .i64 s3, .int .i64 s4, .int .i64 s5, .int .i64 s6, .int .i64 s7, .slice xq xs.length xc] from (hve' _ (h.subA)).el hget))) ?_; clear hf; intro a hf
  refine sA hf hS zr58 ?_
  clear hf hS; intro b_e a w hf hS
  refine sS hf hS sz58 ?_
  clear hf hS; intro a w hf hS
  refine done_l (t_normal (c_region ?_))
  refine mN hf hS ?_; clear hf; intro a hf
  refine sR hf hS (rd_ldN hf ag58 sz58) ?_; clear hf; intro a hf
  refine step_l (st_call hf (Wn.none rfl) rfl rfl rfl fn47 (Own_c _ _ _ _ _ _ _ _ _  xs _ _ hS (fun _ h => hvx _ (h.subA))) rfl rfl ?_)
  clear hf hS; rintro v a w ⟨qo, co, Lo, rfl, hLo, hS⟩ hf
  refine step_l (st_buildSlice hf (Wn.none rfl) hS rfl rfl Tryz.underlying28 sz58 zr58 (by decide) bz58_1 rfl (.cons rfl (by first | rfl) (by rfl) (by repeat (first | exact Put.nil | apply Put.cons | apply Put.succ)) .nil) rfl rfl ?_)
  clear hf hS; intro b_5 a w hf hS
  refine step_l (st_append hf (Wn.none rfl) rfl rfl rfl Tryz.underlying28 tyb58 (by rfl) (by decide) hS (by repeat (first | exact Sel.head | apply Sel.tail)) (by first | exact hS.slOfBlk (by repeat (first | exact Sel.head | apply Sel.tail)) (by rfl) | exact hS.slOfBlkPre (by repeat (first | exact Sel.head | apply Sel.tail)) (bvs_len1 _) | exact hS.slOfRw (by repeat (first | exact Sel.head | apply Sel.tail)) | exact SlAt.nil _ _ _) (by first | rfl | exact bvs_one _ | (simp [Value.oneCell']; done)) (by omega) rfl rfl ?_)
  clear hf hS; intro pA capA a w hf hS hnilA
  refine aN hf hS ?_; clear hf; intro a hf
  refine done_l (b_normal (t_normal (c_region ?_)))
  refine sP hf hS ?_; clear hf; intro a hf
  refine mN hf hS ?_; clear hf; intro a hf
  refine done_l ?_
  have h1 : Sat W (AllG (fun e : EntT => ValR 107 5 e.2.1.2.1) L :: (fun e : EntT => ValR 107 5 e.2.1.2.1) (ky, ([s0, s1, s2, s3, s4, s5, s6, s7], (qo, co, Lo), ()), ()) :: Rw 58 10 pA (L.length + 1) capA (L.flatMap entC ++ [.string (str ky), .int .i64 s0, .int .i64 s1, .int .i64 s2, .int .i64 s3, .int .i64 s4, .int .i64 s5, .int .i64 s6, .int .i64 s7, .slice qo Lo.length co]) :: Blk b_m [.int .i64 kd, .int .i64 fr, .int .i64 tn, .int .i64 op', .int .i64 fo', .string (str ky'), .int .i64 bk', .slice (some ad) es'.length ce', .slice qd' ds'.length cd', .slice qm' ms'.length cm'] 32 :: Blk b_r [.int .i64 0, .int .i64 0, .int .i64 0, .int .i64 0, .int .i64 0, .string ⟨#[]⟩, .int .i64 0, .slice none 0 0, .slice none 0 0, .slice none 0 0] 32 :: R) w := hS.subA; replace h1 := h1.allSnoc; have h2 : Sat W (Rw 58 10 pA (L.length + 1) capA (L.flatMap entC ++ [.string (str ky), .int .i64 s0, .int .i64 s1, .int .i64 s2, .int .i64 s3, .int .i64 s4, .int .i64 s5, .int .i64 s6, .int .i64 s7, .slice qo Lo.length co]) :: AllG (fun e : EntT => ValR 107 5 e.2.1.2.1) (L ++ [(ky, ([s0, s1, s2, s3, s4, s5, s6, s7], (qo, co, Lo), ()), ())]) :: Blk b_m [.int .i64 kd, .int .i64 fr, .int .i64 tn, .int .i64 op', .int .i64 fo', .string (str ky'), .int .i64 bk', .slice (some ad) es'.length ce', .slice qd' ds'.length cd', .slice qm' ms'.length cm'] 32 :: Blk b_r [.int .i64 0, .int .i64 0, .int .i64 0, .int .i64 0, .int .i64 0, .string ⟨#[]⟩, .int .i64 0, .slice none 0 0, .slice none 0 0, .slice none 0 0] 32 :: R) w := h1.subA; replace h2 := h2.rwCast (xs' := (L ++ [(ky, ([s0, s1, s2, s3, s4, s5, s6, s7], (qo, co, Lo), ()), ())]).flatMap entC) (len' := (L ++ [(ky, ([s0, s1, s2, s3, s4, s5, s6, s7], (qo, co, Lo), ()), ())]).length) (by simp [entC, sibC, i64s, slv]) (by simp)
  refine t_normal ⟨(k + 1, pA, capA, L ++ [(ky, ([s0, s1, s2, s3, s4, s5, s6, s7], (qo, co, Lo), ()), ())]), (((hf.backA hk0).kb hf 14 rfl (by first | rfl | exact int_eq (by omega))).kb hf 3 rfl (by simp)), ⟨(h2.subA), ⟨by omega, by simp [hlk], map_snoc hok hget (by simp only [pEnt, pSib, hLo])⟩⟩, by first | omega | (simp only []; omega)⟩
 clear hf; intro hc3 a hf
 obtain rfl : k = es'.length := by omega
 rw [List.take_length] at hok
 have hokE := hok
 refine done_l (t_normal (c_seq ?_))
 refine c_false hf rfl ?_
 refine c_exit (t_exit (t_exit (b_exit (t_normal (c_seq (c_region ?_))))))
 refine aN hf hS ?_; clear hf; intro a hf
 refine done_l (t_normal (c_seq (c_seq (c_region ?_))))
 refine fA hf hS fb32_8 ?_; clear hf; intro a hf
 refine sR hf hS (rd_ld hf ag29) ?_; clear hf; intro a hf
 refine sR hf hS (rd_len hf rfl rfl Tryz.underlying29) ?_; clear hf; intro a hf
 refine mN hf hS ?_; clear hf; intro a hf
 refine done_l (t_normal (c_block ?_))
 have hk1 := Keep.ofA hf [(6, 6), (8, 8), (27, 39)]
 refine c_loopK hk1 (α := Nat × Option Addr × Nat × List DigT) (fun ⟨k, qq, capq, M⟩ => [(6, .slice qq M.length capq), (27, .int .i64 (k : Nat))]) (fun ⟨k, qq, capq, M⟩ w => Sat W (Rw 61 10 qq M.length capq (M.flatMap digC) :: AllG (fun d : DigT => Rw 87 2 d.2.2.1.1 d.2.2.1.2.2.length d.2.2.1.2.1 (d.2.2.1.2.2.flatMap dotC)) M :: Rw 58 10 q L.length cap (L.flatMap entC) :: AllG (fun e : EntT => ValR 107 5 e.2.1.2.1) L :: Blk b_m [.int .i64 kd, .int .i64 fr, .int .i64 tn, .int .i64 op', .int .i64 fo', .string (str ky'), .int .i64 bk', .slice qe' es'.length ce', .slice qd' ds'.length cd', .slice qm' ms'.length cm'] 32 :: Blk b_r [.int .i64 0, .int .i64 0, .int .i64 0, .int .i64 0, .int .i64 0, .string ⟨#[]⟩, .int .i64 0, .slice none 0 0, .slice none 0 0, .slice none 0 0] 32 :: R) w ∧ k ≤ ds'.length ∧ M.length = k ∧ M.map pDig = (ds'.take k).map pDig) (fun ⟨k, qq, capq, M⟩ => ds'.length - k) (0, none, 0, []) (((hf.keep hk1).kb hf 27 rfl (by first | rfl | exact int_eq (by omega))).kb hf 6 rfl (by first | rfl | exact int_eq (by omega))) ⟨((hS.allNil (fun d : DigT => Rw 87 2 d.2.2.1.1 d.2.2.1.2.2.length d.2.2.1.2.1 (d.2.2.1.2.2.flatMap dotC))).rwNil 61 10).subA, ⟨by omega, rfl, rfl⟩⟩ ?_
 clear hf hS; rintro ⟨k, qq, capq, M⟩ a w hf ⟨hS, ⟨hk, hlk, hok⟩⟩; (try dsimp only [List.cons_append, List.nil_append] at hf)
 refine c_seq (c_region ?_)
 refine sB hf hS (rd_lss hf rfl rfl rfl) ?_ ?_
 ·
  clear hf; intro hc7 a hf
  obtain ⟨x, hget⟩ := get_of_lt (l := ds') (k := k) (by omega) rfl; obtain ⟨ad, rfl⟩ := (hvd' _ (hS.subA)).some (by omega); have h8 := ((hvd' _ (hS.subA)).in hget).1; have hvx := fun w h => ((hvd' w h).in hget).2; obtain ⟨ky, seen, ⟨xq, xc, xs⟩, _⟩ := x; obtain ⟨s0, s1, s2, s3, s4, s5, s6, s7, rfl⟩ := len8 h8
  refine done_l (t_normal (c_seq ?_))
  refine c_true hf rfl ?_
  refine c_skip (t_normal (c_seq (c_block (c_seq (c_region ?_)))))
  refine sR hf hS ((by first | exact rd_indexAddrN hf rfl rfl rfl Tryz.underlying29 sz61 (by omega) | exact rd_indexAddr hf rfl rfl rfl Tryz.underlying29 sz61 (by first | decide | omega) (by omega))) ?_; clear hf; intro a hf
  refine sR hf hS (rd_loadN hf rfl rfl ag61 sz61 (by intro _ h; exact (show AggAt _ _ _ [.string (str ky), .int .i64 s0, .int .i64 s1, .int .i64 s2, .int .i64 s3, .int .i64 s4, .int .i64 s5, .int .i64 s6, .int .i64 s7, .slice xq xs.length xc] from (hvd' _ (h.subA)).el hget))) ?_; clear hf; intro a hf
  refine sA hf hS zr61 ?_
  clear hf hS; intro b_d a w hf hS
  refine sS hf hS sz61 ?_
  clear hf hS; intro a w hf hS
  refine done_l (t_normal (c_seq (c_region ?_)))
  refine fA hf hS fb61_2 ?_; clear hf; intro a hf
  refine sR hf hS (rd_ld hf ag59) ?_; clear hf; intro a hf
  refine step_l (st_call hf (Wn.none rfl) rfl rfl rfl fn48 (ClDot_c xs _ _ hS (fun _ h => hvx _ (h.subA))) rfl rfl ?_)
  clear hf hS; rintro v a w ⟨qo, co, rfl, hS⟩ hf
  refine fA hf hS fb61_2 ?_; clear hf; intro a hf
  refine sS hf hS sz59 ?_
  clear hf hS; intro a w hf hS
  refine done_l (t_normal (c_region ?_))
  refine mN hf hS ?_; clear hf; intro a hf
  refine sR hf hS (rd_ldN hf ag61 sz61) ?_; clear hf; intro a hf
  refine step_l (st_buildSlice hf (Wn.none rfl) hS rfl rfl Tryz.underlying29 sz61 zr61 (by decide) bz61_1 rfl (.cons rfl (by first | rfl) (by rfl) (by repeat (first | exact Put.nil | apply Put.cons | apply Put.succ)) .nil) rfl rfl ?_)
  clear hf hS; intro b_9 a w hf hS
  refine step_l (st_append hf (Wn.none rfl) rfl rfl rfl Tryz.underlying29 tyb61 (by rfl) (by decide) hS (by repeat (first | exact Sel.head | apply Sel.tail)) (by first | exact hS.slOfBlk (by repeat (first | exact Sel.head | apply Sel.tail)) (by rfl) | exact hS.slOfBlkPre (by repeat (first | exact Sel.head | apply Sel.tail)) (bvs_len1 _) | exact hS.slOfRw (by repeat (first | exact Sel.head | apply Sel.tail)) | exact SlAt.nil _ _ _) (by first | rfl | exact bvs_one _ | (simp [Value.oneCell']; done)) (by omega) rfl rfl ?_)
  clear hf hS; intro pA capA a w hf hS hnilA
  refine aN hf hS ?_; clear hf; intro a hf
  refine done_l (b_normal (t_normal (c_region ?_)))
  refine sP hf hS ?_; clear hf; intro a hf
  refine mN hf hS ?_; clear hf; intro a hf
  refine done_l ?_
  have h1 : Sat W (AllG (fun d : DigT => Rw 87 2 d.2.2.1.1 d.2.2.1.2.2.length d.2.2.1.2.1 (d.2.2.1.2.2.flatMap dotC)) M :: (fun d : DigT => Rw 87 2 d.2.2.1.1 d.2.2.1.2.2.length d.2.2.1.2.1 (d.2.2.1.2.2.flatMap dotC)) (ky, [s0, s1, s2, s3, s4, s5, s6, s7], (qo, co, xs), ()) :: Rw 61 10 pA (M.length + 1) capA (M.flatMap digC ++ [.string (str ky), .int .i64 s0, .int .i64 s1, .int .i64 s2, .int .i64 s3, .int .i64 s4, .int .i64 s5, .int .i64 s6, .int .i64 s7, .slice qo xs.length co]) :: Rw 58 10 q L.length cap (L.flatMap entC) :: AllG (fun e : EntT => ValR 107 5 e.2.1.2.1) L :: Blk b_m [.int .i64 kd, .int .i64 fr, .int .i64 tn, .int .i64 op', .int .i64 fo', .string (str ky'), .int .i64 bk', .slice qe' es'.length ce', .slice (some ad) ds'.length cd', .slice qm' ms'.length cm'] 32 :: Blk b_r [.int .i64 0, .int .i64 0, .int .i64 0, .int .i64 0, .int .i64 0, .string ⟨#[]⟩, .int .i64 0, .slice none 0 0, .slice none 0 0, .slice none 0 0] 32 :: R) w := hS.subA; replace h1 := h1.allSnoc; have h2 : Sat W (Rw 61 10 pA (M.length + 1) capA (M.flatMap digC ++ [.string (str ky), .int .i64 s0, .int .i64 s1, .int .i64 s2, .int .i64 s3, .int .i64 s4, .int .i64 s5, .int .i64 s6, .int .i64 s7, .slice qo xs.length co]) :: AllG (fun d : DigT => Rw 87 2 d.2.2.1.1 d.2.2.1.2.2.length d.2.2.1.2.1 (d.2.2.1.2.2.flatMap dotC)) (M ++ [(ky, [s0, s1, s2, s3, s4, s5, s6, s7], (qo, co, xs), ())]) :: Rw 58 10 q L.length cap (L.flatMap entC) :: AllG (fun e : EntT => ValR 107 5 e.2.1.2.1) L :: Blk b_m [.int .i64 kd, .int .i64 fr, .int .i64 tn, .int .i64 op', .int .i64 fo', .string (str ky'), .int .i64 bk', .slice qe' es'.length ce', .slice (some ad) ds'.length cd', .slice qm' ms'.length cm'] 32 :: Blk b_r [.int .i64 0, .int .i64 0, .int .i64 0, .int .i64 0, .int .i64 0, .string ⟨#[]⟩, .int .i64 0, .slice none 0 0, .slice none 0 0, .slice none 0 0] 32 :: R) w := h1.subA; replace h2 := h2.rwCast (xs' := (M ++ [(ky, [s0, s1, s2, s3, s4, s5, s6, s7], (qo, co, xs), ())]).flatMap digC) (len' := (M ++ [(ky, [s0, s1, s2, s3, s4, s5, s6, s7], (qo, co, xs), ())]).length) (by simp [digC, i64s, slv]) (by simp)
  refine t_normal ⟨(k + 1, pA, capA, M ++ [(ky, [s0, s1, s2, s3, s4, s5, s6, s7], (qo, co, xs), ())]), (((hf.backA hk1).kb hf 27 rfl (by first | rfl | exact int_eq (by omega))).kb hf 6 rfl (by simp)), ⟨(h2.subA), ⟨by omega, by simp [hlk], map_snoc hok hget rfl⟩⟩, by first | omega | (simp only []; omega)⟩
 clear hf; intro hc7 a hf
 obtain rfl : k = ds'.length := by omega
 rw [List.take_length] at hok
 refine done_l (t_normal (c_seq ?_))
 refine c_false hf rfl ?_
 refine c_exit (t_exit (t_exit (b_exit (t_normal (c_seq (c_region ?_))))))
 iterate 2 (refine mN hf hS ?_; clear hf; intro a hf)
 refine fA hf hS fb32_9 ?_; clear hf; intro a hf
 refine sR hf hS (rd_ld hf ag30) ?_; clear hf; intro a hf
 refine step_l (st_call hf (Wn.none rfl) rfl rfl rfl fn49 (ClMember_c ms' _ _ hS (fun _ h => hvm' _ (h.subA))) rfl rfl ?_)
 clear hf hS; rintro v a w ⟨qx, cx, rfl, hS⟩ hf
 refine fA hf hS fb32_7 ?_; clear hf; intro a hf
 refine sS hf hS sz28 ?_
 clear hf hS; intro a w hf hS
 refine fA hf hS fb32_8 ?_; clear hf; intro a hf
 refine sS hf hS sz29 ?_
 clear hf hS; intro a w hf hS
 refine fA hf hS fb32_9 ?_; clear hf; intro a hf
 refine sS hf hS sz30 ?_
 clear hf hS; intro a w hf hS
 refine done_l (t_normal (c_seq (c_region ?_)))
 refine sR hf hS (rd_ldN hf ag32 sz32) ?_; clear hf; intro a hf
 refine sS hf hS sz32 ?_
 clear hf hS; intro a w hf hS
 refine done_l (t_normal (c_ret ?_))
 refine e_res1 hf.defers rfl (res_cellN hf rfl ag32 sz32 hS (by repeat (first | exact Sel.head | apply Sel.tail)) (by repeat (first | exact Seg.nil | apply Seg.cons | apply Seg.succ)) .nil) ?_
 refine ⟨_, _, L, _, _, M, _, _, ms', by rw [hop, hfo, hky, hbk], ?_, ?_, ?_, ?_⟩
 ·
  rw [hokE, ← plS_map pEnt _ (qe, ce, es), hes]
 ·
  rw [hok, ← plS_map pDig _ (qd, cd, ds), hds]
 ·
  rw [← plS_map pDot _ (qm, cm, ms), hms]
 have h1 := Sat.all (ps := [Rw 58 10 q L.length cap (L.flatMap entC), AllG (fun e : EntT => ValR 107 5 e.2.1.2.1) L]) (l := [Rw 61 10 qq M.length capq (M.flatMap digC), AllG (fun d : DigT => Rw 87 2 d.2.2.1.1 d.2.2.1.2.2.length d.2.2.1.2.1 (d.2.2.1.2.2.flatMap dotC)) M, Rw 73 2 qx ms'.length cx (ms'.flatMap dotC)] ++ R) (hS.subA)
 have h2 := Sat.all (ps := [Rw 61 10 qq M.length capq (M.flatMap digC), AllG (fun d : DigT => Rw 87 2 d.2.2.1.1 d.2.2.1.2.2.length d.2.2.1.2.1 (d.2.2.1.2.2.flatMap dotC)) M]) (l := [EntR 58 107 5 (q, cap, L), Rw 73 2 qx ms'.length cx (ms'.flatMap dotC)] ++ R) (h1.sub (.cons (.tail .head) (.cons (.tail .head) (.cons .head .refl))))
 exact h2.sub (.cons (.tail .head) .refl)

end Go.Proofs.YtcflbdpjoanbgaaGreat
