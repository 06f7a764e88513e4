/-
  The statement MessageDecodes, walked.
  Conditions: none.
-/
import Derived.Test.YtglmimbfelakbaaGreatRe51
import Derived.Test.YtglmimbfelakbaaGreatRRe51
import Derived.Test.YtglmimbfelakbaaGreatRSam1
namespace Go.Proofs.YtglmimbfelakbaaGreat
open Go Go.Sl
set_option linter.unusedVariables false
set_option linter.unusedSimpArgs false
theorem fn4 : fnB Tryz.prog 4 = true := by kernel_rfl
theorem fn5 : fnB Tryz.prog 5 = true := by kernel_rfl
theorem fn6 : fnB Tryz.prog 6 = true := by kernel_rfl
theorem fn7 : fnB Tryz.prog 7 = true := by kernel_rfl
theorem fn8 : fnB Tryz.prog 8 = true := by kernel_rfl
theorem fn9 : fnB Tryz.prog 9 = true := by kernel_rfl
theorem pl35 : placesO Tryz.prog 35 = some [(0, 1), (1, 1)] := by kernel_rfl
theorem zr35 : (Tryz.prog.info? 35).bind (·.zero) = some (.agg #[.slice none 0 0, .slice none 0 0]) := by kernel_rfl
theorem encB_len (x : PMsg) : (encB x).length ≤ 60000 := by
 unfold encB doneB
 split
 ·
  split
  ·
   exact Nat.zero_le _
  ·
   exact encS_len x
 ·
  exact Nat.zero_le _
theorem tmod_nat (a b : Nat) : ((a : Int)).tmod (b : Int) = ((a % b : Nat) : Int) := (Int.ofNat_tmod a b).symm
set_option maxRecDepth 100000 in
set_option maxHeartbeats 8000000 in
theorem MessageDecodes_c (kd fr tn op fo : Int) (ky : List UInt8) (bk : Int) (es : List EntT) (qe : Option Addr) (ce : Nat) (ds : List DigT) (qd : Option Addr) (cd : Nat) (ms : List MemT) (qm : Option Addr) (cm : Nat) (cut : Int) (ps : List Int) (qps : Option Addr) (cps : Nat) (xb : UInt8) (raw : List UInt8) (qr : Option Addr) (cr : Nat) {W : World} {R : List HP} {w : World} (hS : Sat W (R) w) (hve : ∀ w, Sat W R w → EntsAt w (qe, ce, es)) (hvd : ∀ w, Sat W R w → DigsAt w (qd, cd, ds)) (hvm : ∀ w, Sat W R w → DotsAt w (qm, cm, ms)) (hle : es.length ≤ 9223372036854775806) (hld : ds.length ≤ 9223372036854775806) (hlm : ms.length ≤ 9223372036854775806) (hps : ps.length ≤ 140737488351232) (hvps : ∀ w, Sat W R w → SlAt w qps ps.length 1 (i64s ps)) (hraw : raw.length ≤ 140737488351232) (hcr : raw.length ≤ cr) (hvr : ∀ w, Sat W R w → SlAt w qr raw.length 1 (bvs raw)) : Calls Tryz.prog 3 [.agg #[.int .i64 kd, .int .i64 fr, .int .i64 tn, .int .i64 op, .int .i64 fo, .string (str ky), .int .i64 bk, .slice qe es.length ce, .slice qd ds.length cd, .slice qm ms.length cm], .int .i64 cut, .slice qps ps.length cps, bv xb, .slice qr raw.length cr].toArray w (Ret fun v w' => v = .bool true ∧ Sat W R w') := by
 refine fn_start 110 Tryz.func3 rfl rfl rfl ?_
 intro a hf
 refine c_seq (c_region ?_)
 refine step_l (st_box hf (Wn.none rfl) hS rfl rfl (by rfl) rfl rfl ?_)
 clear hf hS; intro b_m a w hf hS
 refine aN hf hS ?_; clear hf; intro a hf
 refine done_l (t_normal (c_seq (c_seq (c_region ?_))))
 refine sR hf hS (rd_ldN hf ag26 sz26) ?_; clear hf; intro a hf
 refine step_l (st_call hf (Wn.none rfl) rfl rfl rfl fn4 (light_c _ _ _ _ _ _ _ _ _ _ _ _ _ _ _ _  hS (fun _ h => hve _ (h.subA)) (fun _ h => hvd _ (h.subA)) (fun _ h => hvm _ (h.subA)) (by omega) (by omega) (by omega)) rfl rfl ?_)
 clear hf hS; rintro v a w ⟨bb2, rfl, hbb2, hS⟩ hf
 first | refine split_dec (d := 22) hf rfl ?_ ?_ | refine split_bool (d := 22) hf rfl ?_ ?_
 ·
  clear hf; intro hc3 hf
  refine nT hf hS ?_; clear hf; intro a hf
  iterate 2 ((first | refine mN hf hS ?_ | refine step_l (st_rd hf (Wn.some hf rfl rfl rfl rfl) (rd_move hf rfl rfl) hS rfl rfl ?_)); clear hf; intro a hf)
  refine sG hf hS (rd_len hf rfl rfl Tryz.underlying28) ?_; clear hf; intro a hf
  refine step_l (st_rdB hf (Wn.some hf rfl rfl rfl rfl) (rd_gtr hf rfl rfl rfl) hS rfl rfl ?_ ?_)
  ·
   clear hf; intro hc4 a hf
   refine pF hf hS ?_; clear hf; intro a hf
   refine done_l (t_normal ?_)
   refine c_true hf rfl ?_
   refine c_seq (c_region ?_)
   refine step_l (st_call hf (Wn.none rfl) rfl rfl rfl fn5 (awake_c hS) rfl rfl ?_)
   clear hf hS; rintro v a w ⟨rfl, hS⟩ hf
   refine aN hf hS ?_; clear hf; intro a hf
   refine done_l (t_normal (c_ret (t_ret ?_)))
   refine eT hf ?_
   exact ⟨rfl, hS.subA⟩
  clear hf; intro hc4 a hf
  refine pF hf hS ?_; clear hf; intro a hf
  refine done_l (t_normal ?_)
  refine c_false hf rfl ?_
  refine c_skip (t_normal (c_seq (c_region ?_)))
  refine sR hf hS (rd_ldN hf ag26 sz26) ?_; clear hf; intro a hf
  refine step_l (st_call hf (Wn.none rfl) rfl rfl rfl fn6 (REnc_c _ _ _ _ _ _ _ _ _ _ _ _ _ _ _ _  hS (fun _ h => hve _ (h.subA)) (fun _ h => hvd _ (h.subA)) (fun _ h => hvm _ (h.subA)) (by omega) (by omega) (by omega)) rfl rfl ?_)
  clear hf hS; rintro v a w ⟨qb, capb, rfl, hS⟩ hf; have hbl := encB_len (⟨kd, fr, tn, op, fo, ky, bk, es.map pEnt, ds.map pDig, ms.map pDot⟩ : PMsg); obtain ⟨bb, hbb⟩ : ∃ x, x = encB (⟨kd, fr, tn, op, fo, ky, bk, es.map pEnt, ds.map pDig, ms.map pDot⟩ : PMsg) := ⟨_, rfl⟩; rw [← hbb] at hf hS hbl; have hcapb := (hS.rwLen (xs := bvs bb) (by repeat (first | exact Sel.head | apply Sel.tail))).2.1
  refine mN hf hS ?_; clear hf; intro a hf
  refine sR hf hS (rd_extract hf rfl rfl rfl) ?_; clear hf; intro a hf
  refine sR hf hS (rd_extract hf rfl rfl rfl) ?_; clear hf; intro a hf
  iterate 2 (refine aN hf hS ?_; clear hf; intro a hf)
  refine done_l (t_normal (c_seq (c_seq (c_region ?_))))
  refine mN hf hS ?_; clear hf; intro a hf
  refine sB hf hS (rd_gtr hf rfl rfl rfl) ?_ ?_
  ·
   clear hf; intro hc5 a hf
   iterate 2 ((first | refine mN hf hS ?_ | refine step_l (st_rd hf (Wn.some hf rfl rfl rfl rfl) (rd_move hf rfl rfl) hS rfl rfl ?_)); clear hf; intro a hf)
   refine sG hf hS (rd_len hf rfl rfl Tryz.underlying28) ?_; clear hf; intro a hf
   refine step_l (st_rdB hf (Wn.some hf rfl rfl rfl rfl) (rd_gtr hf rfl rfl rfl) hS rfl rfl ?_ ?_)
   ·
    clear hf; intro hc6 a hf
    obtain ⟨cn, rfl⟩ : ∃ n : Nat, cut = (n : Int) := ⟨cut.toNat, by omega⟩
    have hml := Nat.mod_lt cn (show 0 < bb.length by omega)
    refine pT hf hS ?_; clear hf; intro a hf
    refine done_l (t_normal ?_)
    refine c_true hf rfl ?_
    refine c_region ?_
    iterate 3 (refine mN hf hS ?_; clear hf; intro a hf)
    refine sR hf hS (rd_len hf rfl rfl Tryz.underlying28) ?_; clear hf; intro a hf
    refine sR hf hS (rd_rem hf rfl rfl rfl (by first | decide | omega) (tmod_nat cn bb.length)) ?_; clear hf; intro a hf
    refine sR hf hS (rd_sliceH hf rfl rfl rfl Tryz.underlying28 sz5 (by omega) (by omega)) ?_; clear hf; intro a hf
    refine aN hf hS ?_; clear hf; intro a hf
    refine done_l ?_
    rw [Int.toNat_natCast] at hf
    refine t_normal (c_seq (c_seq ?_))
    obtain ⟨M, hMd⟩ : ∃ M, M = bb.length := ⟨_, rfl⟩
    rw [← hMd] at hS
    obtain ⟨N, hNd⟩ : ∃ N, N = cn % bb.length := ⟨_, rfl⟩
    rw [← hNd] at hf
    have hNb : N ≤ bb.length := by omega
    refine c_region ?_
    refine mN hf hS ?_; clear hf; intro a hf
    refine sR hf hS (rd_len hf rfl rfl Tryz.underlying27) ?_; clear hf; intro a hf
    refine mN hf hS ?_; clear hf; intro a hf
    refine done_l (t_normal (c_block ?_))
    have hk0 := Keep.ofA hf [(13, 14), (50, 75)]
    refine c_loopK hk0 (α := Nat × List UInt8) (fun ⟨i, cs⟩ => [(50, .int .i64 (i : Nat))]) (fun ⟨i, cs⟩ w => Sat W (Rw 5 1 qb M capb (bvs cs) :: R) w ∧ i ≤ ps.length ∧ cs.length = M) (fun ⟨i, cs⟩ => ps.length - i) (0, bb) ((hf.keep hk0).kb hf 50 rfl (by first | rfl | exact int_eq (by omega))) ⟨hS.subA, ⟨by omega, hMd.symm⟩⟩ ?_
    clear hf hS; rintro ⟨i, cs⟩ a w hf ⟨hS, ⟨hi, hcM⟩⟩; (try dsimp only [List.cons_append, List.nil_append] at hf)
    refine c_seq (c_region ?_)
    refine sB hf hS (rd_lss hf rfl rfl rfl) ?_ ?_
    ·
     clear hf; intro hc7 a hf
     obtain ⟨y, hgy⟩ := get_of_lt (l := ps) (k := i) (by omega) rfl; obtain ⟨adp, rfl⟩ := (hvps _ (hS.subA)).some (by omega)
     refine done_l (t_normal (c_seq ?_))
     refine c_true hf rfl ?_
     refine c_skip (t_normal (c_seq (c_block (c_seq (c_region ?_)))))
     refine mN hf hS ?_; clear hf; intro a hf
     refine sR hf hS ((by first | exact rd_indexAddrN1 hf rfl rfl rfl Tryz.underlying27 sz3 (by omega) | exact rd_indexAddr hf rfl rfl rfl Tryz.underlying27 sz3 (by first | decide | omega) (by omega))) ?_; clear hf; intro a hf
     refine sR hf hS (rd_load1 hf rfl rfl ag3 (by intro _ h; exact (hvps _ (h.subA)).get (i64s_get hgy))) ?_; clear hf; intro a hf
     iterate 2 (refine aN hf hS ?_; clear hf; intro a hf)
     refine done_l (t_normal (c_seq (c_region ?_)))
     refine mN hf hS ?_; clear hf; intro a hf
     refine sB hf hS (rd_lss hf rfl rfl rfl) ?_ ?_
     ·
      clear hf; intro hc8 a hf
      iterate 2 ((first | refine mN hf hS ?_ | refine step_l (st_rd hf (Wn.some hf rfl rfl rfl rfl) (rd_move hf rfl rfl) hS rfl rfl ?_)); clear hf; intro a hf)
      refine sG hf hS (rd_len hf rfl rfl Tryz.underlying28) ?_; clear hf; intro a hf
      refine step_l (st_rdB hf (Wn.some hf rfl rfl rfl rfl) (rd_gtr hf rfl rfl rfl) hS rfl rfl ?_ ?_)
      ·
       clear hf; intro hc9 a hf
       have hN0 : 0 < N := by omega
       obtain ⟨P, hP⟩ : ∃ P : Nat, P = (y % 18446744073709551616).toNat % N := ⟨_, rfl⟩
       have hPN : P < N := by rw [hP]; exact Nat.mod_lt _ hN0
       obtain ⟨c, hgc⟩ := get_of_lt (l := cs) (k := P) (by omega) rfl; obtain ⟨adc, rfl⟩ := (hS.slOfRw (xs := bvs cs) (by repeat (first | exact Sel.head | apply Sel.tail))).some (by omega)
       refine pT hf hS ?_; clear hf; intro a hf
       refine done_l (t_normal ?_)
       refine c_true hf rfl ?_
       refine c_region ?_
       iterate 2 (refine mN hf hS ?_; clear hf; intro a hf)
       refine sR hf hS (rd_convInt hf rfl rfl Tryz.underlying3 Tryz.underlying34 rfl) ?_; clear hf; intro a hf
       refine mN hf hS ?_; clear hf; intro a hf
       refine sR hf hS (rd_len hf rfl rfl Tryz.underlying28) ?_; clear hf; intro a hf
       refine sR hf hS (rd_convInt hf rfl rfl Tryz.underlying3 Tryz.underlying34 (wrap64 (by omega))) ?_; clear hf; intro a hf
       refine sR hf hS (rd_rem hf rfl rfl rfl (by first | decide | omega) ((u64mod y hN0).trans (by rw [← hP]))) ?_; clear hf; intro a hf
       refine sR hf hS (rd_convInt hf rfl rfl Tryz.underlying34 Tryz.underlying3 (Go.IntWalk.i64_in _ (by omega))) ?_; clear hf; intro a hf
       refine sR hf hS ((by first | exact rd_indexAddrN1 hf rfl rfl rfl Tryz.underlying28 sz5 (by omega) | exact rd_indexAddr hf rfl rfl rfl Tryz.underlying28 sz5 (by first | decide | omega) (by omega))) ?_; clear hf; intro a hf
       refine sR hf hS (rd_load1 hf rfl rfl ag5 (by intro _ h; exact (h.slOfRw (xs := bvs cs) (by repeat (first | exact Sel.head | apply Sel.tail))).get (bvs_get hgc))) ?_; clear hf; intro a hf
       refine mN hf hS ?_; clear hf; intro a hf
       refine sR hf hS (rd_xor hf rfl rfl rfl (n8_xor _ _ rfl)) ?_; clear hf; intro a hf
       refine sR hf hS ((by first | exact rd_indexAddrN1 hf rfl rfl rfl Tryz.underlying28 sz5 (by omega) | exact rd_indexAddr hf rfl rfl rfl Tryz.underlying28 sz5 (by first | decide | omega) (by omega))) ?_; clear hf; intro a hf
       refine step_l (st_storeRw hf (Wn.none rfl) hS rfl rfl rfl (by rfl) sz5 (by rfl) (by repeat (first | exact Sel.head | apply Sel.tail)) (by omega) rfl ?_)
       clear hf hS; intro a w hf hS
       refine done_l (b_normal (t_normal (c_region ?_)))
       refine sP hf hS ?_; clear hf; intro a hf
       refine mN hf hS ?_; clear hf; intro a hf
       refine done_l ?_
       refine t_normal ⟨(i + 1, cs.set P (c ^^^ xb)), ((hf.backA hk0).kb hf 50 rfl (by first | rfl | exact int_eq (by omega))), ⟨(by rw [bvs_set]; exact hS.subA), ⟨by omega, by rw [List.length_set]; exact hcM⟩⟩, by first | omega | (simp only []; omega)⟩
      clear hf; intro hc9 a hf
      refine pT hf hS ?_; clear hf; intro a hf
      refine done_l (t_normal ?_)
      refine c_false hf rfl ?_
      refine c_skip (b_normal (t_normal (c_region ?_)))
      refine sP hf hS ?_; clear hf; intro a hf
      refine mN hf hS ?_; clear hf; intro a hf
      refine done_l ?_
      refine t_normal ⟨(i + 1, cs), ((hf.backA hk0).kb hf 50 rfl (by first | rfl | exact int_eq (by omega))), ⟨hS.subA, ⟨by omega, hcM⟩⟩, by first | omega | (simp only []; omega)⟩
     clear hf; intro hc8 a hf
     iterate 5 ((first | refine kS hf ?_ | refine mN hf hS ?_ | refine pF hf hS ?_); clear hf; intro a hf)
     refine done_l (t_normal ?_)
     refine c_false hf rfl ?_
     refine c_skip (b_normal (t_normal (c_region ?_)))
     refine sP hf hS ?_; clear hf; intro a hf
     refine mN hf hS ?_; clear hf; intro a hf
     refine done_l ?_
     refine t_normal ⟨(i + 1, cs), ((hf.backA hk0).kb hf 50 rfl (by first | rfl | exact int_eq (by omega))), ⟨hS.subA, ⟨by omega, hcM⟩⟩, by first | omega | (simp only []; omega)⟩
    clear hf; intro hc7 a hf
    refine done_l (t_normal (c_seq ?_))
    refine c_false hf rfl ?_
    refine c_exit (t_exit (t_exit (b_exit (t_normal (c_seq (c_seq (c_region ?_)))))))
    iterate 2 (refine mN hf hS ?_; clear hf; intro a hf)
    refine sR hf hS (rd_build hf rfl rfl zr35 (by rfl) pl35 (.cons rfl (by first | rfl) (by rfl) (by repeat (first | exact Put.nil | apply Put.cons | apply Put.succ)) (.cons rfl (by first | rfl) (by rfl) (by repeat (first | exact Put.nil | apply Put.cons | apply Put.succ)) .nil))) ?_; clear hf; intro a hf
    refine mN hf hS ?_; clear hf; intro a hf
    refine done_l (t_normal (c_block ?_))
    have hk1 := Keep.ofA hf [(10, 10), (16, 20), (79, 108)]
    refine c_loopK hk1 (α := Nat) (fun k2 => [(79, .int .i64 (k2 : Nat))]) (fun k2 w => Sat W (Rw 5 1 qb M capb (bvs cs) :: R) w ∧ k2 ≤ 2) (fun k2 => 2 - k2) 0 ((hf.keep hk1).kb hf 79 rfl (by first | rfl | exact int_eq (by omega))) ⟨hS.subA, by omega⟩ ?_
    clear hf hS; rintro k2 a w hf ⟨hS, hk2⟩; (try dsimp only [List.cons_append, List.nil_append] at hf)
    refine c_seq (c_region ?_)
    refine sB hf hS (rd_lss hf rfl rfl rfl) ?_ ?_
    ·
     clear hf; intro hc10 a hf
     have hlt : (cs.take N).length = N := by rw [List.length_take]; omega
     have hx : ∃ (bs : List UInt8) (q9 : Option Addr) (c9 : Nat), ([.slice qb N capb, .slice qr raw.length cr] : List Value)[k2]? = some (.slice q9 bs.length c9) ∧ (∀ w, Sat W (Rw 5 1 qb M capb (bvs cs) :: R) w → SlAt w q9 bs.length 1 (bvs bs)) ∧ bs.length ≤ 140737488351232 ∧ bs.length ≤ c9 := (by rcases (show k2 = 0 ∨ k2 = 1 by omega) with rfl | rfl; (· exact ⟨cs.take N, qb, capb, by rw [hlt]; rfl, fun w h => take1 (by rw [hcM]; exact h.slOfRw .head) (by omega), by omega, by omega⟩); (· exact ⟨raw, qr, cr, rfl, fun w h => hvr w (h.sub (.skip .refl)), hraw, hcr⟩))
     obtain ⟨bs, q9, c9, hix, hvb, hlb, hcb⟩ := hx
     refine done_l (t_normal (c_seq ?_))
     refine c_true hf rfl ?_
     refine c_skip (t_normal (c_seq (c_block (c_seq (c_region ?_)))))
     refine sR hf hS (rd_indexA hf rfl rfl rfl Tryz.underlying35 ag28 sz28 (by omega) hix) ?_; clear hf; intro a hf
     refine aN hf hS ?_; clear hf; intro a hf
     refine done_l (t_normal (c_seq (c_region ?_)))
     refine mN hf hS ?_; clear hf; intro a hf
     refine step_l (st_call hf (Wn.none rfl) rfl rfl rfl fn7 (Dec_c bs _ _ hS hlb hcb (fun _ h => hvb _ (h.subA))) rfl rfl ?_)
     clear hf hS; rintro v a w ⟨q1, c1, L1, q2, c2, L2, q3, c3, L3, rfl, ⟨hE1, hE2, hE3⟩, ⟨hD1, hD2, hD3⟩, ⟨hM1, hM3⟩, hS⟩ hf
     refine mN hf hS ?_; clear hf; intro a hf
     refine sR hf hS (rd_extract hf rfl rfl rfl) ?_; clear hf; intro a hf
     refine sR hf hS (rd_extract hf rfl rfl rfl) ?_; clear hf; intro a hf
     refine sA hf hS zr26 ?_
     clear hf hS; intro b_a a w hf hS
     refine sS hf hS sz26 ?_
     clear hf hS; intro a w hf hS
     refine aN hf hS ?_; clear hf; intro a hf
     refine done_l (t_normal (c_seq (c_region ?_)))
     refine mN hf hS ?_; clear hf; intro a hf
     refine step_l (st_call hf (Wn.none rfl) rfl rfl rfl fn8 (RDec_c bs _ _ hS hlb hcb (fun _ h => hvb _ (h.subA))) rfl rfl ?_)
     clear hf hS; rintro v a w ⟨q4, c4, L4, q5, c5, L5, q6, c6, L6, rfl, ⟨hE4, hE5, hE6⟩, ⟨hD4, hD5, hD6⟩, ⟨hM4, hM6⟩, hS⟩ hf
     refine mN hf hS ?_; clear hf; intro a hf
     refine sR hf hS (rd_extract hf rfl rfl rfl) ?_; clear hf; intro a hf
     refine sR hf hS (rd_extract hf rfl rfl rfl) ?_; clear hf; intro a hf
     refine sA hf hS zr26 ?_
     clear hf hS; intro b_b a w hf hS
     refine sS hf hS sz26 ?_
     clear hf hS; intro a w hf hS
     refine aN hf hS ?_; clear hf; intro a hf
     refine done_l (t_normal (c_seq (c_region ?_)))
     iterate 2 (refine mN hf hS ?_; clear hf; intro a hf)
     refine sB hf hS (rd_neq hf rfl rfl rfl) ?_ ?_
     ·
      clear hf; intro hc13 a hf
      exact absurd rfl hc13
     clear hf; intro hc13 a hf
     refine mN hf hS ?_; clear hf; intro a hf
     refine sG hf hS (rd_ldN hf ag26 sz26) ?_; clear hf; intro a hf
     refine sG hf hS (rd_ldN hf ag26 sz26) ?_; clear hf; intro a hf
     refine step_l (st_call hf (Wn.some hf rfl rfl rfl rfl) rfl rfl rfl fn9 (RMSame_c _ _ _ _ _ _ _ _ _ _ _ _ _ _ _ _ _ _ _ _ _ _ _ _ _ _ _ _ _ _ _ _  hS (fun _ h => h.entL (by repeat (first | exact Sel.head | apply Sel.tail)) (by repeat (first | exact Sel.head | apply Sel.tail)) hE2 (by omega)) (fun _ h => h.digL (by repeat (first | exact Sel.head | apply Sel.tail)) (by repeat (first | exact Sel.head | apply Sel.tail)) hD2 (by omega)) (fun _ h => ⟨h.slOfRw (by repeat (first | exact Sel.head | apply Sel.tail)), by show L3.length ≤ _; omega⟩) (fun _ h => h.entL (by repeat (first | exact Sel.head | apply Sel.tail)) (by repeat (first | exact Sel.head | apply Sel.tail)) hE5 (by omega)) (fun _ h => h.digL (by repeat (first | exact Sel.head | apply Sel.tail)) (by repeat (first | exact Sel.head | apply Sel.tail)) hD5 (by omega)) (fun _ h => ⟨h.slOfRw (by repeat (first | exact Sel.head | apply Sel.tail)), by show L6.length ≤ _; omega⟩)) rfl rfl ?_)
     clear hf hS; rintro v a w ⟨rfl, hS⟩ hf
     first | refine split_dec (d := 98) hf rfl ?_ ?_ | refine split_bool (d := 98) hf rfl ?_ ?_
     ·
      clear hf; intro hc14 hf
      refine sG hf hS (rd_not hf rfl rfl) ?_; clear hf; intro a hf
      iterate 2 ((first | refine mN hf hS ?_ | refine pF hf hS ?_); clear hf; intro a hf)
      refine fG hf hS fb26_0 ?_; clear hf; intro a hf
      refine sG hf hS (rd_ld hf ag3) ?_; clear hf; intro a hf
      refine fG hf hS fb26_0 ?_; clear hf; intro a hf
      refine sG hf hS (rd_ld hf ag3) ?_; clear hf; intro a hf
      refine step_l (st_rdB hf (Wn.some hf rfl rfl rfl rfl) (rd_neq hf rfl rfl rfl) hS rfl rfl ?_ ?_)
      ·
       clear hf; intro hc15 a hf
       exact absurd rfl hc15
      clear hf; intro hc15 a hf
      refine pF hf hS ?_; clear hf; intro a hf
      refine done_l (t_normal ?_)
      refine c_false hf rfl ?_
      refine c_skip (b_normal (t_normal (c_region ?_)))
      refine sP hf hS ?_; clear hf; intro a hf
      refine mN hf hS ?_; clear hf; intro a hf
      refine done_l ?_
      refine t_normal ⟨k2 + 1, ((hf.backA hk1).kb hf 79 rfl (by first | rfl | exact int_eq (by omega))), ⟨hS.subA, by omega⟩, by first | omega | (simp only []; omega)⟩
     clear hf; intro hc14 hf
     exact absurd (sameM_refl (by rw [hE1, hD1, hM1, hE4, hD4, hM4])) (Bool.eq_false_iff.1 hc14)
    clear hf; intro hc10 a hf
    refine done_l (t_normal (c_seq ?_))
    refine c_false hf rfl ?_
    refine c_exit (t_exit (t_exit (b_exit (t_normal (c_seq (c_region ?_))))))
    refine step_l (st_call hf (Wn.none rfl) rfl rfl rfl fn5 (awake_c hS) rfl rfl ?_)
    clear hf hS; rintro v a w ⟨rfl, hS⟩ hf
    refine aN hf hS ?_; clear hf; intro a hf
    refine done_l (t_normal (c_ret ?_))
    refine eT hf ?_
    exact ⟨rfl, hS.subA⟩
   clear hf; intro hc6 a hf
   refine pT hf hS ?_; clear hf; intro a hf
   refine done_l (t_normal ?_)
   refine c_false hf rfl ?_
   refine c_skip (t_normal (c_seq (c_seq ?_)))
   obtain ⟨M, hMd⟩ : ∃ M, M = bb.length := ⟨_, rfl⟩
   rw [← hMd] at hS
   obtain ⟨N, hNd⟩ : ∃ N, N = bb.length := ⟨_, rfl⟩
   rw [← hNd] at hf
   have hNb : N ≤ bb.length := by omega
   refine c_region ?_
   refine mN hf hS ?_; clear hf; intro a hf
   refine sR hf hS (rd_len hf rfl rfl Tryz.underlying27) ?_; clear hf; intro a hf
   refine mN hf hS ?_; clear hf; intro a hf
   refine done_l (t_normal (c_block ?_))
   have hk2 := Keep.ofA hf [(13, 14), (50, 75)]
   refine c_loopK hk2 (α := Nat × List UInt8) (fun ⟨i, cs⟩ => [(50, .int .i64 (i : Nat))]) (fun ⟨i, cs⟩ w => Sat W (Rw 5 1 qb M capb (bvs cs) :: R) w ∧ i ≤ ps.length ∧ cs.length = M) (fun ⟨i, cs⟩ => ps.length - i) (0, bb) ((hf.keep hk2).kb hf 50 rfl (by first | rfl | exact int_eq (by omega))) ⟨hS.subA, ⟨by omega, hMd.symm⟩⟩ ?_
   clear hf hS; rintro ⟨i, cs⟩ a w hf ⟨hS, ⟨hi, hcM⟩⟩; (try dsimp only [List.cons_append, List.nil_append] at hf)
   refine c_seq (c_region ?_)
   refine sB hf hS (rd_lss hf rfl rfl rfl) ?_ ?_
   ·
    clear hf; intro hc16 a hf
    obtain ⟨y, hgy⟩ := get_of_lt (l := ps) (k := i) (by omega) rfl; obtain ⟨adp, rfl⟩ := (hvps _ (hS.subA)).some (by omega)
    refine done_l (t_normal (c_seq ?_))
    refine c_true hf rfl ?_
    refine c_skip (t_normal (c_seq (c_block (c_seq (c_region ?_)))))
    refine mN hf hS ?_; clear hf; intro a hf
    refine sR hf hS ((by first | exact rd_indexAddrN1 hf rfl rfl rfl Tryz.underlying27 sz3 (by omega) | exact rd_indexAddr hf rfl rfl rfl Tryz.underlying27 sz3 (by first | decide | omega) (by omega))) ?_; clear hf; intro a hf
    refine sR hf hS (rd_load1 hf rfl rfl ag3 (by intro _ h; exact (hvps _ (h.subA)).get (i64s_get hgy))) ?_; clear hf; intro a hf
    iterate 2 (refine aN hf hS ?_; clear hf; intro a hf)
    refine done_l (t_normal (c_seq (c_region ?_)))
    refine mN hf hS ?_; clear hf; intro a hf
    refine sB hf hS (rd_lss hf rfl rfl rfl) ?_ ?_
    ·
     clear hf; intro hc17 a hf
     iterate 2 ((first | refine mN hf hS ?_ | refine step_l (st_rd hf (Wn.some hf rfl rfl rfl rfl) (rd_move hf rfl rfl) hS rfl rfl ?_)); clear hf; intro a hf)
     refine sG hf hS (rd_len hf rfl rfl Tryz.underlying28) ?_; clear hf; intro a hf
     refine step_l (st_rdB hf (Wn.some hf rfl rfl rfl rfl) (rd_gtr hf rfl rfl rfl) hS rfl rfl ?_ ?_)
     ·
      clear hf; intro hc18 a hf
      have hN0 : 0 < N := by omega
      obtain ⟨P, hP⟩ : ∃ P : Nat, P = (y % 18446744073709551616).toNat % N := ⟨_, rfl⟩
      have hPN : P < N := by rw [hP]; exact Nat.mod_lt _ hN0
      obtain ⟨c, hgc⟩ := get_of_lt (l := cs) (k := P) (by omega) rfl; obtain ⟨adc, rfl⟩ := (hS.slOfRw (xs := bvs cs) (by repeat (first | exact Sel.head | apply Sel.tail))).some (by omega)
      refine pT hf hS ?_; clear hf; intro a hf
      refine done_l (t_normal ?_)
      refine c_true hf rfl ?_
      refine c_region ?_
      iterate 2 (refine mN hf hS ?_; clear hf; intro a hf)
      refine sR hf hS (rd_convInt hf rfl rfl Tryz.underlying3 Tryz.underlying34 rfl) ?_; clear hf; intro a hf
      refine mN hf hS ?_; clear hf; intro a hf
      refine sR hf hS (rd_len hf rfl rfl Tryz.underlying28) ?_; clear hf; intro a hf
      refine sR hf hS (rd_convInt hf rfl rfl Tryz.underlying3 Tryz.underlying34 (wrap64 (by omega))) ?_; clear hf; intro a hf
      refine sR hf hS (rd_rem hf rfl rfl rfl (by first | decide | omega) ((u64mod y hN0).trans (by rw [← hP]))) ?_; clear hf; intro a hf
      refine sR hf hS (rd_convInt hf rfl rfl Tryz.underlying34 Tryz.underlying3 (Go.IntWalk.i64_in _ (by omega))) ?_; clear hf; intro a hf
      refine sR hf hS ((by first | exact rd_indexAddrN1 hf rfl rfl rfl Tryz.underlying28 sz5 (by omega) | exact rd_indexAddr hf rfl rfl rfl Tryz.underlying28 sz5 (by first | decide | omega) (by omega))) ?_; clear hf; intro a hf
      refine sR hf hS (rd_load1 hf rfl rfl ag5 (by intro _ h; exact (h.slOfRw (xs := bvs cs) (by repeat (first | exact Sel.head | apply Sel.tail))).get (bvs_get hgc))) ?_; clear hf; intro a hf
      refine mN hf hS ?_; clear hf; intro a hf
      refine sR hf hS (rd_xor hf rfl rfl rfl (n8_xor _ _ rfl)) ?_; clear hf; intro a hf
      refine sR hf hS ((by first | exact rd_indexAddrN1 hf rfl rfl rfl Tryz.underlying28 sz5 (by omega) | exact rd_indexAddr hf rfl rfl rfl Tryz.underlying28 sz5 (by first | decide | omega) (by omega))) ?_; clear hf; intro a hf
      refine step_l (st_storeRw hf (Wn.none rfl) hS rfl rfl rfl (by rfl) sz5 (by rfl) (by repeat (first | exact Sel.head | apply Sel.tail)) (by omega) rfl ?_)
      clear hf hS; intro a w hf hS
      refine done_l (b_normal (t_normal (c_region ?_)))
      refine sP hf hS ?_; clear hf; intro a hf
      refine mN hf hS ?_; clear hf; intro a hf
      refine done_l ?_
      refine t_normal ⟨(i + 1, cs.set P (c ^^^ xb)), ((hf.backA hk2).kb hf 50 rfl (by first | rfl | exact int_eq (by omega))), ⟨(by rw [bvs_set]; exact hS.subA), ⟨by omega, by rw [List.length_set]; exact hcM⟩⟩, by first | omega | (simp only []; omega)⟩
     clear hf; intro hc18 a hf
     refine pT hf hS ?_; clear hf; intro a hf
     refine done_l (t_normal ?_)
     refine c_false hf rfl ?_
     refine c_skip (b_normal (t_normal (c_region ?_)))
     refine sP hf hS ?_; clear hf; intro a hf
     refine mN hf hS ?_; clear hf; intro a hf
     refine done_l ?_
     refine t_normal ⟨(i + 1, cs), ((hf.backA hk2).kb hf 50 rfl (by first | rfl | exact int_eq (by omega))), ⟨hS.subA, ⟨by omega, hcM⟩⟩, by first | omega | (simp only []; omega)⟩
    clear hf; intro hc17 a hf
    iterate 5 ((first | refine kS hf ?_ | refine mN hf hS ?_ | refine pF hf hS ?_); clear hf; intro a hf)
    refine done_l (t_normal ?_)
    refine c_false hf rfl ?_
    refine c_skip (b_normal (t_normal (c_region ?_)))
    refine sP hf hS ?_; clear hf; intro a hf
    refine mN hf hS ?_; clear hf; intro a hf
    refine done_l ?_
    refine t_normal ⟨(i + 1, cs), ((hf.backA hk2).kb hf 50 rfl (by first | rfl | exact int_eq (by omega))), ⟨hS.subA, ⟨by omega, hcM⟩⟩, by first | omega | (simp only []; omega)⟩
   clear hf; intro hc16 a hf
   refine done_l (t_normal (c_seq ?_))
   refine c_false hf rfl ?_
   refine c_exit (t_exit (t_exit (b_exit (t_normal (c_seq (c_seq (c_region ?_)))))))
   iterate 2 (refine mN hf hS ?_; clear hf; intro a hf)
   refine sR hf hS (rd_build hf rfl rfl zr35 (by rfl) pl35 (.cons rfl (by first | rfl) (by rfl) (by repeat (first | exact Put.nil | apply Put.cons | apply Put.succ)) (.cons rfl (by first | rfl) (by rfl) (by repeat (first | exact Put.nil | apply Put.cons | apply Put.succ)) .nil))) ?_; clear hf; intro a hf
   refine mN hf hS ?_; clear hf; intro a hf
   refine done_l (t_normal (c_block ?_))
   have hk3 := Keep.ofA hf [(10, 10), (16, 20), (79, 108)]
   refine c_loopK hk3 (α := Nat) (fun k2 => [(79, .int .i64 (k2 : Nat))]) (fun k2 w => Sat W (Rw 5 1 qb M capb (bvs cs) :: R) w ∧ k2 ≤ 2) (fun k2 => 2 - k2) 0 ((hf.keep hk3).kb hf 79 rfl (by first | rfl | exact int_eq (by omega))) ⟨hS.subA, by omega⟩ ?_
   clear hf hS; rintro k2 a w hf ⟨hS, hk2⟩; (try dsimp only [List.cons_append, List.nil_append] at hf)
   refine c_seq (c_region ?_)
   refine sB hf hS (rd_lss hf rfl rfl rfl) ?_ ?_
   ·
    clear hf; intro hc19 a hf
    have hlt : (cs.take N).length = N := by rw [List.length_take]; omega
    have hx : ∃ (bs : List UInt8) (q9 : Option Addr) (c9 : Nat), ([.slice qb N capb, .slice qr raw.length cr] : List Value)[k2]? = some (.slice q9 bs.length c9) ∧ (∀ w, Sat W (Rw 5 1 qb M capb (bvs cs) :: R) w → SlAt w q9 bs.length 1 (bvs bs)) ∧ bs.length ≤ 140737488351232 ∧ bs.length ≤ c9 := (by rcases (show k2 = 0 ∨ k2 = 1 by omega) with rfl | rfl; (· exact ⟨cs.take N, qb, capb, by rw [hlt]; rfl, fun w h => take1 (by rw [hcM]; exact h.slOfRw .head) (by omega), by omega, by omega⟩); (· exact ⟨raw, qr, cr, rfl, fun w h => hvr w (h.sub (.skip .refl)), hraw, hcr⟩))
    obtain ⟨bs, q9, c9, hix, hvb, hlb, hcb⟩ := hx
    refine done_l (t_normal (c_seq ?_))
    refine c_true hf rfl ?_
    refine c_skip (t_normal (c_seq (c_block (c_seq (c_region ?_)))))
    refine sR hf hS (rd_indexA hf rfl rfl rfl Tryz.underlying35 ag28 sz28 (by omega) hix) ?_; clear hf; intro a hf
    refine aN hf hS ?_; clear hf; intro a hf
    refine done_l (t_normal (c_seq (c_region ?_)))
    refine mN hf hS ?_; clear hf; intro a hf
    refine step_l (st_call hf (Wn.none rfl) rfl rfl rfl fn7 (Dec_c bs _ _ hS hlb hcb (fun _ h => hvb _ (h.subA))) rfl rfl ?_)
    clear hf hS; rintro v a w ⟨q1, c1, L1, q2, c2, L2, q3, c3, L3, rfl, ⟨hE1, hE2, hE3⟩, ⟨hD1, hD2, hD3⟩, ⟨hM1, hM3⟩, hS⟩ hf
    refine mN hf hS ?_; clear hf; intro a hf
    refine sR hf hS (rd_extract hf rfl rfl rfl) ?_; clear hf; intro a hf
    refine sR hf hS (rd_extract hf rfl rfl rfl) ?_; clear hf; intro a hf
    refine sA hf hS zr26 ?_
    clear hf hS; intro b_a a w hf hS
    refine sS hf hS sz26 ?_
    clear hf hS; intro a w hf hS
    refine aN hf hS ?_; clear hf; intro a hf
    refine done_l (t_normal (c_seq (c_region ?_)))
    refine mN hf hS ?_; clear hf; intro a hf
    refine step_l (st_call hf (Wn.none rfl) rfl rfl rfl fn8 (RDec_c bs _ _ hS hlb hcb (fun _ h => hvb _ (h.subA))) rfl rfl ?_)
    clear hf hS; rintro v a w ⟨q4, c4, L4, q5, c5, L5, q6, c6, L6, rfl, ⟨hE4, hE5, hE6⟩, ⟨hD4, hD5, hD6⟩, ⟨hM4, hM6⟩, hS⟩ hf
    refine mN hf hS ?_; clear hf; intro a hf
    refine sR hf hS (rd_extract hf rfl rfl rfl) ?_; clear hf; intro a hf
    refine sR hf hS (rd_extract hf rfl rfl rfl) ?_; clear hf; intro a hf
    refine sA hf hS zr26 ?_
    clear hf hS; intro b_b a w hf hS
    refine sS hf hS sz26 ?_
    clear hf hS; intro a w hf hS
    refine aN hf hS ?_; clear hf; intro a hf
    refine done_l (t_normal (c_seq (c_region ?_)))
    iterate 2 (refine mN hf hS ?_; clear hf; intro a hf)
    refine sB hf hS (rd_neq hf rfl rfl rfl) ?_ ?_
    ·
     clear hf; intro hc22 a hf
     exact absurd rfl hc22
    clear hf; intro hc22 a hf
    refine mN hf hS ?_; clear hf; intro a hf
    refine sG hf hS (rd_ldN hf ag26 sz26) ?_; clear hf; intro a hf
    refine sG hf hS (rd_ldN hf ag26 sz26) ?_; clear hf; intro a hf
    refine step_l (st_call hf (Wn.some hf rfl rfl rfl rfl) rfl rfl rfl fn9 (RMSame_c _ _ _ _ _ _ _ _ _ _ _ _ _ _ _ _ _ _ _ _ _ _ _ _ _ _ _ _ _ _ _ _  hS (fun _ h => h.entL (by repeat (first | exact Sel.head | apply Sel.tail)) (by repeat (first | exact Sel.head | apply Sel.tail)) hE2 (by omega)) (fun _ h => h.digL (by repeat (first | exact Sel.head | apply Sel.tail)) (by repeat (first | exact Sel.head | apply Sel.tail)) hD2 (by omega)) (fun _ h => ⟨h.slOfRw (by repeat (first | exact Sel.head | apply Sel.tail)), by show L3.length ≤ _; omega⟩) (fun _ h => h.entL (by repeat (first | exact Sel.head | apply Sel.tail)) (by repeat (first | exact Sel.head | apply Sel.tail)) hE5 (by omega)) (fun _ h => h.digL (by repeat (first | exact Sel.head | apply Sel.tail)) (by repeat (first | exact Sel.head | apply Sel.tail)) hD5 (by omega)) (fun _ h => ⟨h.slOfRw (by repeat (first | exact Sel.head | apply Sel.tail)), by show L6.length ≤ _; omega⟩)) rfl rfl ?_)
    clear hf hS; rintro v a w ⟨rfl, hS⟩ hf
    first | refine split_dec (d := 98) hf rfl ?_ ?_ | refine split_bool (d := 98) hf rfl ?_ ?_
    ·
     clear hf; intro hc23 hf
     refine sG hf hS (rd_not hf rfl rfl) ?_; clear hf; intro a hf
     iterate 2 ((first | refine mN hf hS ?_ | refine pF hf hS ?_); clear hf; intro a hf)
     refine fG hf hS fb26_0 ?_; clear hf; intro a hf
     refine sG hf hS (rd_ld hf ag3) ?_; clear hf; intro a hf
     refine fG hf hS fb26_0 ?_; clear hf; intro a hf
     refine sG hf hS (rd_ld hf ag3) ?_; clear hf; intro a hf
     refine step_l (st_rdB hf (Wn.some hf rfl rfl rfl rfl) (rd_neq hf rfl rfl rfl) hS rfl rfl ?_ ?_)
     ·
      clear hf; intro hc24 a hf
      exact absurd rfl hc24
     clear hf; intro hc24 a hf
     refine pF hf hS ?_; clear hf; intro a hf
     refine done_l (t_normal ?_)
     refine c_false hf rfl ?_
     refine c_skip (b_normal (t_normal (c_region ?_)))
     refine sP hf hS ?_; clear hf; intro a hf
     refine mN hf hS ?_; clear hf; intro a hf
     refine done_l ?_
     refine t_normal ⟨k2 + 1, ((hf.backA hk3).kb hf 79 rfl (by first | rfl | exact int_eq (by omega))), ⟨hS.subA, by omega⟩, by first | omega | (simp only []; omega)⟩
    clear hf; intro hc23 hf
    exact absurd (sameM_refl (by rw [hE1, hD1, hM1, hE4, hD4, hM4])) (Bool.eq_false_iff.1 hc23)
   clear hf; intro hc19 a hf
   refine done_l (t_normal (c_seq ?_))
   refine c_false hf rfl ?_
   refine c_exit (t_exit (t_exit (b_exit (t_normal (c_seq (c_region ?_))))))
   refine step_l (st_call hf (Wn.none rfl) rfl rfl rfl fn5 (awake_c hS) rfl rfl ?_)
   clear hf hS; rintro v a w ⟨rfl, hS⟩ hf
   refine aN hf hS ?_; clear hf; intro a hf
   refine done_l (t_normal (c_ret ?_))
   refine eT hf ?_
   exact ⟨rfl, hS.subA⟩
  clear hf; intro hc5 a hf
  iterate 5 ((first | refine kS hf ?_ | refine mN hf hS ?_ | refine pF hf hS ?_); clear hf; intro a hf)
  refine done_l (t_normal ?_)
  refine c_false hf rfl ?_
  refine c_skip (t_normal (c_seq (c_seq ?_)))
  obtain ⟨M, hMd⟩ : ∃ M, M = bb.length := ⟨_, rfl⟩
  rw [← hMd] at hS
  obtain ⟨N, hNd⟩ : ∃ N, N = bb.length := ⟨_, rfl⟩
  rw [← hNd] at hf
  have hNb : N ≤ bb.length := by omega
  refine c_region ?_
  refine mN hf hS ?_; clear hf; intro a hf
  refine sR hf hS (rd_len hf rfl rfl Tryz.underlying27) ?_; clear hf; intro a hf
  refine mN hf hS ?_; clear hf; intro a hf
  refine done_l (t_normal (c_block ?_))
  have hk4 := Keep.ofA hf [(13, 14), (50, 75)]
  refine c_loopK hk4 (α := Nat × List UInt8) (fun ⟨i, cs⟩ => [(50, .int .i64 (i : Nat))]) (fun ⟨i, cs⟩ w => Sat W (Rw 5 1 qb M capb (bvs cs) :: R) w ∧ i ≤ ps.length ∧ cs.length = M) (fun ⟨i, cs⟩ => ps.length - i) (0, bb) ((hf.keep hk4).kb hf 50 rfl (by first | rfl | exact int_eq (by omega))) ⟨hS.subA, ⟨by omega, hMd.symm⟩⟩ ?_
  clear hf hS; rintro ⟨i, cs⟩ a w hf ⟨hS, ⟨hi, hcM⟩⟩; (try dsimp only [List.cons_append, List.nil_append] at hf)
  refine c_seq (c_region ?_)
  refine sB hf hS (rd_lss hf rfl rfl rfl) ?_ ?_
  ·
   clear hf; intro hc25 a hf
   obtain ⟨y, hgy⟩ := get_of_lt (l := ps) (k := i) (by omega) rfl; obtain ⟨adp, rfl⟩ := (hvps _ (hS.subA)).some (by omega)
   refine done_l (t_normal (c_seq ?_))
   refine c_true hf rfl ?_
   refine c_skip (t_normal (c_seq (c_block (c_seq (c_region ?_)))))
   refine mN hf hS ?_; clear hf; intro a hf
   refine sR hf hS ((by first | exact rd_indexAddrN1 hf rfl rfl rfl Tryz.underlying27 sz3 (by omega) | exact rd_indexAddr hf rfl rfl rfl Tryz.underlying27 sz3 (by first | decide | omega) (by omega))) ?_; clear hf; intro a hf
   refine sR hf hS (rd_load1 hf rfl rfl ag3 (by intro _ h; exact (hvps _ (h.subA)).get (i64s_get hgy))) ?_; clear hf; intro a hf
   iterate 2 (refine aN hf hS ?_; clear hf; intro a hf)
   refine done_l (t_normal (c_seq (c_region ?_)))
   refine mN hf hS ?_; clear hf; intro a hf
   refine sB hf hS (rd_lss hf rfl rfl rfl) ?_ ?_
   ·
    clear hf; intro hc26 a hf
    iterate 2 ((first | refine mN hf hS ?_ | refine step_l (st_rd hf (Wn.some hf rfl rfl rfl rfl) (rd_move hf rfl rfl) hS rfl rfl ?_)); clear hf; intro a hf)
    refine sG hf hS (rd_len hf rfl rfl Tryz.underlying28) ?_; clear hf; intro a hf
    refine step_l (st_rdB hf (Wn.some hf rfl rfl rfl rfl) (rd_gtr hf rfl rfl rfl) hS rfl rfl ?_ ?_)
    ·
     clear hf; intro hc27 a hf
     have hN0 : 0 < N := by omega
     obtain ⟨P, hP⟩ : ∃ P : Nat, P = (y % 18446744073709551616).toNat % N := ⟨_, rfl⟩
     have hPN : P < N := by rw [hP]; exact Nat.mod_lt _ hN0
     obtain ⟨c, hgc⟩ := get_of_lt (l := cs) (k := P) (by omega) rfl; obtain ⟨adc, rfl⟩ := (hS.slOfRw (xs := bvs cs) (by repeat (first | exact Sel.head | apply Sel.tail))).some (by omega)
     refine pT hf hS ?_; clear hf; intro a hf
     refine done_l (t_normal ?_)
     refine c_true hf rfl ?_
     refine c_region ?_
     iterate 2 (refine mN hf hS ?_; clear hf; intro a hf)
     refine sR hf hS (rd_convInt hf rfl rfl Tryz.underlying3 Tryz.underlying34 rfl) ?_; clear hf; intro a hf
     refine mN hf hS ?_; clear hf; intro a hf
     refine sR hf hS (rd_len hf rfl rfl Tryz.underlying28) ?_; clear hf; intro a hf
     refine sR hf hS (rd_convInt hf rfl rfl Tryz.underlying3 Tryz.underlying34 (wrap64 (by omega))) ?_; clear hf; intro a hf
     refine sR hf hS (rd_rem hf rfl rfl rfl (by first | decide | omega) ((u64mod y hN0).trans (by rw [← hP]))) ?_; clear hf; intro a hf
     refine sR hf hS (rd_convInt hf rfl rfl Tryz.underlying34 Tryz.underlying3 (Go.IntWalk.i64_in _ (by omega))) ?_; clear hf; intro a hf
     refine sR hf hS ((by first | exact rd_indexAddrN1 hf rfl rfl rfl Tryz.underlying28 sz5 (by omega) | exact rd_indexAddr hf rfl rfl rfl Tryz.underlying28 sz5 (by first | decide | omega) (by omega))) ?_; clear hf; intro a hf
     refine sR hf hS (rd_load1 hf rfl rfl ag5 (by intro _ h; exact (h.slOfRw (xs := bvs cs) (by repeat (first | exact Sel.head | apply Sel.tail))).get (bvs_get hgc))) ?_; clear hf; intro a hf
     refine mN hf hS ?_; clear hf; intro a hf
     refine sR hf hS (rd_xor hf rfl rfl rfl (n8_xor _ _ rfl)) ?_; clear hf; intro a hf
     refine sR hf hS ((by first | exact rd_indexAddrN1 hf rfl rfl rfl Tryz.underlying28 sz5 (by omega) | exact rd_indexAddr hf rfl rfl rfl Tryz.underlying28 sz5 (by first | decide | omega) (by omega))) ?_; clear hf; intro a hf
     refine step_l (st_storeRw hf (Wn.none rfl) hS rfl rfl rfl (by rfl) sz5 (by rfl) (by repeat (first | exact Sel.head | apply Sel.tail)) (by omega) rfl ?_)
     clear hf hS; intro a w hf hS
     refine done_l (b_normal (t_normal (c_region ?_)))
     refine sP hf hS ?_; clear hf; intro a hf
     refine mN hf hS ?_; clear hf; intro a hf
     refine done_l ?_
     refine t_normal ⟨(i + 1, cs.set P (c ^^^ xb)), ((hf.backA hk4).kb hf 50 rfl (by first | rfl | exact int_eq (by omega))), ⟨(by rw [bvs_set]; exact hS.subA), ⟨by omega, by rw [List.length_set]; exact hcM⟩⟩, by first | omega | (simp only []; omega)⟩
    clear hf; intro hc27 a hf
    refine pT hf hS ?_; clear hf; intro a hf
    refine done_l (t_normal ?_)
    refine c_false hf rfl ?_
    refine c_skip (b_normal (t_normal (c_region ?_)))
    refine sP hf hS ?_; clear hf; intro a hf
    refine mN hf hS ?_; clear hf; intro a hf
    refine done_l ?_
    refine t_normal ⟨(i + 1, cs), ((hf.backA hk4).kb hf 50 rfl (by first | rfl | exact int_eq (by omega))), ⟨hS.subA, ⟨by omega, hcM⟩⟩, by first | omega | (simp only []; omega)⟩
   clear hf; intro hc26 a hf
   iterate 5 ((first | refine kS hf ?_ | refine mN hf hS ?_ | refine pF hf hS ?_); clear hf; intro a hf)
   refine done_l (t_normal ?_)
   refine c_false hf rfl ?_
   refine c_skip (b_normal (t_normal (c_region ?_)))
   refine sP hf hS ?_; clear hf; intro a hf
   refine mN hf hS ?_; clear hf; intro a hf
   refine done_l ?_
   refine t_normal ⟨(i + 1, cs), ((hf.backA hk4).kb hf 50 rfl (by first | rfl | exact int_eq (by omega))), ⟨hS.subA, ⟨by omega, hcM⟩⟩, by first | omega | (simp only []; omega)⟩
  clear hf; intro hc25 a hf
  refine done_l (t_normal (c_seq ?_))
  refine c_false hf rfl ?_
  refine c_exit (t_exit (t_exit (b_exit (t_normal (c_seq (c_seq (c_region ?_)))))))
  iterate 2 (refine mN hf hS ?_; clear hf; intro a hf)
  refine sR hf hS (rd_build hf rfl rfl zr35 (by rfl) pl35 (.cons rfl (by first | rfl) (by rfl) (by repeat (first | exact Put.nil | apply Put.cons | apply Put.succ)) (.cons rfl (by first | rfl) (by rfl) (by repeat (first | exact Put.nil | apply Put.cons | apply Put.succ)) .nil))) ?_; clear hf; intro a hf
  refine mN hf hS ?_; clear hf; intro a hf
  refine done_l (t_normal (c_block ?_))
  have hk5 := Keep.ofA hf [(10, 10), (16, 20), (79, 108)]
  refine c_loopK hk5 (α := Nat) (fun k2 => [(79, .int .i64 (k2 : Nat))]) (fun k2 w => Sat W (Rw 5 1 qb M capb (bvs cs) :: R) w ∧ k2 ≤ 2) (fun k2 => 2 - k2) 0 ((hf.keep hk5).kb hf 79 rfl (by first | rfl | exact int_eq (by omega))) ⟨hS.subA, by omega⟩ ?_
  clear hf hS; rintro k2 a w hf ⟨hS, hk2⟩; (try dsimp only [List.cons_append, List.nil_append] at hf)
  refine c_seq (c_region ?_)
  refine sB hf hS (rd_lss hf rfl rfl rfl) ?_ ?_
  ·
   clear hf; intro hc28 a hf
   have hlt : (cs.take N).length = N := by rw [List.length_take]; omega
   have hx : ∃ (bs : List UInt8) (q9 : Option Addr) (c9 : Nat), ([.slice qb N capb, .slice qr raw.length cr] : List Value)[k2]? = some (.slice q9 bs.length c9) ∧ (∀ w, Sat W (Rw 5 1 qb M capb (bvs cs) :: R) w → SlAt w q9 bs.length 1 (bvs bs)) ∧ bs.length ≤ 140737488351232 ∧ bs.length ≤ c9 := (by rcases (show k2 = 0 ∨ k2 = 1 by omega) with rfl | rfl; (· exact ⟨cs.take N, qb, capb, by rw [hlt]; rfl, fun w h => take1 (by rw [hcM]; exact h.slOfRw .head) (by omega), by omega, by omega⟩); (· exact ⟨raw, qr, cr, rfl, fun w h => hvr w (h.sub (.skip .refl)), hraw, hcr⟩))
   obtain ⟨bs, q9, c9, hix, hvb, hlb, hcb⟩ := hx
   refine done_l (t_normal (c_seq ?_))
   refine c_true hf rfl ?_
   refine c_skip (t_normal (c_seq (c_block (c_seq (c_region ?_)))))
   refine sR hf hS (rd_indexA hf rfl rfl rfl Tryz.underlying35 ag28 sz28 (by omega) hix) ?_; clear hf; intro a hf
   refine aN hf hS ?_; clear hf; intro a hf
   refine done_l (t_normal (c_seq (c_region ?_)))
   refine mN hf hS ?_; clear hf; intro a hf
   refine step_l (st_call hf (Wn.none rfl) rfl rfl rfl fn7 (Dec_c bs _ _ hS hlb hcb (fun _ h => hvb _ (h.subA))) rfl rfl ?_)
   clear hf hS; rintro v a w ⟨q1, c1, L1, q2, c2, L2, q3, c3, L3, rfl, ⟨hE1, hE2, hE3⟩, ⟨hD1, hD2, hD3⟩, ⟨hM1, hM3⟩, hS⟩ hf
   refine mN hf hS ?_; clear hf; intro a hf
   refine sR hf hS (rd_extract hf rfl rfl rfl) ?_; clear hf; intro a hf
   refine sR hf hS (rd_extract hf rfl rfl rfl) ?_; clear hf; intro a hf
   refine sA hf hS zr26 ?_
   clear hf hS; intro b_a a w hf hS
   refine sS hf hS sz26 ?_
   clear hf hS; intro a w hf hS
   refine aN hf hS ?_; clear hf; intro a hf
   refine done_l (t_normal (c_seq (c_region ?_)))
   refine mN hf hS ?_; clear hf; intro a hf
   refine step_l (st_call hf (Wn.none rfl) rfl rfl rfl fn8 (RDec_c bs _ _ hS hlb hcb (fun _ h => hvb _ (h.subA))) rfl rfl ?_)
   clear hf hS; rintro v a w ⟨q4, c4, L4, q5, c5, L5, q6, c6, L6, rfl, ⟨hE4, hE5, hE6⟩, ⟨hD4, hD5, hD6⟩, ⟨hM4, hM6⟩, hS⟩ hf
   refine mN hf hS ?_; clear hf; intro a hf
   refine sR hf hS (rd_extract hf rfl rfl rfl) ?_; clear hf; intro a hf
   refine sR hf hS (rd_extract hf rfl rfl rfl) ?_; clear hf; intro a hf
   refine sA hf hS zr26 ?_
   clear hf hS; intro b_b a w hf hS
   refine sS hf hS sz26 ?_
   clear hf hS; intro a w hf hS
   refine aN hf hS ?_; clear hf; intro a hf
   refine done_l (t_normal (c_seq (c_region ?_)))
   iterate 2 (refine mN hf hS ?_; clear hf; intro a hf)
   refine sB hf hS (rd_neq hf rfl rfl rfl) ?_ ?_
   ·
    clear hf; intro hc31 a hf
    exact absurd rfl hc31
   clear hf; intro hc31 a hf
   refine mN hf hS ?_; clear hf; intro a hf
   refine sG hf hS (rd_ldN hf ag26 sz26) ?_; clear hf; intro a hf
   refine sG hf hS (rd_ldN hf ag26 sz26) ?_; clear hf; intro a hf
   refine step_l (st_call hf (Wn.some hf rfl rfl rfl rfl) rfl rfl rfl fn9 (RMSame_c _ _ _ _ _ _ _ _ _ _ _ _ _ _ _ _ _ _ _ _ _ _ _ _ _ _ _ _ _ _ _ _  hS (fun _ h => h.entL (by repeat (first | exact Sel.head | apply Sel.tail)) (by repeat (first | exact Sel.head | apply Sel.tail)) hE2 (by omega)) (fun _ h => h.digL (by repeat (first | exact Sel.head | apply Sel.tail)) (by repeat (first | exact Sel.head | apply Sel.tail)) hD2 (by omega)) (fun _ h => ⟨h.slOfRw (by repeat (first | exact Sel.head | apply Sel.tail)), by show L3.length ≤ _; omega⟩) (fun _ h => h.entL (by repeat (first | exact Sel.head | apply Sel.tail)) (by repeat (first | exact Sel.head | apply Sel.tail)) hE5 (by omega)) (fun _ h => h.digL (by repeat (first | exact Sel.head | apply Sel.tail)) (by repeat (first | exact Sel.head | apply Sel.tail)) hD5 (by omega)) (fun _ h => ⟨h.slOfRw (by repeat (first | exact Sel.head | apply Sel.tail)), by show L6.length ≤ _; omega⟩)) rfl rfl ?_)
   clear hf hS; rintro v a w ⟨rfl, hS⟩ hf
   first | refine split_dec (d := 98) hf rfl ?_ ?_ | refine split_bool (d := 98) hf rfl ?_ ?_
   ·
    clear hf; intro hc32 hf
    refine sG hf hS (rd_not hf rfl rfl) ?_; clear hf; intro a hf
    iterate 2 ((first | refine mN hf hS ?_ | refine pF hf hS ?_); clear hf; intro a hf)
    refine fG hf hS fb26_0 ?_; clear hf; intro a hf
    refine sG hf hS (rd_ld hf ag3) ?_; clear hf; intro a hf
    refine fG hf hS fb26_0 ?_; clear hf; intro a hf
    refine sG hf hS (rd_ld hf ag3) ?_; clear hf; intro a hf
    refine step_l (st_rdB hf (Wn.some hf rfl rfl rfl rfl) (rd_neq hf rfl rfl rfl) hS rfl rfl ?_ ?_)
    ·
     clear hf; intro hc33 a hf
     exact absurd rfl hc33
    clear hf; intro hc33 a hf
    refine pF hf hS ?_; clear hf; intro a hf
    refine done_l (t_normal ?_)
    refine c_false hf rfl ?_
    refine c_skip (b_normal (t_normal (c_region ?_)))
    refine sP hf hS ?_; clear hf; intro a hf
    refine mN hf hS ?_; clear hf; intro a hf
    refine done_l ?_
    refine t_normal ⟨k2 + 1, ((hf.backA hk5).kb hf 79 rfl (by first | rfl | exact int_eq (by omega))), ⟨hS.subA, by omega⟩, by first | omega | (simp only []; omega)⟩
   clear hf; intro hc32 hf
   exact absurd (sameM_refl (by rw [hE1, hD1, hM1, hE4, hD4, hM4])) (Bool.eq_false_iff.1 hc32)
  clear hf; intro hc28 a hf
  refine done_l (t_normal (c_seq ?_))
  refine c_false hf rfl ?_
  refine c_exit (t_exit (t_exit (b_exit (t_normal (c_seq (c_region ?_))))))
  refine step_l (st_call hf (Wn.none rfl) rfl rfl rfl fn5 (awake_c hS) rfl rfl ?_)
  clear hf hS; rintro v a w ⟨rfl, hS⟩ hf
  refine aN hf hS ?_; clear hf; intro a hf
  refine done_l (t_normal (c_ret ?_))
  refine eT hf ?_
  exact ⟨rfl, hS.subA⟩
 clear hf; intro hc3 hf
 refine nT hf hS ?_; clear hf; intro a hf
 iterate 5 ((first | refine kS hf ?_ | refine mN hf hS ?_ | refine pT hf hS ?_); clear hf; intro a hf)
 refine done_l (t_normal ?_)
 refine c_true hf rfl ?_
 refine c_seq (c_region ?_)
 refine step_l (st_call hf (Wn.none rfl) rfl rfl rfl fn5 (awake_c hS) rfl rfl ?_)
 clear hf hS; rintro v a w ⟨rfl, hS⟩ hf
 refine aN hf hS ?_; clear hf; intro a hf
 refine done_l (t_normal (c_ret (t_ret ?_)))
 refine eT hf ?_
 exact ⟨rfl, hS.subA⟩

end Go.Proofs.YtglmimbfelakbaaGreat
