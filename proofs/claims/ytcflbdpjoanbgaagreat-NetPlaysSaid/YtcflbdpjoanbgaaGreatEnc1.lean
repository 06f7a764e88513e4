/-
  Walked: Enc.
  Conditions: none.
-/
import Derived.Test.YtcflbdpjoanbgaaGreatWri1
namespace Go.Proofs.YtcflbdpjoanbgaaGreat
open Go Go.Sl
set_option linter.unusedVariables false
set_option linter.unusedSimpArgs false

set_option maxRecDepth 100000 in
set_option maxHeartbeats 4000000 in
theorem MWr_c (p : Nat) (most : Int) (s : WS) (kd fr tn op fo : Int) (ky : List UInt8) (bk : Int) (es : List EntT) (qe : Option Addr) (ce : Nat) (ds : List DigT) (qd : Option Addr) (cd : Nat) (ms : List MemT) (qm : Option Addr) (cm : Nat) {W : World} {R : List HP} {w : World} (hS : Sat W (WrP 5 116 p most s :: R) w) (hm : 0 ≤ most ∧ most ≤ 1073741824) (hve : ∀ w, Sat W R w → EntsAt w (qe, ce, es)) (hvd : ∀ w, Sat W R w → DigsAt w (qd, cd, ds)) (hvm : ∀ w, Sat W R w → DotsAt w (qm, cm, ms)) (hmay : mayM (⟨kd, fr, tn, op, fo, ky, bk, es.map pEnt, ds.map pDig, ms.map pDot⟩ : PMsg) = true) : Calls Tryz.prog 41 [.pointer (some ⟨p, 0, none⟩), .agg #[.int .i64 kd, .int .i64 fr, .int .i64 tn, .int .i64 op, .int .i64 fo, .string (str ky), .int .i64 bk, .slice qe es.length ce, .slice qd ds.length cd, .slice qm ms.length cm]].toArray w (Ret fun v w' => v = .tuple #[] ∧ Sat W (WrP 5 116 p most (wputs most s (msgW (⟨kd, fr, tn, op, fo, ky, bk, es.map pEnt, ds.map pDig, ms.map pDot⟩ : PMsg))) :: R) w') := by
 refine fn_start 120 Tryz.func41 rfl rfl rfl ?_
 intro a hf
 obtain ⟨hok, hae, had, ham⟩ := mayM_and hmay; obtain ⟨h1, h2, h3, h4, h5, h6, h7, h8, h9, h10, h11⟩ := hok; dsimp only [plP] at h1 h2 h3 h4 h5 h6 h7 h8 h9 h10 h11 hae had ham; have hkd := kind_in h1
 refine c_seq (c_region ?_)
 refine step_l (st_box hf (Wn.none rfl) hS rfl rfl (by rfl) rfl rfl ?_)
 clear hf hS; intro b_m a w hf hS
 refine done_l (t_normal (c_seq (c_region ?_)))
 refine fA hf hS fb32_0 ?_; clear hf; intro a hf
 refine sR hf hS (rd_ld hf ag3) ?_; clear hf; intro a hf
 refine step_l (st_call hf (Wn.none rfl) rfl rfl rfl fn59 (Parts_c _ hS) rfl rfl ?_)
 clear hf hS; rintro v a w ⟨rfl, hS⟩ hf
 refine aN hf hS ?_; clear hf; intro a hf
 refine done_l (t_normal (c_seq (c_region ?_)))
 refine mN hf hS ?_; clear hf; intro a hf
 refine fA hf hS fb32_0 ?_; clear hf; intro a hf
 refine sR hf hS (rd_ld hf ag3) ?_; clear hf; intro a hf
 refine sR hf hS (rd_convInt hf rfl rfl Tryz.underlying3 Tryz.underlying67 (wrapN (by omega) (by omega))) ?_; clear hf; intro a hf
 refine step_l (st_call hf (Wn.none rfl) rfl rfl rfl fn70 (WNum_c _ _ _ _ (hS.selA) (by first | assumption | exact ⟨by omega, by omega⟩) (by first | assumption | exact .inl (by omega) | exact .inr (by omega)) (by first | assumption | omega)) rfl rfl ?_)
 clear hf hS; rintro v a w ⟨rfl, hS⟩ hf
 refine done_l (t_normal (c_seq (c_region ?_)))
 refine mN hf hS ?_; clear hf; intro a hf
 refine fA hf hS fb32_1 ?_; clear hf; intro a hf
 refine sR hf hS (rd_ld hf ag3) ?_; clear hf; intro a hf
 refine sR hf hS (rd_convInt hf rfl rfl Tryz.underlying3 Tryz.underlying67 (wrapN (by omega) (by omega))) ?_; clear hf; intro a hf
 refine step_l (st_call hf (Wn.none rfl) rfl rfl rfl fn70 (WNum_c _ _ _ _ (hS.selA) (by first | assumption | exact ⟨by omega, by omega⟩) (by first | assumption | exact .inl (by omega) | exact .inr (by omega)) (by first | assumption | omega)) rfl rfl ?_)
 clear hf hS; rintro v a w ⟨rfl, hS⟩ hf
 refine done_l (t_normal (c_seq (c_region ?_)))
 refine mN hf hS ?_; clear hf; intro a hf
 refine fA hf hS fb32_2 ?_; clear hf; intro a hf
 refine sR hf hS (rd_ld hf ag3) ?_; clear hf; intro a hf
 refine sR hf hS (rd_convInt hf rfl rfl Tryz.underlying3 Tryz.underlying67 (wrapN (by omega) (by omega))) ?_; clear hf; intro a hf
 refine step_l (st_call hf (Wn.none rfl) rfl rfl rfl fn70 (WNum_c _ _ _ _ (hS.selA) (by first | assumption | exact ⟨by omega, by omega⟩) (by first | assumption | exact .inl (by omega) | exact .inr (by omega)) (by first | assumption | omega)) rfl rfl ?_)
 clear hf hS; rintro v a w ⟨rfl, hS⟩ hf
 refine done_l (t_normal (c_seq (c_seq (c_region ?_))))
 refine mN hf hS ?_; clear hf; intro a hf
 refine sR hf hS (rd_and hf rfl rfl rfl (and_parts kd 0 1 (by decide) (by decide))) ?_; clear hf; intro a hf
 refine sR hf hS (rd_neq hf rfl rfl rfl) ?_; clear hf; intro a hf
 refine done_l (t_normal ?_)
 have hj31 := Keep.ofA hf [(32, 35)]
 refine c_joinK (n := 120) hj31 [] (fun w => Sat W (WrP 5 116 p most (wputs most (wput most (wput most (wput most s (numB kd.toNat)) (numB fr.toNat)) (numB tn.toNat)) (plW (hasP 0 kd) [numB (zz op)])) :: Blk b_m [.int .i64 kd, .int .i64 fr, .int .i64 tn, .int .i64 op, .int .i64 fo, .string (str ky), .int .i64 bk, .slice qe es.length ce, .slice qd ds.length cd, .slice qm ms.length cm] 32 :: R) w) ?_ ?_
 ·
  refine c_split hf rfl ?_ ?_
  ·
   intro hc
   have hi := has_t (by decide) hc
   have hx := h4; rw [hi] at hx; dsimp only [plI] at hx; have hz : -9223372036854775808 ≤ op ∧ op ≤ 9223372036854775807 := (by omega)
   refine c_region ?_
   refine mN hf hS ?_; clear hf; intro a hf
   refine fA hf hS fb32_3 ?_; clear hf; intro a hf
   refine sR hf hS (rd_ld hf ag2) ?_; clear hf; intro a hf
   refine step_l (st_call hf (Wn.none rfl) rfl rfl rfl fn71 (WInt_c _ _ _ _ (hS.selA) (by first | assumption | exact ⟨by omega, by omega⟩) (by first | assumption | exact .inl (by omega) | exact .inr (by omega)) (by first | assumption | exact ⟨by omega, by omega⟩)) rfl rfl ?_)
   clear hf hS; rintro v a w ⟨rfl, hS⟩ hf
   refine done_l ?_
   refine t_normal ⟨(hf.backA hj31), (by rw [hi]; exact hS.subA)⟩
  ·
   intro hc
   have hi := has_f (by decide) hc
   refine c_skip ?_
   refine t_normal ⟨(hf.backA hj31), (by rw [hi]; exact hS.subA)⟩
 ·
  clear hf hS; intro a w hf hS; (try dsimp only [List.cons_append, List.nil_append] at hf)
  refine t_normal (c_seq (c_seq (c_region ?_)))
  refine mN hf hS ?_; clear hf; intro a hf
  refine sR hf hS (rd_and hf rfl rfl rfl (and_parts kd 1 2 (by decide) (by decide))) ?_; clear hf; intro a hf
  refine sR hf hS (rd_neq hf rfl rfl rfl) ?_; clear hf; intro a hf
  refine done_l (t_normal ?_)
  have hj38 := Keep.ofA hf [(39, 43)]
  refine c_joinK (n := 120) hj38 [] (fun w => Sat W (WrP 5 116 p most (wputs most (wputs most (wput most (wput most (wput most s (numB kd.toNat)) (numB fr.toNat)) (numB tn.toNat)) (plW (hasP 0 kd) [numB (zz op)])) (plW (hasP 1 kd) [numB fo.toNat])) :: Blk b_m [.int .i64 kd, .int .i64 fr, .int .i64 tn, .int .i64 op, .int .i64 fo, .string (str ky), .int .i64 bk, .slice qe es.length ce, .slice qd ds.length cd, .slice qm ms.length cm] 32 :: R) w) ?_ ?_
  ·
   refine c_split hf rfl ?_ ?_
   ·
    intro hc
    have hi := has_t (by decide) hc
    have hx := h5; rw [hi] at hx; dsimp only [plI] at hx
    refine c_region ?_
    refine mN hf hS ?_; clear hf; intro a hf
    refine fA hf hS fb32_4 ?_; clear hf; intro a hf
    refine sR hf hS (rd_ld hf ag3) ?_; clear hf; intro a hf
    refine sR hf hS (rd_convInt hf rfl rfl Tryz.underlying3 Tryz.underlying67 (wrapN (by omega) (by omega))) ?_; clear hf; intro a hf
    refine step_l (st_call hf (Wn.none rfl) rfl rfl rfl fn70 (WNum_c _ _ _ _ (hS.selA) (by first | assumption | exact ⟨by omega, by omega⟩) (by first | assumption | exact .inl (by omega) | exact .inr (by omega)) (by first | assumption | omega)) rfl rfl ?_)
    clear hf hS; rintro v a w ⟨rfl, hS⟩ hf
    refine done_l ?_
    refine t_normal ⟨(hf.backA hj38), (by rw [hi]; exact hS.subA)⟩
   ·
    intro hc
    have hi := has_f (by decide) hc
    refine c_skip ?_
    refine t_normal ⟨(hf.backA hj38), (by rw [hi]; exact hS.subA)⟩
  ·
   clear hf hS; intro a w hf hS; (try dsimp only [List.cons_append, List.nil_append] at hf)
   refine t_normal (c_seq (c_seq (c_region ?_)))
   refine mN hf hS ?_; clear hf; intro a hf
   refine sR hf hS (rd_and hf rfl rfl rfl (and_parts kd 2 4 (by decide) (by decide))) ?_; clear hf; intro a hf
   refine sR hf hS (rd_neq hf rfl rfl rfl) ?_; clear hf; intro a hf
   refine done_l (t_normal ?_)
   have hj46 := Keep.ofA hf [(47, 51)]
   refine c_joinK (n := 120) hj46 [] (fun w => Sat W (WrP 5 116 p most (wputs most (wputs most (wputs most (wput most (wput most (wput most s (numB kd.toNat)) (numB fr.toNat)) (numB tn.toNat)) (plW (hasP 0 kd) [numB (zz op)])) (plW (hasP 1 kd) [numB fo.toNat])) (plW (hasP 2 kd) [textB ky])) :: Blk b_m [.int .i64 kd, .int .i64 fr, .int .i64 tn, .int .i64 op, .int .i64 fo, .string (str ky), .int .i64 bk, .slice qe es.length ce, .slice qd ds.length cd, .slice qm ms.length cm] 32 :: R) w) ?_ ?_
   ·
    refine c_split hf rfl ?_ ?_
    ·
     intro hc
     have hi := has_t (by decide) hc
     have hx := h7; rw [hi] at hx; dsimp only [plB] at hx
     refine c_region ?_
     refine mN hf hS ?_; clear hf; intro a hf
     refine fA hf hS fb32_5 ?_; clear hf; intro a hf
     refine sR hf hS (rd_ld hf ag9) ?_; clear hf; intro a hf
     refine step_l (st_bytes hf (Wn.none rfl) hS rfl rfl Tryz.underlying9 Tryz.underlying34 Tryz.underlying5 rfl rfl ?_)
     clear hf hS; intro b_2 cap_2 zs_2 a w hf hcap_2 hS
     refine step_l (st_call hf (Wn.none rfl) rfl rfl rfl fn72 (WText_c _ _ _ ky _ _ _ (hS.selA) (by first | assumption | exact ⟨by omega, by omega⟩) (by first | assumption | exact .inl (by omega) | exact .inr (by omega)) rfl (by omega) (fun _ h => h.slOfBlkPre (by repeat (first | exact Sel.head | apply Sel.tail)) (bvs_len1 _))) rfl rfl ?_)
     clear hf hS; rintro v a w ⟨rfl, hS⟩ hf
     refine done_l ?_
     refine t_normal ⟨(hf.backA hj46), (by rw [hi]; exact hS.subA)⟩
    ·
     intro hc
     have hi := has_f (by decide) hc
     refine c_skip ?_
     refine t_normal ⟨(hf.backA hj46), (by rw [hi]; exact hS.subA)⟩
   ·
    clear hf hS; intro a w hf hS; (try dsimp only [List.cons_append, List.nil_append] at hf)
    refine t_normal (c_seq (c_seq (c_region ?_)))
    refine mN hf hS ?_; clear hf; intro a hf
    refine sR hf hS (rd_and hf rfl rfl rfl (and_parts kd 3 8 (by decide) (by decide))) ?_; clear hf; intro a hf
    refine sR hf hS (rd_neq hf rfl rfl rfl) ?_; clear hf; intro a hf
    refine done_l (t_normal ?_)
    have hj54 := Keep.ofA hf [(55, 59)]
    refine c_joinK (n := 120) hj54 [] (fun w => Sat W (WrP 5 116 p most (wputs most (wputs most (wputs most (wputs most (wput most (wput most (wput most s (numB kd.toNat)) (numB fr.toNat)) (numB tn.toNat)) (plW (hasP 0 kd) [numB (zz op)])) (plW (hasP 1 kd) [numB fo.toNat])) (plW (hasP 2 kd) [textB ky])) (plW (hasP 3 kd) [numB bk.toNat])) :: Blk b_m [.int .i64 kd, .int .i64 fr, .int .i64 tn, .int .i64 op, .int .i64 fo, .string (str ky), .int .i64 bk, .slice qe es.length ce, .slice qd ds.length cd, .slice qm ms.length cm] 32 :: R) w) ?_ ?_
    ·
     refine c_split hf rfl ?_ ?_
     ·
      intro hc
      have hi := has_t (by decide) hc
      have hx := h6; rw [hi] at hx; dsimp only [plI] at hx
      refine c_region ?_
      refine mN hf hS ?_; clear hf; intro a hf
      refine fA hf hS fb32_6 ?_; clear hf; intro a hf
      refine sR hf hS (rd_ld hf ag3) ?_; clear hf; intro a hf
      refine sR hf hS (rd_convInt hf rfl rfl Tryz.underlying3 Tryz.underlying67 (wrapN (by omega) (by omega))) ?_; clear hf; intro a hf
      refine step_l (st_call hf (Wn.none rfl) rfl rfl rfl fn70 (WNum_c _ _ _ _ (hS.selA) (by first | assumption | exact ⟨by omega, by omega⟩) (by first | assumption | exact .inl (by omega) | exact .inr (by omega)) (by first | assumption | omega)) rfl rfl ?_)
      clear hf hS; rintro v a w ⟨rfl, hS⟩ hf
      refine done_l ?_
      refine t_normal ⟨(hf.backA hj54), (by rw [hi]; exact hS.subA)⟩
     ·
      intro hc
      have hi := has_f (by decide) hc
      refine c_skip ?_
      refine t_normal ⟨(hf.backA hj54), (by rw [hi]; exact hS.subA)⟩
    ·
     clear hf hS; intro a w hf hS; (try dsimp only [List.cons_append, List.nil_append] at hf)
     refine t_normal (c_seq (c_seq (c_region ?_)))
     refine mN hf hS ?_; clear hf; intro a hf
     refine sR hf hS (rd_and hf rfl rfl rfl (and_parts kd 4 16 (by decide) (by decide))) ?_; clear hf; intro a hf
     refine sR hf hS (rd_neq hf rfl rfl rfl) ?_; clear hf; intro a hf
     refine done_l (t_normal ?_)
     have hj62 := Keep.ofA hf [(6, 6), (63, 79)]
     refine c_joinK (n := 120) hj62 [] (fun w => Sat W (WrP 5 116 p most (wputs most (wputs most (wputs most (wputs most (wputs most (wput most (wput most (wput most s (numB kd.toNat)) (numB fr.toNat)) (numB tn.toNat)) (plW (hasP 0 kd) [numB (zz op)])) (plW (hasP 1 kd) [numB fo.toNat])) (plW (hasP 2 kd) [textB ky])) (plW (hasP 3 kd) [numB bk.toNat])) (plW (hasP 4 kd) (numB es.length :: (es.map pEnt).flatMap entW))) :: Blk b_m [.int .i64 kd, .int .i64 fr, .int .i64 tn, .int .i64 op, .int .i64 fo, .string (str ky), .int .i64 bk, .slice qe es.length ce, .slice qd ds.length cd, .slice qm ms.length cm] 32 :: R) w) ?_ ?_
     ·
      refine c_split hf rfl ?_ ?_
      ·
       intro hc
       have hi := has_t (by decide) hc
       have hx := h9 hi; rw [hi] at hx hae; dsimp only [plL] at hx hae; rw [List.length_map] at hx; have hmo := mostP_le kd
       refine c_seq (c_region ?_)
       refine mN hf hS ?_; clear hf; intro a hf
       refine fA hf hS fb32_7 ?_; clear hf; intro a hf
       refine sR hf hS (rd_ld hf ag28) ?_; clear hf; intro a hf
       refine sR hf hS (rd_len hf rfl rfl Tryz.underlying28) ?_; clear hf; intro a hf
       refine sR hf hS (rd_convInt hf rfl rfl Tryz.underlying3 Tryz.underlying67 (wrap64 (by omega))) ?_; clear hf; intro a hf
       refine step_l (st_call hf (Wn.none rfl) rfl rfl rfl fn70 (WNum_c _ _ _ _ (hS.selA) (by first | assumption | exact ⟨by omega, by omega⟩) (by first | assumption | exact .inl (by omega) | exact .inr (by omega)) (by first | assumption | omega)) rfl rfl ?_)
       clear hf hS; rintro v a w ⟨rfl, hS⟩ hf
       refine done_l (t_normal (c_seq (c_region ?_)))
       refine fA hf hS fb32_7 ?_; clear hf; intro a hf
       refine sR hf hS (rd_ld hf ag28) ?_; clear hf; intro a hf
       refine sR hf hS (rd_len hf rfl rfl Tryz.underlying28) ?_; clear hf; intro a hf
       refine mN hf hS ?_; clear hf; intro a hf
       refine done_l (t_normal (c_block ?_))
       have hk0 := Keep.ofA hf [(6, 6), (72, 79)]
       refine c_loopK hk0 (α := Nat) (fun k => [(72, .int .i64 (k : Nat))]) (fun k w => Sat W (WrP 5 116 p most (wputs most (wput most (wputs most (wputs most (wputs most (wputs most (wput most (wput most (wput most s (numB kd.toNat)) (numB fr.toNat)) (numB tn.toNat)) (plW (hasP 0 kd) [numB (zz op)])) (plW (hasP 1 kd) [numB fo.toNat])) (plW (hasP 2 kd) [textB ky])) (plW (hasP 3 kd) [numB bk.toNat])) (numB es.length)) (((es.map pEnt).take k).flatMap entW)) :: Blk b_m [.int .i64 kd, .int .i64 fr, .int .i64 tn, .int .i64 op, .int .i64 fo, .string (str ky), .int .i64 bk, .slice qe es.length ce, .slice qd ds.length cd, .slice qm ms.length cm] 32 :: R) w ∧ k ≤ es.length) (fun k => es.length - k) 0 ((hf.keep hk0).kb hf 72 rfl (by first | rfl | exact int_eq (by omega))) ⟨hS.subA, by omega⟩ ?_
       clear hf hS; rintro k a w hf ⟨hS, hk⟩; (try dsimp only [List.cons_append, List.nil_append] at hf)
       refine c_seq (c_region ?_)
       refine sB hf hS (rd_lss hf rfl rfl rfl) ?_ ?_
       ·
        clear hf; intro hc3 a hf
        obtain ⟨x, hget⟩ := get_of_lt (l := es) (k := k) (by omega) rfl; obtain ⟨ad, rfl⟩ := (hve _ (hS.subA)).some (by omega); have h8 := ((hve _ (hS.subA)).in hget).1; have hvx := fun w h => ((hve w h).in hget).2; obtain ⟨ky, ⟨seen, ⟨xq, xc, xs⟩, _⟩, _⟩ := x; obtain ⟨s0, s1, s2, s3, s4, s5, s6, s7, rfl⟩ := len8 h8; have hEN := all_get hae (map_get pEnt hget)
        refine done_l (t_normal (c_seq ?_))
        refine c_true hf rfl ?_
        refine c_skip (t_normal (c_seq (c_block (c_seq (c_region ?_)))))
        refine sR hf hS ((by first | exact rd_indexAddrN hf rfl rfl rfl Tryz.underlying28 sz58 (by omega) | exact rd_indexAddr hf rfl rfl rfl Tryz.underlying28 sz58 (by first | decide | omega) (by omega))) ?_; clear hf; intro a hf
        refine sR hf hS (rd_loadN hf rfl rfl ag58 sz58 (by intro _ h; exact (show AggAt _ _ _ [.string (str ky), .int .i64 s0, .int .i64 s1, .int .i64 s2, .int .i64 s3, .int .i64 s4, .int .i64 s5, .int .i64 s6, .int .i64 s7, .slice xq xs.length xc] from (hve _ (h.subA)).el hget))) ?_; clear hf; intro a hf
        refine sA hf hS zr58 ?_
        clear hf hS; intro b_e a w hf hS
        refine sS hf hS sz58 ?_
        clear hf hS; intro a w hf hS
        refine done_l (t_normal (c_region ?_))
        refine mN hf hS ?_; clear hf; intro a hf
        refine sR hf hS (rd_ldN hf ag58 sz58) ?_; clear hf; intro a hf
        refine step_l (st_call hf (Wn.none rfl) rfl rfl rfl fn73 (EntW_c _ _ _ _ _ _ _ _ _ _ _ _ _ _ _ (hS.selA) (by first | assumption | exact ⟨by omega, by omega⟩) hEN (fun _ h => hvx _ (h.subA))) rfl rfl ?_)
        clear hf hS; rintro v a w ⟨rfl, hS⟩ hf
        refine done_l (b_normal (t_normal (c_region ?_)))
        refine sP hf hS ?_; clear hf; intro a hf
        refine mN hf hS ?_; clear hf; intro a hf
        refine done_l ?_
        refine t_normal ⟨k + 1, ((hf.backA hk0).kb hf 72 rfl (by first | rfl | exact int_eq (by omega))), ⟨(by rw [flatW_step (map_get pEnt hget)]; exact hS.subA), by omega⟩, by first | omega | (simp only []; omega)⟩
       clear hf; intro hc3 a hf
       obtain rfl : k = es.length := by omega
       rw [flat_done] at hS
       refine done_l (t_normal (c_seq ?_))
       refine c_false hf rfl ?_
       refine c_exit (t_exit (t_exit (b_exit ?_)))
       refine t_normal ⟨(hf.backA hj62), (by rw [hi]; exact hS.subA)⟩
      ·
       intro hc
       have hi := has_f (by decide) hc
       refine c_skip ?_
       refine t_normal ⟨(hf.backA hj62), (by rw [hi]; exact hS.subA)⟩
     ·
      clear hf hS; intro a w hf hS; (try dsimp only [List.cons_append, List.nil_append] at hf)
      refine t_normal (c_seq (c_seq (c_region ?_)))
      refine mN hf hS ?_; clear hf; intro a hf
      refine sR hf hS (rd_and hf rfl rfl rfl (and_parts kd 5 32 (by decide) (by decide))) ?_; clear hf; intro a hf
      refine sR hf hS (rd_neq hf rfl rfl rfl) ?_; clear hf; intro a hf
      refine done_l (t_normal ?_)
      have hj82 := Keep.ofA hf [(8, 8), (83, 99)]
      refine c_joinK (n := 120) hj82 [] (fun w => Sat W (WrP 5 116 p most (wputs most (wputs most (wputs most (wputs most (wputs most (wputs most (wput most (wput most (wput most s (numB kd.toNat)) (numB fr.toNat)) (numB tn.toNat)) (plW (hasP 0 kd) [numB (zz op)])) (plW (hasP 1 kd) [numB fo.toNat])) (plW (hasP 2 kd) [textB ky])) (plW (hasP 3 kd) [numB bk.toNat])) (plW (hasP 4 kd) (numB es.length :: (es.map pEnt).flatMap entW))) (plW (hasP 5 kd) (numB ds.length :: (ds.map pDig).flatMap digW))) :: Blk b_m [.int .i64 kd, .int .i64 fr, .int .i64 tn, .int .i64 op, .int .i64 fo, .string (str ky), .int .i64 bk, .slice qe es.length ce, .slice qd ds.length cd, .slice qm ms.length cm] 32 :: R) w) ?_ ?_
      ·
       refine c_split hf rfl ?_ ?_
       ·
        intro hc
        have hi := has_t (by decide) hc
        have hx := h10; rw [hi] at hx had; dsimp only [plL] at hx had; rw [List.length_map] at hx
        refine c_seq (c_region ?_)
        refine mN hf hS ?_; clear hf; intro a hf
        refine fA hf hS fb32_8 ?_; clear hf; intro a hf
        refine sR hf hS (rd_ld hf ag29) ?_; clear hf; intro a hf
        refine sR hf hS (rd_len hf rfl rfl Tryz.underlying29) ?_; clear hf; intro a hf
        refine sR hf hS (rd_convInt hf rfl rfl Tryz.underlying3 Tryz.underlying67 (wrap64 (by omega))) ?_; clear hf; intro a hf
        refine step_l (st_call hf (Wn.none rfl) rfl rfl rfl fn70 (WNum_c _ _ _ _ (hS.selA) (by first | assumption | exact ⟨by omega, by omega⟩) (by first | assumption | exact .inl (by omega) | exact .inr (by omega)) (by first | assumption | omega)) rfl rfl ?_)
        clear hf hS; rintro v a w ⟨rfl, hS⟩ hf
        refine done_l (t_normal (c_seq (c_region ?_)))
        refine fA hf hS fb32_8 ?_; clear hf; intro a hf
        refine sR hf hS (rd_ld hf ag29) ?_; clear hf; intro a hf
        refine sR hf hS (rd_len hf rfl rfl Tryz.underlying29) ?_; clear hf; intro a hf
        refine mN hf hS ?_; clear hf; intro a hf
        refine done_l (t_normal (c_block ?_))
        have hk1 := Keep.ofA hf [(8, 8), (92, 99)]
        refine c_loopK hk1 (α := Nat) (fun k => [(92, .int .i64 (k : Nat))]) (fun k w => Sat W (WrP 5 116 p most (wputs most (wput most (wputs most (wputs most (wputs most (wputs most (wputs most (wput most (wput most (wput most s (numB kd.toNat)) (numB fr.toNat)) (numB tn.toNat)) (plW (hasP 0 kd) [numB (zz op)])) (plW (hasP 1 kd) [numB fo.toNat])) (plW (hasP 2 kd) [textB ky])) (plW (hasP 3 kd) [numB bk.toNat])) (plW (hasP 4 kd) (numB es.length :: (es.map pEnt).flatMap entW))) (numB ds.length)) (((ds.map pDig).take k).flatMap digW)) :: Blk b_m [.int .i64 kd, .int .i64 fr, .int .i64 tn, .int .i64 op, .int .i64 fo, .string (str ky), .int .i64 bk, .slice qe es.length ce, .slice qd ds.length cd, .slice qm ms.length cm] 32 :: R) w ∧ k ≤ ds.length) (fun k => ds.length - k) 0 ((hf.keep hk1).kb hf 92 rfl (by first | rfl | exact int_eq (by omega))) ⟨hS.subA, by omega⟩ ?_
        clear hf hS; rintro k a w hf ⟨hS, hk⟩; (try dsimp only [List.cons_append, List.nil_append] at hf)
        refine c_seq (c_region ?_)
        refine sB hf hS (rd_lss hf rfl rfl rfl) ?_ ?_
        ·
         clear hf; intro hc5 a hf
         obtain ⟨x, hget⟩ := get_of_lt (l := ds) (k := k) (by omega) rfl; obtain ⟨ad, rfl⟩ := (hvd _ (hS.subA)).some (by omega); have h8 := ((hvd _ (hS.subA)).in hget).1; have hvx := fun w h => ((hvd w h).in hget).2; obtain ⟨ky, seen, ⟨xq, xc, xs⟩, _⟩ := x; obtain ⟨s0, s1, s2, s3, s4, s5, s6, s7, rfl⟩ := len8 h8; have hEN := all_get had (map_get pDig hget)
         refine done_l (t_normal (c_seq ?_))
         refine c_true hf rfl ?_
         refine c_skip (t_normal (c_seq (c_block (c_seq (c_region ?_)))))
         refine sR hf hS ((by first | exact rd_indexAddrN hf rfl rfl rfl Tryz.underlying29 sz61 (by omega) | exact rd_indexAddr hf rfl rfl rfl Tryz.underlying29 sz61 (by first | decide | omega) (by omega))) ?_; clear hf; intro a hf
         refine sR hf hS (rd_loadN hf rfl rfl ag61 sz61 (by intro _ h; exact (show AggAt _ _ _ [.string (str ky), .int .i64 s0, .int .i64 s1, .int .i64 s2, .int .i64 s3, .int .i64 s4, .int .i64 s5, .int .i64 s6, .int .i64 s7, .slice xq xs.length xc] from (hvd _ (h.subA)).el hget))) ?_; clear hf; intro a hf
         refine sA hf hS zr61 ?_
         clear hf hS; intro b_d a w hf hS
         refine sS hf hS sz61 ?_
         clear hf hS; intro a w hf hS
         refine done_l (t_normal (c_region ?_))
         refine mN hf hS ?_; clear hf; intro a hf
         refine sR hf hS (rd_ldN hf ag61 sz61) ?_; clear hf; intro a hf
         refine step_l (st_call hf (Wn.none rfl) rfl rfl rfl fn74 (DigW_c _ _ _ _ _ _ _ _ _ _ _ _ _ _ _ (hS.selA) (by first | assumption | exact ⟨by omega, by omega⟩) hEN (fun _ h => hvx _ (h.subA))) rfl rfl ?_)
         clear hf hS; rintro v a w ⟨rfl, hS⟩ hf
         refine done_l (b_normal (t_normal (c_region ?_)))
         refine sP hf hS ?_; clear hf; intro a hf
         refine mN hf hS ?_; clear hf; intro a hf
         refine done_l ?_
         refine t_normal ⟨k + 1, ((hf.backA hk1).kb hf 92 rfl (by first | rfl | exact int_eq (by omega))), ⟨(by rw [flatW_step (map_get pDig hget)]; exact hS.subA), by omega⟩, by first | omega | (simp only []; omega)⟩
        clear hf; intro hc5 a hf
        obtain rfl : k = ds.length := by omega
        rw [flat_done] at hS
        refine done_l (t_normal (c_seq ?_))
        refine c_false hf rfl ?_
        refine c_exit (t_exit (t_exit (b_exit ?_)))
        refine t_normal ⟨(hf.backA hj82), (by rw [hi]; exact hS.subA)⟩
       ·
        intro hc
        have hi := has_f (by decide) hc
        refine c_skip ?_
        refine t_normal ⟨(hf.backA hj82), (by rw [hi]; exact hS.subA)⟩
      ·
       clear hf hS; intro a w hf hS; (try dsimp only [List.cons_append, List.nil_append] at hf)
       refine t_normal (c_seq (c_region ?_))
       refine mN hf hS ?_; clear hf; intro a hf
       refine sR hf hS (rd_and hf rfl rfl rfl (and_parts kd 6 64 (by decide) (by decide))) ?_; clear hf; intro a hf
       refine sR hf hS (rd_neq hf rfl rfl rfl) ?_; clear hf; intro a hf
       refine done_l (t_normal ?_)
       have hj102 := Keep.ofA hf [(10, 10), (103, 119)]
       refine c_joinK (n := 120) hj102 [] (fun w => Sat W (WrP 5 116 p most (wputs most (wputs most (wputs most (wputs most (wputs most (wputs most (wputs most (wput most (wput most (wput most s (numB kd.toNat)) (numB fr.toNat)) (numB tn.toNat)) (plW (hasP 0 kd) [numB (zz op)])) (plW (hasP 1 kd) [numB fo.toNat])) (plW (hasP 2 kd) [textB ky])) (plW (hasP 3 kd) [numB bk.toNat])) (plW (hasP 4 kd) (numB es.length :: (es.map pEnt).flatMap entW))) (plW (hasP 5 kd) (numB ds.length :: (ds.map pDig).flatMap digW))) (plW (hasP 6 kd) (numB ms.length :: (ms.map pDot).flatMap dotW))) :: Blk b_m [.int .i64 kd, .int .i64 fr, .int .i64 tn, .int .i64 op, .int .i64 fo, .string (str ky), .int .i64 bk, .slice qe es.length ce, .slice qd ds.length cd, .slice qm ms.length cm] 32 :: R) w) ?_ ?_
       ·
        refine c_split hf rfl ?_ ?_
        ·
         intro hc
         have hi := has_t (by decide) hc
         have hx := h11; rw [hi] at hx ham; dsimp only [plL] at hx ham; rw [List.length_map] at hx
         refine c_seq (c_region ?_)
         refine mN hf hS ?_; clear hf; intro a hf
         refine fA hf hS fb32_9 ?_; clear hf; intro a hf
         refine sR hf hS (rd_ld hf ag30) ?_; clear hf; intro a hf
         refine sR hf hS (rd_len hf rfl rfl Tryz.underlying30) ?_; clear hf; intro a hf
         refine sR hf hS (rd_convInt hf rfl rfl Tryz.underlying3 Tryz.underlying67 (wrap64 (by omega))) ?_; clear hf; intro a hf
         refine step_l (st_call hf (Wn.none rfl) rfl rfl rfl fn70 (WNum_c _ _ _ _ (hS.selA) (by first | assumption | exact ⟨by omega, by omega⟩) (by first | assumption | exact .inl (by omega) | exact .inr (by omega)) (by first | assumption | omega)) rfl rfl ?_)
         clear hf hS; rintro v a w ⟨rfl, hS⟩ hf
         refine done_l (t_normal (c_seq (c_region ?_)))
         refine fA hf hS fb32_9 ?_; clear hf; intro a hf
         refine sR hf hS (rd_ld hf ag30) ?_; clear hf; intro a hf
         refine sR hf hS (rd_len hf rfl rfl Tryz.underlying30) ?_; clear hf; intro a hf
         refine mN hf hS ?_; clear hf; intro a hf
         refine done_l (t_normal (c_block ?_))
         have hk2 := Keep.ofA hf [(10, 10), (112, 119)]
         refine c_loopK hk2 (α := Nat) (fun k => [(112, .int .i64 (k : Nat))]) (fun k w => Sat W (WrP 5 116 p most (wputs most (wput most (wputs most (wputs most (wputs most (wputs most (wputs most (wputs most (wput most (wput most (wput most s (numB kd.toNat)) (numB fr.toNat)) (numB tn.toNat)) (plW (hasP 0 kd) [numB (zz op)])) (plW (hasP 1 kd) [numB fo.toNat])) (plW (hasP 2 kd) [textB ky])) (plW (hasP 3 kd) [numB bk.toNat])) (plW (hasP 4 kd) (numB es.length :: (es.map pEnt).flatMap entW))) (plW (hasP 5 kd) (numB ds.length :: (ds.map pDig).flatMap digW))) (numB ms.length)) (((ms.map pDot).take k).flatMap dotW)) :: Blk b_m [.int .i64 kd, .int .i64 fr, .int .i64 tn, .int .i64 op, .int .i64 fo, .string (str ky), .int .i64 bk, .slice qe es.length ce, .slice qd ds.length cd, .slice qm ms.length cm] 32 :: R) w ∧ k ≤ ms.length) (fun k => ms.length - k) 0 ((hf.keep hk2).kb hf 112 rfl (by first | rfl | exact int_eq (by omega))) ⟨hS.subA, by omega⟩ ?_
         clear hf hS; rintro k a w hf ⟨hS, hk⟩; (try dsimp only [List.cons_append, List.nil_append] at hf)
         refine c_seq (c_region ?_)
         refine sB hf hS (rd_lss hf rfl rfl rfl) ?_ ?_
         ·
          clear hf; intro hc7 a hf
          obtain ⟨x, hget⟩ := get_of_lt (l := ms) (k := k) (by omega) rfl; obtain ⟨ad, rfl⟩ := (hvm _ (hS.subA)).some (by omega); obtain ⟨dn, dc, _⟩ := x; have hEN := all_get ham (map_get pDot hget); have hin := mayMem_in hEN; dsimp only [pDot] at hin; have hdc : -9223372036854775808 ≤ dc ∧ dc ≤ 9223372036854775807 := (by omega)
          refine done_l (t_normal (c_seq ?_))
          refine c_true hf rfl ?_
          refine c_skip (t_normal (c_seq (c_block (c_seq (c_region ?_)))))
          refine sR hf hS ((by first | exact rd_indexAddrN hf rfl rfl rfl Tryz.underlying30 sz73 (by omega) | exact rd_indexAddr hf rfl rfl rfl Tryz.underlying30 sz73 (by first | decide | omega) (by omega))) ?_; clear hf; intro a hf
          refine sR hf hS (rd_loadN hf rfl rfl ag73 sz73 (by intro _ h; exact (show AggAt _ _ _ [.int .i64 dn, .int .i64 dc] from (hvm _ (h.subA)).el hget))) ?_; clear hf; intro a hf
          refine sA hf hS zr73 ?_
          clear hf hS; intro b_x a w hf hS
          refine sS hf hS sz73 ?_
          clear hf hS; intro a w hf hS
          refine done_l (t_normal (c_region ?_))
          refine mN hf hS ?_; clear hf; intro a hf
          refine sR hf hS (rd_ldN hf ag73 sz73) ?_; clear hf; intro a hf
          refine step_l (st_call hf (Wn.none rfl) rfl rfl rfl fn75 (MemW_c _ _ _ _ _ (hS.selA) (by first | assumption | exact ⟨by omega, by omega⟩) hEN) rfl rfl ?_)
          clear hf hS; rintro v a w ⟨rfl, hS⟩ hf
          refine done_l (b_normal (t_normal (c_region ?_)))
          refine sP hf hS ?_; clear hf; intro a hf
          refine mN hf hS ?_; clear hf; intro a hf
          refine done_l ?_
          refine t_normal ⟨k + 1, ((hf.backA hk2).kb hf 112 rfl (by first | rfl | exact int_eq (by omega))), ⟨(by rw [flatW_step (map_get pDot hget)]; exact hS.subA), by omega⟩, by first | omega | (simp only []; omega)⟩
         clear hf; intro hc7 a hf
         obtain rfl : k = ms.length := by omega
         rw [flat_done] at hS
         refine done_l (t_normal (c_seq ?_))
         refine c_false hf rfl ?_
         refine c_exit (t_exit (t_exit (b_exit ?_)))
         refine t_normal ⟨(hf.backA hj102), (by rw [hi]; exact hS.subA)⟩
        ·
         intro hc
         have hi := has_f (by decide) hc
         refine c_skip ?_
         refine t_normal ⟨(hf.backA hj102), (by rw [hi]; exact hS.subA)⟩
       ·
        clear hf hS; intro a w hf hS; (try dsimp only [List.cons_append, List.nil_append] at hf)
        refine e_none' hf rfl ?_
        have e : wputs most s (msgW (⟨kd, fr, tn, op, fo, ky, bk, es.map pEnt, ds.map pDig, ms.map pDot⟩ : PMsg)) = (wputs most (wputs most (wputs most (wputs most (wputs most (wputs most (wputs most (wput most (wput most (wput most s (numB kd.toNat)) (numB fr.toNat)) (numB tn.toNat)) (plW (hasP 0 kd) [numB (zz op)])) (plW (hasP 1 kd) [numB fo.toNat])) (plW (hasP 2 kd) [textB ky])) (plW (hasP 3 kd) [numB bk.toNat])) (plW (hasP 4 kd) (numB es.length :: (es.map pEnt).flatMap entW))) (plW (hasP 5 kd) (numB ds.length :: (ds.map pDig).flatMap digW))) (plW (hasP 6 kd) (numB ms.length :: (ms.map pDot).flatMap dotW))) := by unfold msgW; simp only [wputs_append, List.length_map]; rfl
        rw [e]; exact ⟨rfl, hS.subA⟩

theorem Enc_c (kd fr tn op fo : Int) (ky : List UInt8) (bk : Int) (es : List EntT) (qe : Option Addr) (ce : Nat) (ds : List DigT) (qd : Option Addr) (cd : Nat) (ms : List MemT) (qm : Option Addr) (cm : Nat) {W : World} {R : List HP} {w : World} (hS : Sat W (R) w) (hve : ∀ w, Sat W R w → EntsAt w (qe, ce, es)) (hvd : ∀ w, Sat W R w → DigsAt w (qd, cd, ds)) (hvm : ∀ w, Sat W R w → DotsAt w (qm, cm, ms)) (hle : es.length ≤ 9223372036854775806) (hld : ds.length ≤ 9223372036854775806) (hlm : ms.length ≤ 9223372036854775806) : Calls Tryz.prog 25 [.agg #[.int .i64 kd, .int .i64 fr, .int .i64 tn, .int .i64 op, .int .i64 fo, .string (str ky), .int .i64 bk, .slice qe es.length ce, .slice qd ds.length cd, .slice qm ms.length cm]].toArray w (Ret fun v w' => ∃ q cap, v = .tuple #[.slice q (encB (⟨kd, fr, tn, op, fo, ky, bk, es.map pEnt, ds.map pDig, ms.map pDot⟩ : PMsg)).length cap, .int .i64 (encE (⟨kd, fr, tn, op, fo, ky, bk, es.map pEnt, ds.map pDig, ms.map pDot⟩ : PMsg))] ∧ Sat W (Rw 5 1 q (encB (⟨kd, fr, tn, op, fo, ky, bk, es.map pEnt, ds.map pDig, ms.map pDot⟩ : PMsg)).length cap (bvs (encB (⟨kd, fr, tn, op, fo, ky, bk, es.map pEnt, ds.map pDig, ms.map pDot⟩ : PMsg))) :: R) w') := by
 refine fn_start 16 Tryz.func25 rfl rfl rfl ?_
 intro a hf
 refine c_seq (c_region ?_)
 refine step_l (st_box hf (Wn.none rfl) hS rfl rfl (by rfl) rfl rfl ?_)
 clear hf hS; intro b_m a w hf hS
 iterate 2 (refine aN hf hS ?_; clear hf; intro a hf)
 refine done_l (t_normal (c_seq (c_seq (c_region ?_))))
 refine sR hf hS (rd_ldN hf ag32 sz32) ?_; clear hf; intro a hf
 refine step_l (st_call hf (Wn.none rfl) rfl rfl rfl fn39 (May_c _ _ _ _ _ _ _ _ _ _ _ _ _ _ _ _ hS (fun _ h => hve _ (h.subA)) (fun _ h => hvd _ (h.subA)) (fun _ h => hvm _ (h.subA)) (by omega) (by omega) (by omega)) rfl rfl ?_)
 clear hf hS; rintro v a w ⟨rfl, hS⟩ hf
 first | refine split_dec (d := 6) hf rfl ?_ ?_ | refine split_bool (d := 6) hf rfl ?_ ?_
 ·
  clear hf; intro hc2 hf
  have hMM : mayM (⟨kd, fr, tn, op, fo, ky, bk, es.map pEnt, ds.map pDig, ms.map pDot⟩ : PMsg) = true := by first | exact hc2 | exact decide_eq_true hc2
  refine nT hf hS ?_; clear hf; intro a hf
  refine done_l (t_normal ?_)
  refine c_false hf rfl ?_
  refine c_skip (t_normal (c_seq (c_region ?_)))
  refine step_l (st_call hf (Wn.none rfl) rfl rfl rfl fn40 (NewWriter_c _ hS) rfl rfl ?_)
  clear hf hS; rintro v a w ⟨pw, rfl, hS⟩ hf; rw [show max 0 (60000 : Int) = 60000 from rfl] at hS
  refine aN hf hS ?_; clear hf; intro a hf
  refine done_l (t_normal (c_seq (c_region ?_)))
  refine mN hf hS ?_; clear hf; intro a hf
  refine sR hf hS (rd_ldN hf ag32 sz32) ?_; clear hf; intro a hf
  refine step_l (st_call hf (Wn.none rfl) rfl rfl rfl fn41 (MWr_c _ _ _ _ _ _ _ _ _ _ _ _ _ _ _ _ _ _ _  (hS.selA) ⟨by omega, by omega⟩ (fun _ h => hve _ (h.subA)) (fun _ h => hvd _ (h.subA)) (fun _ h => hvm _ (h.subA)) hMM) rfl rfl ?_)
  clear hf hS; rintro v a w ⟨rfl, hS⟩ hf
  refine done_l (t_normal (c_seq (c_region ?_)))
  refine mN hf hS ?_; clear hf; intro a hf
  refine step_l (st_call hf (Wn.none rfl) rfl rfl rfl fn42 (Done_c _ _ _ (hS.selA) (Nat.le_trans (encS_len (⟨kd, fr, tn, op, fo, ky, bk, es.map pEnt, ds.map pDig, ms.map pDot⟩ : PMsg)) (by decide))) rfl rfl ?_)
  clear hf hS; rintro v a w ⟨qd, capd, rfl, hS⟩ hf
  refine sR hf hS (rd_extract hf rfl rfl rfl) ?_; clear hf; intro a hf
  refine sR hf hS (rd_extract hf rfl rfl rfl) ?_; clear hf; intro a hf
  iterate 2 (refine aN hf hS ?_; clear hf; intro a hf)
  refine done_l (t_normal (c_ret ?_))
  refine e_resN hf.defers rfl (res_tmp hf rfl (res_tmp hf rfl .nil)) ?_
  rw [encB_yes hMM, encE_yes hMM]; exact ⟨_, _, rfl, hS.subA⟩
 clear hf; intro hc2 hf
 have hMM : mayM (⟨kd, fr, tn, op, fo, ky, bk, es.map pEnt, ds.map pDig, ms.map pDot⟩ : PMsg) = false := by first | exact hc2 | exact decide_eq_false hc2
 refine nT hf hS ?_; clear hf; intro a hf
 refine done_l (t_normal ?_)
 refine c_true hf rfl ?_
 refine c_seq (c_region ?_)
 iterate 2 (refine aN hf hS ?_; clear hf; intro a hf)
 refine done_l (t_normal (c_ret (t_ret ?_)))
 refine e_resN hf.defers rfl (res_tmp hf rfl (res_tmp hf rfl .nil)) ?_
 rw [encB_no hMM, encE_no hMM]; exact ⟨none, 0, rfl, (hS.rwNil 5 1).subA⟩

end Go.Proofs.YtcflbdpjoanbgaaGreat
