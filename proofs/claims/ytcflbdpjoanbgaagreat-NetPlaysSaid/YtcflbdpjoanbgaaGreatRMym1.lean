/-
  Walked: Mym.
  Conditions: none.
-/
import Derived.Test.YtcflbdpjoanbgaaGreatRPla1
namespace Go.Proofs.YtcflbdpjoanbgaaGreat
open Go Go.Sl
set_option linter.unusedVariables false
set_option linter.unusedSimpArgs false

set_option maxRecDepth 100000 in
set_option maxHeartbeats 4000000 in
theorem RMay_c (kd fr tn op fo : Int) (ky : List UInt8) (bk : Int) (es : List EntT) (qe : Option Addr) (ce : Nat) (ds : List DigT) (qd : Option Addr) (cd : Nat) (ms : List MemT) (qm : Option Addr) (cm : Nat) {W : World} {R : List HP} {w : World} (hS : Sat W (R) w) (hve : ∀ w, Sat W R w → EntsAt w (qe, ce, es)) (hvd : ∀ w, Sat W R w → DigsAt w (qd, cd, ds)) (hvm : ∀ w, Sat W R w → DotsAt w (qm, cm, ms)) (hle : es.length ≤ 9223372036854775806) (hld : ds.length ≤ 9223372036854775806) (hlm : ms.length ≤ 9223372036854775806) : Calls Tryz.prog 18 [.agg #[.int .i64 kd, .int .i64 fr, .int .i64 tn, .int .i64 op, .int .i64 fo, .string (str ky), .int .i64 bk, .slice qe es.length ce, .slice qd ds.length cd, .slice qm ms.length cm]].toArray w (Ret fun v w' => v = .bool (mayM (⟨kd, fr, tn, op, fo, ky, bk, es.map pEnt, ds.map pDig, ms.map pDot⟩ : PMsg)) ∧ Sat W R w') := by
 refine fn_start 146 Tryz.func18 rfl rfl rfl ?_
 intro a hf
 refine c_seq (c_region ?_)
 refine step_l (st_box hf (Wn.none rfl) hS rfl rfl (by rfl) rfl rfl ?_)
 clear hf hS; intro b_m a w hf hS
 refine aN hf hS ?_; clear hf; intro a hf
 refine done_l (t_normal (c_seq (c_region ?_)))
 refine fA hf hS fb32_0 ?_; clear hf; intro a hf
 refine sR hf hS (rd_ld hf ag3) ?_; clear hf; intro a hf
 refine step_l (st_call hf (Wn.none rfl) rfl rfl rfl fn19 (Has_c _ hS) rfl rfl ?_)
 clear hf hS; rintro v a w ⟨rfl, hS⟩ hf
 refine aN hf hS ?_; clear hf; intro a hf
 refine done_l (t_normal (c_seq (c_seq (c_region ?_))))
 refine mN hf hS ?_; clear hf; intro a hf
 refine sB hf hS (rd_eql hf rfl rfl rfl) ?_ ?_
 ·
  clear hf; intro hc2 a hf
  iterate 12 ((first | refine kS hf ?_ | refine mN hf hS ?_ | refine pT hf hS ?_); clear hf; intro a hf)
  refine done_l (t_normal ?_)
  refine c_true hf rfl ?_
  refine c_seq (c_region ?_)
  refine aN hf hS ?_; clear hf; intro a hf
  refine done_l (t_normal (c_ret (t_ret ?_)))
  refine eT hf ?_
  refine ⟨congrArg Value.bool (mayM_no rfl ?_).symm, hS.subA⟩; clear hf hS; rintro ⟨h1, h2, h3, _⟩; dsimp only [plP] at h1 h2 h3; omega
 clear hf; intro hc2 a hf
 refine mN hf hS ?_; clear hf; intro a hf
 refine fG hf hS fb32_1 ?_; clear hf; intro a hf
 refine sG hf hS (rd_ld hf ag3) ?_; clear hf; intro a hf
 refine step_l (st_call hf (Wn.some hf rfl rfl rfl rfl) rfl rfl rfl fn31 (Node_c _ hS) rfl rfl ?_)
 clear hf hS; rintro v a w ⟨rfl, hS⟩ hf
 first | refine split_dec (d := 19) hf rfl ?_ ?_ | refine split_bool (d := 19) hf rfl ?_ ?_
 ·
  clear hf; intro hc3 hf
  refine sG hf hS (rd_not hf rfl rfl) ?_; clear hf; intro a hf
  iterate 2 ((first | refine mN hf hS ?_ | refine pF hf hS ?_); clear hf; intro a hf)
  refine fG hf hS fb32_2 ?_; clear hf; intro a hf
  refine sG hf hS (rd_ld hf ag3) ?_; clear hf; intro a hf
  refine step_l (st_call hf (Wn.some hf rfl rfl rfl rfl) rfl rfl rfl fn31 (Node_c _ hS) rfl rfl ?_)
  clear hf hS; rintro v a w ⟨rfl, hS⟩ hf
  first | refine split_dec (d := 25) hf rfl ?_ ?_ | refine split_bool (d := 25) hf rfl ?_ ?_
  ·
   clear hf; intro hc4 hf
   refine sG hf hS (rd_not hf rfl rfl) ?_; clear hf; intro a hf
   refine pF hf hS ?_; clear hf; intro a hf
   refine done_l (t_normal ?_)
   refine c_false hf rfl ?_
   refine c_skip (t_normal (c_seq (c_region ?_)))
   refine sR hf hS (rd_ldN hf ag32 sz32) ?_; clear hf; intro a hf
   refine step_l (st_call hf (Wn.none rfl) rfl rfl rfl fn7 (RPlain_c _ _ _ _ _ _ _ _ _ _ _ _ _ _ _ _ hS) rfl rfl ?_)
   clear hf hS; rintro v a w ⟨rfl, hS⟩ hf; obtain ⟨op', hop⟩ : ∃ x, plI (hasP 0 kd) op = x := ⟨_, rfl⟩; obtain ⟨fo', hfo⟩ : ∃ x, plI (hasP 1 kd) fo = x := ⟨_, rfl⟩; obtain ⟨ky', hky⟩ : ∃ x, plB (hasP 2 kd) ky = x := ⟨_, rfl⟩; obtain ⟨bk', hbk⟩ : ∃ x, plI (hasP 3 kd) bk = x := ⟨_, rfl⟩; obtain ⟨⟨qe', ce', es'⟩, hes⟩ : ∃ x, plS (hasP 4 kd) (qe, ce, es) = x := ⟨_, rfl⟩; obtain ⟨⟨qd', cd', ds'⟩, hds⟩ : ∃ x, plS (hasP 5 kd) (qd, cd, ds) = x := ⟨_, rfl⟩; obtain ⟨⟨qm', cm', ms'⟩, hms⟩ : ∃ x, plS (hasP 6 kd) (qm, cm, ms) = x := ⟨_, rfl⟩; have hpl := plP_eq (fr := fr) (tn := tn) hop hfo hky hbk hes hds hms; rw [hop, hfo, hky, hbk, hes, hds, hms] at hf; dsimp only [slv] at hf; dsimp only at hpl; have hve' : ∀ w, Sat W R w → EntsAt w (qe', ce', es') := (by intro w h; rw [← hes]; exact plS_at (hve w h) (EntsAt.nil w)); have hvd' : ∀ w, Sat W R w → DigsAt w (qd', cd', ds') := (by intro w h; rw [← hds]; exact plS_at (hvd w h) (DigsAt.nil w)); have hvm' : ∀ w, Sat W R w → DotsAt w (qm', cm', ms') := (by intro w h; rw [← hms]; exact plS_at (hvm w h) (DotsAt.nil w)); have hE0 : hasP 4 kd = false → es'.length = 0 := plS_len0 hes; have hle' := plS_len hes; have hld' := plS_len hds; have hlm' := plS_len hms; dsimp only at hle' hld' hlm'
   refine sS hf hS sz32 ?_
   clear hf hS; intro a w hf hS
   refine done_l (t_normal (c_seq (c_region ?_)))
   refine aN hf hS ?_; clear hf; intro a hf
   refine done_l (t_normal (c_seq ?_))
   have hq6 := Keep.ofA hf [(4, 4), (30, 42)]
   replace hf := ((hf.keep hq6).kb hf 4 rfl rfl)
   refine c_joinK (n := 146) hq6 [(4, .int .i64 (mostP kd))] (fun w => Sat W (Blk b_m [.int .i64 kd, .int .i64 fr, .int .i64 tn, .int .i64 op', .int .i64 fo', .string (str ky'), .int .i64 bk', .slice qe' es'.length ce', .slice qd' ds'.length cd', .slice qm' ms'.length cm'] 32 :: R) w) ?_ ?_
   ·
    skip
    refine c_seq (c_region ?_)
    refine fA hf hS fb32_0 ?_; clear hf; intro a hf
    refine sR hf hS (rd_ld hf ag3) ?_; clear hf; intro a hf
    refine sB hf hS (rd_eql hf rfl rfl rfl) ?_ ?_
    ·
     clear hf; intro hc5 a hf
     iterate 10 ((first | refine kS hf ?_ | refine mN hf hS ?_ | refine pT hf hS ?_); clear hf; intro a hf)
     refine done_l (t_normal ?_)
     refine c_true hf rfl ?_
     refine c_region ?_
     refine aN hf hS ?_; clear hf; intro a hf
     refine done_l ?_
     refine t_normal ⟨((hf.backA hq6).kb hf 4 rfl (by exact int_eq (by unfold mostP; first | exact (if_pos (by omega)).symm | exact (if_neg (by omega)).symm))), hS.subA⟩
    clear hf; intro hc5 a hf
    refine mN hf hS ?_; clear hf; intro a hf
    refine fG hf hS fb32_0 ?_; clear hf; intro a hf
    refine sG hf hS (rd_ld hf ag3) ?_; clear hf; intro a hf
    refine step_l (st_rdB hf (Wn.some hf rfl rfl rfl rfl) (rd_eql hf rfl rfl rfl) hS rfl rfl ?_ ?_)
    ·
     clear hf; intro hc6 a hf
     iterate 6 ((first | refine kS hf ?_ | refine mN hf hS ?_ | refine pT hf hS ?_ | refine pF hf hS ?_); clear hf; intro a hf)
     refine done_l (t_normal ?_)
     refine c_true hf rfl ?_
     refine c_region ?_
     refine aN hf hS ?_; clear hf; intro a hf
     refine done_l ?_
     refine t_normal ⟨((hf.backA hq6).kb hf 4 rfl (by exact int_eq (by unfold mostP; first | exact (if_pos (by omega)).symm | exact (if_neg (by omega)).symm))), hS.subA⟩
    clear hf; intro hc6 a hf
    iterate 2 ((first | refine mN hf hS ?_ | refine pF hf hS ?_); clear hf; intro a hf)
    refine fG hf hS fb32_0 ?_; clear hf; intro a hf
    refine sG hf hS (rd_ld hf ag3) ?_; clear hf; intro a hf
    refine step_l (st_rdB hf (Wn.some hf rfl rfl rfl rfl) (rd_eql hf rfl rfl rfl) hS rfl rfl ?_ ?_)
    ·
     clear hf; intro hc7 a hf
     refine pF hf hS ?_; clear hf; intro a hf
     refine done_l (t_normal ?_)
     refine c_true hf rfl ?_
     refine c_region ?_
     refine aN hf hS ?_; clear hf; intro a hf
     refine done_l ?_
     refine t_normal ⟨((hf.backA hq6).kb hf 4 rfl (by exact int_eq (by unfold mostP; first | exact (if_pos (by omega)).symm | exact (if_neg (by omega)).symm))), hS.subA⟩
    clear hf; intro hc7 a hf
    refine pF hf hS ?_; clear hf; intro a hf
    refine done_l (t_normal ?_)
    refine c_false hf rfl ?_
    refine c_skip ?_
    refine t_normal ⟨((hf.backA hq6).kb hf 4 rfl (by exact int_eq (by unfold mostP; first | exact (if_pos (by omega)).symm | exact (if_neg (by omega)).symm))), hS.subA⟩
   ·
    clear hf hS; intro a w hf hS; (try dsimp only [List.cons_append, List.nil_append] at hf)
    refine t_normal (c_seq (c_seq (c_region ?_)))
    refine fA hf hS fb32_3 ?_; clear hf; intro a hf
    refine sR hf hS (rd_ld hf ag2) ?_; clear hf; intro a hf
    refine sB hf hS (rd_lss hf rfl rfl rfl) ?_ ?_
    ·
     clear hf; intro hc8 a hf
     iterate 67 ((first | refine kS hf ?_ | refine kU hf ?_ | refine mN hf hS ?_ | refine pT hf hS ?_); clear hf; intro a hf)
     refine done_l (t_normal ?_)
     refine c_true hf rfl ?_
     refine c_seq (c_region ?_)
     refine aN hf hS ?_; clear hf; intro a hf
     refine done_l (t_normal (c_ret (t_ret ?_)))
     refine eT hf ?_
     refine ⟨congrArg Value.bool (mayM_no hpl ?_).symm, hS.subA⟩; clear hf hS; rintro ⟨h1, h2, h3, h4, h5, h6, h7, h8, h9, h10, h11⟩; dsimp only at h1 h2 h3 h4 h5 h6 h7 h8 h9 h10 h11; simp only [List.length_map] at h9 h10 h11; first | omega | (have h8' := h8 (by omega); omega) | (have h9' := h9 (by assumption); omega) | (cases hh : hasP 4 kd with | true => (have h9' := h9 hh; omega) | false => (have h0 := hE0 hh; have := mostP_pos kd; omega)) | (have h9' := h9 (by rw [show kd = 3 by omega]; rfl); have e1 : leastP kd = 1 := if_pos (by omega); have e2 : mostP kd = 1 := if_pos (by omega); omega)
    clear hf; intro hc8 a hf
    refine mN hf hS ?_; clear hf; intro a hf
    refine fG hf hS fb32_3 ?_; clear hf; intro a hf
    refine sG hf hS (rd_ld hf ag2) ?_; clear hf; intro a hf
    refine step_l (st_rdB hf (Wn.some hf rfl rfl rfl rfl) (rd_gtr hf rfl rfl rfl) hS rfl rfl ?_ ?_)
    ·
     clear hf; intro hc9 a hf
     iterate 63 ((first | refine kS hf ?_ | refine kU hf ?_ | refine mN hf hS ?_ | refine pT hf hS ?_ | refine pF hf hS ?_); clear hf; intro a hf)
     refine done_l (t_normal ?_)
     refine c_true hf rfl ?_
     refine c_seq (c_region ?_)
     refine aN hf hS ?_; clear hf; intro a hf
     refine done_l (t_normal (c_ret (t_ret ?_)))
     refine eT hf ?_
     refine ⟨congrArg Value.bool (mayM_no hpl ?_).symm, hS.subA⟩; clear hf hS; rintro ⟨h1, h2, h3, h4, h5, h6, h7, h8, h9, h10, h11⟩; dsimp only at h1 h2 h3 h4 h5 h6 h7 h8 h9 h10 h11; simp only [List.length_map] at h9 h10 h11; first | omega | (have h8' := h8 (by omega); omega) | (have h9' := h9 (by assumption); omega) | (cases hh : hasP 4 kd with | true => (have h9' := h9 hh; omega) | false => (have h0 := hE0 hh; have := mostP_pos kd; omega)) | (have h9' := h9 (by rw [show kd = 3 by omega]; rfl); have e1 : leastP kd = 1 := if_pos (by omega); have e2 : mostP kd = 1 := if_pos (by omega); omega)
    clear hf; intro hc9 a hf
    iterate 2 ((first | refine mN hf hS ?_ | refine pF hf hS ?_); clear hf; intro a hf)
    refine fG hf hS fb32_4 ?_; clear hf; intro a hf
    refine sG hf hS (rd_ld hf ag3) ?_; clear hf; intro a hf
    refine step_l (st_call hf (Wn.some hf rfl rfl rfl rfl) rfl rfl rfl fn31 (Node_c _ hS) rfl rfl ?_)
    clear hf hS; rintro v a w ⟨rfl, hS⟩ hf
    first | refine split_dec (d := 54) hf rfl ?_ ?_ | refine split_bool (d := 54) hf rfl ?_ ?_
    ·
     clear hf; intro hc10 hf
     refine sG hf hS (rd_not hf rfl rfl) ?_; clear hf; intro a hf
     iterate 2 ((first | refine mN hf hS ?_ | refine pF hf hS ?_); clear hf; intro a hf)
     refine fG hf hS fb32_5 ?_; clear hf; intro a hf
     refine sG hf hS (rd_ld hf ag9) ?_; clear hf; intro a hf
     refine sG hf hS (rd_lenS hf rfl rfl Tryz.underlying9) ?_; clear hf; intro a hf
     refine step_l (st_rdB hf (Wn.some hf rfl rfl rfl rfl) (rd_gtr hf rfl rfl rfl) hS rfl rfl ?_ ?_)
     ·
      clear hf; intro hc11 a hf
      iterate 51 ((first | refine kS hf ?_ | refine kU hf ?_ | refine mN hf hS ?_ | refine pT hf hS ?_ | refine pF hf hS ?_); clear hf; intro a hf)
      refine done_l (t_normal ?_)
      refine c_true hf rfl ?_
      refine c_seq (c_region ?_)
      refine aN hf hS ?_; clear hf; intro a hf
      refine done_l (t_normal (c_ret (t_ret ?_)))
      refine eT hf ?_
      refine ⟨congrArg Value.bool (mayM_no hpl ?_).symm, hS.subA⟩; clear hf hS; rintro ⟨h1, h2, h3, h4, h5, h6, h7, h8, h9, h10, h11⟩; dsimp only at h1 h2 h3 h4 h5 h6 h7 h8 h9 h10 h11; simp only [List.length_map] at h9 h10 h11; first | omega | (have h8' := h8 (by omega); omega) | (have h9' := h9 (by assumption); omega) | (cases hh : hasP 4 kd with | true => (have h9' := h9 hh; omega) | false => (have h0 := hE0 hh; have := mostP_pos kd; omega)) | (have h9' := h9 (by rw [show kd = 3 by omega]; rfl); have e1 : leastP kd = 1 := if_pos (by omega); have e2 : mostP kd = 1 := if_pos (by omega); omega)
     clear hf; intro hc11 a hf
     iterate 2 ((first | refine mN hf hS ?_ | refine pF hf hS ?_); clear hf; intro a hf)
     refine fG hf hS fb32_0 ?_; clear hf; intro a hf
     refine sG hf hS (rd_ld hf ag3) ?_; clear hf; intro a hf
     refine step_l (st_rdB hf (Wn.some hf rfl rfl rfl rfl) (rd_eql hf rfl rfl rfl) hS rfl rfl ?_ ?_)
     ·
      clear hf; intro hc12 a hf
      refine sG hf hS (rd_move hf rfl rfl) ?_; clear hf; intro a hf
      refine fG hf hS fb32_5 ?_; clear hf; intro a hf
      refine sG hf hS (rd_ld hf ag9) ?_; clear hf; intro a hf
      refine step_l (st_rdB hf (Wn.some hf rfl rfl rfl rfl) (rd_eqlS hf rfl rfl rfl) hS rfl rfl ?_ ?_)
      ·
       clear hf; intro hc13 a hf
       have hky0 : ky'.length = 0 := by rw [hc13]; rfl
       iterate 42 ((first | refine kS hf ?_ | refine kU hf ?_ | refine mN hf hS ?_ | refine pT hf hS ?_ | refine step_l (st_rd hf (Wn.some hf rfl rfl rfl rfl) (rd_pick_t hf rfl rfl rfl) hS rfl rfl ?_) | refine pF hf hS ?_); clear hf; intro a hf)
       refine done_l (t_normal ?_)
       refine c_true hf rfl ?_
       refine c_seq (c_region ?_)
       refine aN hf hS ?_; clear hf; intro a hf
       refine done_l (t_normal (c_ret (t_ret ?_)))
       refine eT hf ?_
       refine ⟨congrArg Value.bool (mayM_no hpl ?_).symm, hS.subA⟩; clear hf hS; rintro ⟨h1, h2, h3, h4, h5, h6, h7, h8, h9, h10, h11⟩; dsimp only at h1 h2 h3 h4 h5 h6 h7 h8 h9 h10 h11; simp only [List.length_map] at h9 h10 h11; first | omega | (have h8' := h8 (by omega); omega) | (have h9' := h9 (by assumption); omega) | (cases hh : hasP 4 kd with | true => (have h9' := h9 hh; omega) | false => (have h0 := hE0 hh; have := mostP_pos kd; omega)) | (have h9' := h9 (by rw [show kd = 3 by omega]; rfl); have e1 : leastP kd = 1 := if_pos (by omega); have e2 : mostP kd = 1 := if_pos (by omega); omega)
      clear hf; intro hc13 a hf
      have hkyn : ky'.length ≠ 0 := fun h => hc13 (List.eq_nil_of_length_eq_zero h)
      iterate 3 ((first | refine mN hf hS ?_ | refine step_l (st_rd hf (Wn.some hf rfl rfl rfl rfl) (rd_pick_t hf rfl rfl rfl) hS rfl rfl ?_) | refine pF hf hS ?_); clear hf; intro a hf)
      refine fG hf hS fb32_6 ?_; clear hf; intro a hf
      refine sG hf hS (rd_ld hf ag3) ?_; clear hf; intro a hf
      refine step_l (st_rdB hf (Wn.some hf rfl rfl rfl rfl) (rd_lss hf rfl rfl rfl) hS rfl rfl ?_ ?_)
      ·
       clear hf; intro hc14 a hf
       iterate 36 ((first | refine kS hf ?_ | refine kU hf ?_ | refine mN hf hS ?_ | refine pT hf hS ?_ | refine pF hf hS ?_); clear hf; intro a hf)
       refine done_l (t_normal ?_)
       refine c_true hf rfl ?_
       refine c_seq (c_region ?_)
       refine aN hf hS ?_; clear hf; intro a hf
       refine done_l (t_normal (c_ret (t_ret ?_)))
       refine eT hf ?_
       refine ⟨congrArg Value.bool (mayM_no hpl ?_).symm, hS.subA⟩; clear hf hS; rintro ⟨h1, h2, h3, h4, h5, h6, h7, h8, h9, h10, h11⟩; dsimp only at h1 h2 h3 h4 h5 h6 h7 h8 h9 h10 h11; simp only [List.length_map] at h9 h10 h11; first | omega | (have h8' := h8 (by omega); omega) | (have h9' := h9 (by assumption); omega) | (cases hh : hasP 4 kd with | true => (have h9' := h9 hh; omega) | false => (have h0 := hE0 hh; have := mostP_pos kd; omega)) | (have h9' := h9 (by rw [show kd = 3 by omega]; rfl); have e1 : leastP kd = 1 := if_pos (by omega); have e2 : mostP kd = 1 := if_pos (by omega); omega)
      clear hf; intro hc14 a hf
      iterate 2 ((first | refine mN hf hS ?_ | refine pF hf hS ?_); clear hf; intro a hf)
      refine fG hf hS fb32_6 ?_; clear hf; intro a hf
      refine sG hf hS (rd_ld hf ag3) ?_; clear hf; intro a hf
      refine step_l (st_rdB hf (Wn.some hf rfl rfl rfl rfl) (rd_geq hf rfl rfl rfl) hS rfl rfl ?_ ?_)
      ·
       clear hf; intro hc15 a hf
       iterate 31 ((first | refine kS hf ?_ | refine kU hf ?_ | refine mN hf hS ?_ | refine pT hf hS ?_ | refine pF hf hS ?_); clear hf; intro a hf)
       refine done_l (t_normal ?_)
       refine c_true hf rfl ?_
       refine c_seq (c_region ?_)
       refine aN hf hS ?_; clear hf; intro a hf
       refine done_l (t_normal (c_ret (t_ret ?_)))
       refine eT hf ?_
       refine ⟨congrArg Value.bool (mayM_no hpl ?_).symm, hS.subA⟩; clear hf hS; rintro ⟨h1, h2, h3, h4, h5, h6, h7, h8, h9, h10, h11⟩; dsimp only at h1 h2 h3 h4 h5 h6 h7 h8 h9 h10 h11; simp only [List.length_map] at h9 h10 h11; first | omega | (have h8' := h8 (by omega); omega) | (have h9' := h9 (by assumption); omega) | (cases hh : hasP 4 kd with | true => (have h9' := h9 hh; omega) | false => (have h0 := hE0 hh; have := mostP_pos kd; omega)) | (have h9' := h9 (by rw [show kd = 3 by omega]; rfl); have e1 : leastP kd = 1 := if_pos (by omega); have e2 : mostP kd = 1 := if_pos (by omega); omega)
      clear hf; intro hc15 a hf
      iterate 2 ((first | refine mN hf hS ?_ | refine pF hf hS ?_); clear hf; intro a hf)
      refine fG hf hS fb32_7 ?_; clear hf; intro a hf
      refine sG hf hS (rd_ld hf ag28) ?_; clear hf; intro a hf
      refine sG hf hS (rd_len hf rfl rfl Tryz.underlying28) ?_; clear hf; intro a hf
      refine sG hf hS (rd_move hf rfl rfl) ?_; clear hf; intro a hf
      refine step_l (st_rdB hf (Wn.some hf rfl rfl rfl rfl) (rd_gtr hf rfl rfl rfl) hS rfl rfl ?_ ?_)
      ·
       clear hf; intro hc16 a hf
       iterate 24 ((first | refine kS hf ?_ | refine kU hf ?_ | refine mN hf hS ?_ | refine pT hf hS ?_ | refine pF hf hS ?_); clear hf; intro a hf)
       refine done_l (t_normal ?_)
       refine c_true hf rfl ?_
       refine c_seq (c_region ?_)
       refine aN hf hS ?_; clear hf; intro a hf
       refine done_l (t_normal (c_ret (t_ret ?_)))
       refine eT hf ?_
       refine ⟨congrArg Value.bool (mayM_no hpl ?_).symm, hS.subA⟩; clear hf hS; rintro ⟨h1, h2, h3, h4, h5, h6, h7, h8, h9, h10, h11⟩; dsimp only at h1 h2 h3 h4 h5 h6 h7 h8 h9 h10 h11; simp only [List.length_map] at h9 h10 h11; first | omega | (have h8' := h8 (by omega); omega) | (have h9' := h9 (by assumption); omega) | (cases hh : hasP 4 kd with | true => (have h9' := h9 hh; omega) | false => (have h0 := hE0 hh; have := mostP_pos kd; omega)) | (have h9' := h9 (by rw [show kd = 3 by omega]; rfl); have e1 : leastP kd = 1 := if_pos (by omega); have e2 : mostP kd = 1 := if_pos (by omega); omega)
      clear hf; intro hc16 a hf
      iterate 2 ((first | refine mN hf hS ?_ | refine pF hf hS ?_); clear hf; intro a hf)
      refine fG hf hS fb32_0 ?_; clear hf; intro a hf
      refine sG hf hS (rd_ld hf ag3) ?_; clear hf; intro a hf
      refine step_l (st_rdB hf (Wn.some hf rfl rfl rfl rfl) (rd_eql hf rfl rfl rfl) hS rfl rfl ?_ ?_)
      ·
       clear hf; intro hc17 a hf
       refine sG hf hS (rd_move hf rfl rfl) ?_; clear hf; intro a hf
       refine fG hf hS fb32_7 ?_; clear hf; intro a hf
       refine sG hf hS (rd_ld hf ag28) ?_; clear hf; intro a hf
       refine sG hf hS (rd_len hf rfl rfl Tryz.underlying28) ?_; clear hf; intro a hf
       refine step_l (st_rdB hf (Wn.some hf rfl rfl rfl rfl) (rd_neq hf rfl rfl rfl) hS rfl rfl ?_ ?_)
       ·
        clear hf; intro hc18 a hf
        iterate 14 ((first | refine kS hf ?_ | refine mN hf hS ?_ | refine pT hf hS ?_ | refine step_l (st_rd hf (Wn.some hf rfl rfl rfl rfl) (rd_pick_t hf rfl rfl rfl) hS rfl rfl ?_) | refine pF hf hS ?_); clear hf; intro a hf)
        refine done_l (t_normal ?_)
        refine c_true hf rfl ?_
        refine c_seq (c_region ?_)
        refine aN hf hS ?_; clear hf; intro a hf
        refine done_l (t_normal (c_ret (t_ret ?_)))
        refine eT hf ?_
        refine ⟨congrArg Value.bool (mayM_no hpl ?_).symm, hS.subA⟩; clear hf hS; rintro ⟨h1, h2, h3, h4, h5, h6, h7, h8, h9, h10, h11⟩; dsimp only at h1 h2 h3 h4 h5 h6 h7 h8 h9 h10 h11; simp only [List.length_map] at h9 h10 h11; first | omega | (have h8' := h8 (by omega); omega) | (have h9' := h9 (by assumption); omega) | (cases hh : hasP 4 kd with | true => (have h9' := h9 hh; omega) | false => (have h0 := hE0 hh; have := mostP_pos kd; omega)) | (have h9' := h9 (by rw [show kd = 3 by omega]; rfl); have e1 : leastP kd = 1 := if_pos (by omega); have e2 : mostP kd = 1 := if_pos (by omega); omega)
       clear hf; intro hc18 a hf
       iterate 3 ((first | refine mN hf hS ?_ | refine step_l (st_rd hf (Wn.some hf rfl rfl rfl rfl) (rd_pick_t hf rfl rfl rfl) hS rfl rfl ?_) | refine pF hf hS ?_); clear hf; intro a hf)
       refine fG hf hS fb32_8 ?_; clear hf; intro a hf
       refine sG hf hS (rd_ld hf ag29) ?_; clear hf; intro a hf
       refine sG hf hS (rd_len hf rfl rfl Tryz.underlying29) ?_; clear hf; intro a hf
       refine step_l (st_rdB hf (Wn.some hf rfl rfl rfl rfl) (rd_gtr hf rfl rfl rfl) hS rfl rfl ?_ ?_)
       ·
        clear hf; intro hc19 a hf
        iterate 7 ((first | refine kS hf ?_ | refine mN hf hS ?_ | refine pT hf hS ?_ | refine pF hf hS ?_); clear hf; intro a hf)
        refine done_l (t_normal ?_)
        refine c_true hf rfl ?_
        refine c_seq (c_region ?_)
        refine aN hf hS ?_; clear hf; intro a hf
        refine done_l (t_normal (c_ret (t_ret ?_)))
        refine eT hf ?_
        refine ⟨congrArg Value.bool (mayM_no hpl ?_).symm, hS.subA⟩; clear hf hS; rintro ⟨h1, h2, h3, h4, h5, h6, h7, h8, h9, h10, h11⟩; dsimp only at h1 h2 h3 h4 h5 h6 h7 h8 h9 h10 h11; simp only [List.length_map] at h9 h10 h11; first | omega | (have h8' := h8 (by omega); omega) | (have h9' := h9 (by assumption); omega) | (cases hh : hasP 4 kd with | true => (have h9' := h9 hh; omega) | false => (have h0 := hE0 hh; have := mostP_pos kd; omega)) | (have h9' := h9 (by rw [show kd = 3 by omega]; rfl); have e1 : leastP kd = 1 := if_pos (by omega); have e2 : mostP kd = 1 := if_pos (by omega); omega)
       clear hf; intro hc19 a hf
       iterate 2 ((first | refine mN hf hS ?_ | refine pF hf hS ?_); clear hf; intro a hf)
       refine fG hf hS fb32_9 ?_; clear hf; intro a hf
       refine sG hf hS (rd_ld hf ag30) ?_; clear hf; intro a hf
       refine sG hf hS (rd_len hf rfl rfl Tryz.underlying30) ?_; clear hf; intro a hf
       refine step_l (st_rdB hf (Wn.some hf rfl rfl rfl rfl) (rd_gtr hf rfl rfl rfl) hS rfl rfl ?_ ?_)
       ·
        clear hf; intro hc20 a hf
        refine pF hf hS ?_; clear hf; intro a hf
        refine done_l (t_normal ?_)
        refine c_true hf rfl ?_
        refine c_seq (c_region ?_)
        refine aN hf hS ?_; clear hf; intro a hf
        refine done_l (t_normal (c_ret (t_ret ?_)))
        refine eT hf ?_
        refine ⟨congrArg Value.bool (mayM_no hpl ?_).symm, hS.subA⟩; clear hf hS; rintro ⟨h1, h2, h3, h4, h5, h6, h7, h8, h9, h10, h11⟩; dsimp only at h1 h2 h3 h4 h5 h6 h7 h8 h9 h10 h11; simp only [List.length_map] at h9 h10 h11; first | omega | (have h8' := h8 (by omega); omega) | (have h9' := h9 (by assumption); omega) | (cases hh : hasP 4 kd with | true => (have h9' := h9 hh; omega) | false => (have h0 := hE0 hh; have := mostP_pos kd; omega)) | (have h9' := h9 (by rw [show kd = 3 by omega]; rfl); have e1 : leastP kd = 1 := if_pos (by omega); have e2 : mostP kd = 1 := if_pos (by omega); omega)
       clear hf; intro hc20 a hf
       refine pF hf hS ?_; clear hf; intro a hf
       refine done_l (t_normal ?_)
       refine c_false hf rfl ?_
       refine c_skip (t_normal (c_seq (c_seq ?_)))
       have hokm : okM (⟨kd, fr, tn, op', fo', ky', bk', es'.map pEnt, ds'.map pDig, ms'.map pDot⟩ : PMsg) := by
        unfold okM; dsimp only; simp only [List.length_map]
        refine ⟨by omega, by omega, by omega, by omega, by omega, by omega, by omega, fun h4 => by omega, fun h9 => by first | omega | (have e1 : leastP kd ≤ es'.length := (by unfold leastP; split <;> omega); omega), by omega, by omega⟩
       refine c_region ?_
       refine fA hf hS fb32_7 ?_; clear hf; intro a hf
       refine sR hf hS (rd_ld hf ag28) ?_; clear hf; intro a hf
       refine sR hf hS (rd_len hf rfl rfl Tryz.underlying28) ?_; clear hf; intro a hf
       refine mN hf hS ?_; clear hf; intro a hf
       refine done_l (t_normal (c_block ?_))
       have hk0 := Keep.ofA hf [(2, 2), (6, 6), (116, 123)]
       refine c_loopK hk0 (α := Nat) (fun k => [(116, .int .i64 (k : Nat))]) (fun k w => Sat W (Blk b_m [.int .i64 kd, .int .i64 fr, .int .i64 tn, .int .i64 op', .int .i64 fo', .string (str ky'), .int .i64 bk', .slice qe' es'.length ce', .slice qd' ds'.length cd', .slice qm' ms'.length cm'] 32 :: R) w ∧ k ≤ es'.length ∧ ((es'.map pEnt).take k).all mayEnt = true) (fun k => es'.length - k) 0 ((hf.keep hk0).kb hf 116 rfl (by first | rfl | exact int_eq (by omega))) ⟨hS.subA, ⟨by omega, rfl⟩⟩ ?_
       clear hf hS; rintro k a w hf ⟨hS, ⟨hk, hok⟩⟩; (try dsimp only [List.cons_append, List.nil_append] at hf)
       refine c_seq (c_region ?_)
       refine sB hf hS (rd_lss hf rfl rfl rfl) ?_ ?_
       ·
        clear hf; intro hc21 a hf
        obtain ⟨x, hget⟩ := get_of_lt (l := es') (k := k) (by omega) rfl; obtain ⟨ad, rfl⟩ := (hve' _ (hS.subA)).some (by omega); have h8 := ((hve' _ (hS.subA)).in hget).1; have hvx := fun w h => ((hve' w h).in hget).2; obtain ⟨ky, ⟨seen, ⟨xq, xc, xs⟩, _⟩, _⟩ := x; obtain ⟨s0, s1, s2, s3, s4, s5, s6, s7, rfl⟩ := len8 h8
        refine done_l (t_normal (c_seq ?_))
        refine c_true hf rfl ?_
        refine c_skip (t_normal (c_seq (c_block (c_seq (c_region ?_)))))
        refine sR hf hS ((by first | exact rd_indexAddrN hf rfl rfl rfl Tryz.underlying28 sz58 (by omega) | exact rd_indexAddr hf rfl rfl rfl Tryz.underlying28 sz58 (by first | decide | omega) (by omega))) ?_; clear hf; intro a hf
        refine sR hf hS (rd_loadN hf rfl rfl ag58 sz58 (by intro _ h; exact (show AggAt _ _ _ [.string (str ky), .int .i64 s0, .int .i64 s1, .int .i64 s2, .int .i64 s3, .int .i64 s4, .int .i64 s5, .int .i64 s6, .int .i64 s7, .slice xq xs.length xc] from (hve' _ (h.subA)).el hget))) ?_; clear hf; intro a hf
        refine sA hf hS zr58 ?_
        clear hf hS; intro b_e a w hf hS
        refine sS hf hS sz58 ?_
        clear hf hS; intro a w hf hS
        refine done_l (t_normal (c_seq (c_region ?_)))
        refine sR hf hS (rd_ldN hf ag58 sz58) ?_; clear hf; intro a hf
        refine step_l (st_call hf (Wn.none rfl) rfl rfl rfl fn32 (REMay_c _ _ _ _ _ _ _ _ _ _ _ _ hS (fun _ h => hvx _ (h.subA))) rfl rfl ?_)
        clear hf hS; rintro v a w ⟨rfl, hS⟩ hf
        first | refine split_dec (d := 121) hf rfl ?_ ?_ | refine split_bool (d := 121) hf rfl ?_ ?_
        ·
         clear hf; intro hc23 hf
         have hEN : mayEnt (ky, [s0, s1, s2, s3, s4, s5, s6, s7], xs.map pVal) = true := by first | exact hc23 | exact decide_eq_true hc23
         refine nT hf hS ?_; clear hf; intro a hf
         refine done_l (t_normal ?_)
         refine c_false hf rfl ?_
         refine c_skip (b_normal (t_normal (c_region ?_)))
         refine sP hf hS ?_; clear hf; intro a hf
         refine mN hf hS ?_; clear hf; intro a hf
         refine done_l ?_
         refine t_normal ⟨k + 1, ((hf.backA hk0).kb hf 116 rfl (by first | rfl | exact int_eq (by omega))), ⟨hS.subA, ⟨by omega, all_step (map_get pEnt hget) hok hEN⟩⟩, by first | omega | (simp only []; omega)⟩
        clear hf; intro hc23 hf
        have hEN : mayEnt (ky, [s0, s1, s2, s3, s4, s5, s6, s7], xs.map pVal) = false := by first | exact hc23 | exact decide_eq_false hc23
        refine nT hf hS ?_; clear hf; intro a hf
        refine done_l (t_normal ?_)
        refine c_true hf rfl ?_
        refine c_seq (c_region ?_)
        refine aN hf hS ?_; clear hf; intro a hf
        refine done_l (t_normal (c_ret (b_ret (t_ret (t_ret (b_ret (t_ret ?_)))))))
        refine eT hf ?_
        exact ⟨congrArg Value.bool (mayM_f1 hpl (all_no (map_get pEnt hget) hEN)).symm, hS.subA⟩
       clear hf; intro hc21 a hf
       obtain rfl : k = es'.length := by omega
       have hE := all_done hok
       refine done_l (t_normal (c_seq ?_))
       refine c_false hf rfl ?_
       refine c_exit (t_exit (t_exit (b_exit (t_normal (c_seq (c_seq (c_region ?_)))))))
       refine fA hf hS fb32_8 ?_; clear hf; intro a hf
       refine sR hf hS (rd_ld hf ag29) ?_; clear hf; intro a hf
       refine sR hf hS (rd_len hf rfl rfl Tryz.underlying29) ?_; clear hf; intro a hf
       refine mN hf hS ?_; clear hf; intro a hf
       refine done_l (t_normal (c_block ?_))
       have hk1 := Keep.ofA hf [(2, 2), (8, 8), (127, 134)]
       refine c_loopK hk1 (α := Nat) (fun k => [(127, .int .i64 (k : Nat))]) (fun k w => Sat W (Blk b_m [.int .i64 kd, .int .i64 fr, .int .i64 tn, .int .i64 op', .int .i64 fo', .string (str ky'), .int .i64 bk', .slice qe' es'.length ce', .slice qd' ds'.length cd', .slice qm' ms'.length cm'] 32 :: R) w ∧ k ≤ ds'.length ∧ ((ds'.map pDig).take k).all mayDig = true) (fun k => ds'.length - k) 0 ((hf.keep hk1).kb hf 127 rfl (by first | rfl | exact int_eq (by omega))) ⟨hS.subA, ⟨by omega, rfl⟩⟩ ?_
       clear hf hS; rintro k a w hf ⟨hS, ⟨hk, hok⟩⟩; (try dsimp only [List.cons_append, List.nil_append] at hf)
       refine c_seq (c_region ?_)
       refine sB hf hS (rd_lss hf rfl rfl rfl) ?_ ?_
       ·
        clear hf; intro hc24 a hf
        obtain ⟨x, hget⟩ := get_of_lt (l := ds') (k := k) (by omega) rfl; obtain ⟨ad, rfl⟩ := (hvd' _ (hS.subA)).some (by omega); have h8 := ((hvd' _ (hS.subA)).in hget).1; have hvx := fun w h => ((hvd' w h).in hget).2; obtain ⟨ky, seen, ⟨xq, xc, xs⟩, _⟩ := x; obtain ⟨s0, s1, s2, s3, s4, s5, s6, s7, rfl⟩ := len8 h8
        refine done_l (t_normal (c_seq ?_))
        refine c_true hf rfl ?_
        refine c_skip (t_normal (c_seq (c_block (c_seq (c_region ?_)))))
        refine sR hf hS ((by first | exact rd_indexAddrN hf rfl rfl rfl Tryz.underlying29 sz61 (by omega) | exact rd_indexAddr hf rfl rfl rfl Tryz.underlying29 sz61 (by first | decide | omega) (by omega))) ?_; clear hf; intro a hf
        refine sR hf hS (rd_loadN hf rfl rfl ag61 sz61 (by intro _ h; exact (show AggAt _ _ _ [.string (str ky), .int .i64 s0, .int .i64 s1, .int .i64 s2, .int .i64 s3, .int .i64 s4, .int .i64 s5, .int .i64 s6, .int .i64 s7, .slice xq xs.length xc] from (hvd' _ (h.subA)).el hget))) ?_; clear hf; intro a hf
        refine sA hf hS zr61 ?_
        clear hf hS; intro b_d a w hf hS
        refine sS hf hS sz61 ?_
        clear hf hS; intro a w hf hS
        refine done_l (t_normal (c_seq (c_region ?_)))
        refine sR hf hS (rd_ldN hf ag61 sz61) ?_; clear hf; intro a hf
        refine step_l (st_call hf (Wn.none rfl) rfl rfl rfl fn33 (RDMay_c _ _ _ _ _ _ _ _ _ _ _ _ hS (fun _ h => hvx _ (h.subA))) rfl rfl ?_)
        clear hf hS; rintro v a w ⟨rfl, hS⟩ hf
        first | refine split_dec (d := 132) hf rfl ?_ ?_ | refine split_bool (d := 132) hf rfl ?_ ?_
        ·
         clear hf; intro hc26 hf
         have hDN : mayDig (ky, [s0, s1, s2, s3, s4, s5, s6, s7], xs.map pDot) = true := by first | exact hc26 | exact decide_eq_true hc26
         refine nT hf hS ?_; clear hf; intro a hf
         refine done_l (t_normal ?_)
         refine c_false hf rfl ?_
         refine c_skip (b_normal (t_normal (c_region ?_)))
         refine sP hf hS ?_; clear hf; intro a hf
         refine mN hf hS ?_; clear hf; intro a hf
         refine done_l ?_
         refine t_normal ⟨k + 1, ((hf.backA hk1).kb hf 127 rfl (by first | rfl | exact int_eq (by omega))), ⟨hS.subA, ⟨by omega, all_step (map_get pDig hget) hok hDN⟩⟩, by first | omega | (simp only []; omega)⟩
        clear hf; intro hc26 hf
        have hDN : mayDig (ky, [s0, s1, s2, s3, s4, s5, s6, s7], xs.map pDot) = false := by first | exact hc26 | exact decide_eq_false hc26
        refine nT hf hS ?_; clear hf; intro a hf
        refine done_l (t_normal ?_)
        refine c_true hf rfl ?_
        refine c_seq (c_region ?_)
        refine aN hf hS ?_; clear hf; intro a hf
        refine done_l (t_normal (c_ret (b_ret (t_ret (t_ret (b_ret (t_ret ?_)))))))
        refine eT hf ?_
        exact ⟨congrArg Value.bool (mayM_f2 hpl (all_no (map_get pDig hget) hDN)).symm, hS.subA⟩
       clear hf; intro hc24 a hf
       obtain rfl : k = ds'.length := by omega
       have hD := all_done hok
       refine done_l (t_normal (c_seq ?_))
       refine c_false hf rfl ?_
       refine c_exit (t_exit (t_exit (b_exit (t_normal (c_seq (c_seq (c_region ?_)))))))
       refine fA hf hS fb32_9 ?_; clear hf; intro a hf
       refine sR hf hS (rd_ld hf ag30) ?_; clear hf; intro a hf
       refine sR hf hS (rd_len hf rfl rfl Tryz.underlying30) ?_; clear hf; intro a hf
       refine mN hf hS ?_; clear hf; intro a hf
       refine done_l (t_normal (c_block ?_))
       have hk2 := Keep.ofA hf [(2, 2), (10, 10), (138, 145)]
       refine c_loopK hk2 (α := Nat) (fun k => [(138, .int .i64 (k : Nat))]) (fun k w => Sat W (Blk b_m [.int .i64 kd, .int .i64 fr, .int .i64 tn, .int .i64 op', .int .i64 fo', .string (str ky'), .int .i64 bk', .slice qe' es'.length ce', .slice qd' ds'.length cd', .slice qm' ms'.length cm'] 32 :: R) w ∧ k ≤ ms'.length ∧ ((ms'.map pDot).take k).all mayMem = true) (fun k => ms'.length - k) 0 ((hf.keep hk2).kb hf 138 rfl (by first | rfl | exact int_eq (by omega))) ⟨hS.subA, ⟨by omega, rfl⟩⟩ ?_
       clear hf hS; rintro k a w hf ⟨hS, ⟨hk, hok⟩⟩; (try dsimp only [List.cons_append, List.nil_append] at hf)
       refine c_seq (c_region ?_)
       refine sB hf hS (rd_lss hf rfl rfl rfl) ?_ ?_
       ·
        clear hf; intro hc27 a hf
        obtain ⟨x, hget⟩ := get_of_lt (l := ms') (k := k) (by omega) rfl; obtain ⟨ad, rfl⟩ := (hvm' _ (hS.subA)).some (by omega); obtain ⟨dn, dc, _⟩ := x
        refine done_l (t_normal (c_seq ?_))
        refine c_true hf rfl ?_
        refine c_skip (t_normal (c_seq (c_block (c_seq (c_region ?_)))))
        refine sR hf hS ((by first | exact rd_indexAddrN hf rfl rfl rfl Tryz.underlying30 sz73 (by omega) | exact rd_indexAddr hf rfl rfl rfl Tryz.underlying30 sz73 (by first | decide | omega) (by omega))) ?_; clear hf; intro a hf
        refine sR hf hS (rd_loadN hf rfl rfl ag73 sz73 (by intro _ h; exact (show AggAt _ _ _ [.int .i64 dn, .int .i64 dc] from (hvm' _ (h.subA)).el hget))) ?_; clear hf; intro a hf
        refine sA hf hS zr73 ?_
        clear hf hS; intro b_x a w hf hS
        refine sS hf hS sz73 ?_
        clear hf hS; intro a w hf hS
        refine done_l (t_normal (c_seq (c_region ?_)))
        refine sR hf hS (rd_ldN hf ag73 sz73) ?_; clear hf; intro a hf
        refine step_l (st_call hf (Wn.none rfl) rfl rfl rfl fn34 (RMMay_c _ _ hS) rfl rfl ?_)
        clear hf hS; rintro v a w ⟨rfl, hS⟩ hf
        first | refine split_dec (d := 143) hf rfl ?_ ?_ | refine split_bool (d := 143) hf rfl ?_ ?_
        ·
         clear hf; intro hc29 hf
         have hMN : mayMem (dn, dc) = true := by first | exact hc29 | exact decide_eq_true hc29
         refine nT hf hS ?_; clear hf; intro a hf
         refine done_l (t_normal ?_)
         refine c_false hf rfl ?_
         refine c_skip (b_normal (t_normal (c_region ?_)))
         refine sP hf hS ?_; clear hf; intro a hf
         refine mN hf hS ?_; clear hf; intro a hf
         refine done_l ?_
         refine t_normal ⟨k + 1, ((hf.backA hk2).kb hf 138 rfl (by first | rfl | exact int_eq (by omega))), ⟨hS.subA, ⟨by omega, all_step (map_get pDot hget) hok hMN⟩⟩, by first | omega | (simp only []; omega)⟩
        clear hf; intro hc29 hf
        have hMN : mayMem (dn, dc) = false := by first | exact hc29 | exact decide_eq_false hc29
        refine nT hf hS ?_; clear hf; intro a hf
        refine done_l (t_normal ?_)
        refine c_true hf rfl ?_
        refine c_seq (c_region ?_)
        refine aN hf hS ?_; clear hf; intro a hf
        refine done_l (t_normal (c_ret (b_ret (t_ret (t_ret (b_ret (t_ret ?_)))))))
        refine eT hf ?_
        exact ⟨congrArg Value.bool (mayM_f3 hpl (all_no (map_get pDot hget) hMN)).symm, hS.subA⟩
       clear hf; intro hc27 a hf
       obtain rfl : k = ms'.length := by omega
       have hM := all_done hok
       refine done_l (t_normal (c_seq ?_))
       refine c_false hf rfl ?_
       refine c_exit (t_exit (t_exit (b_exit (t_normal (c_seq (c_region ?_))))))
       refine aN hf hS ?_; clear hf; intro a hf
       refine done_l (t_normal (c_ret ?_))
       refine eT hf ?_
       exact ⟨congrArg Value.bool (mayM_yes hpl hokm hE hD hM).symm, hS.subA⟩
      clear hf; intro hc17 a hf
      iterate 8 ((first | refine kS hf ?_ | refine mN hf hS ?_ | refine step_l (st_rd hf (Wn.some hf rfl rfl rfl rfl) (rd_move hf rfl rfl) hS rfl rfl ?_) | refine pF hf hS ?_ | refine step_l (st_rd hf (Wn.some hf rfl rfl rfl rfl) (rd_pick_f hf rfl rfl rfl) hS rfl rfl ?_)); clear hf; intro a hf)
      refine fG hf hS fb32_8 ?_; clear hf; intro a hf
      refine sG hf hS (rd_ld hf ag29) ?_; clear hf; intro a hf
      refine sG hf hS (rd_len hf rfl rfl Tryz.underlying29) ?_; clear hf; intro a hf
      refine step_l (st_rdB hf (Wn.some hf rfl rfl rfl rfl) (rd_gtr hf rfl rfl rfl) hS rfl rfl ?_ ?_)
      ·
       clear hf; intro hc30 a hf
       iterate 7 ((first | refine kS hf ?_ | refine mN hf hS ?_ | refine pT hf hS ?_ | refine pF hf hS ?_); clear hf; intro a hf)
       refine done_l (t_normal ?_)
       refine c_true hf rfl ?_
       refine c_seq (c_region ?_)
       refine aN hf hS ?_; clear hf; intro a hf
       refine done_l (t_normal (c_ret (t_ret ?_)))
       refine eT hf ?_
       refine ⟨congrArg Value.bool (mayM_no hpl ?_).symm, hS.subA⟩; clear hf hS; rintro ⟨h1, h2, h3, h4, h5, h6, h7, h8, h9, h10, h11⟩; dsimp only at h1 h2 h3 h4 h5 h6 h7 h8 h9 h10 h11; simp only [List.length_map] at h9 h10 h11; first | omega | (have h8' := h8 (by omega); omega) | (have h9' := h9 (by assumption); omega) | (cases hh : hasP 4 kd with | true => (have h9' := h9 hh; omega) | false => (have h0 := hE0 hh; have := mostP_pos kd; omega)) | (have h9' := h9 (by rw [show kd = 3 by omega]; rfl); have e1 : leastP kd = 1 := if_pos (by omega); have e2 : mostP kd = 1 := if_pos (by omega); omega)
      clear hf; intro hc30 a hf
      iterate 2 ((first | refine mN hf hS ?_ | refine pF hf hS ?_); clear hf; intro a hf)
      refine fG hf hS fb32_9 ?_; clear hf; intro a hf
      refine sG hf hS (rd_ld hf ag30) ?_; clear hf; intro a hf
      refine sG hf hS (rd_len hf rfl rfl Tryz.underlying30) ?_; clear hf; intro a hf
      refine step_l (st_rdB hf (Wn.some hf rfl rfl rfl rfl) (rd_gtr hf rfl rfl rfl) hS rfl rfl ?_ ?_)
      ·
       clear hf; intro hc31 a hf
       refine pF hf hS ?_; clear hf; intro a hf
       refine done_l (t_normal ?_)
       refine c_true hf rfl ?_
       refine c_seq (c_region ?_)
       refine aN hf hS ?_; clear hf; intro a hf
       refine done_l (t_normal (c_ret (t_ret ?_)))
       refine eT hf ?_
       refine ⟨congrArg Value.bool (mayM_no hpl ?_).symm, hS.subA⟩; clear hf hS; rintro ⟨h1, h2, h3, h4, h5, h6, h7, h8, h9, h10, h11⟩; dsimp only at h1 h2 h3 h4 h5 h6 h7 h8 h9 h10 h11; simp only [List.length_map] at h9 h10 h11; first | omega | (have h8' := h8 (by omega); omega) | (have h9' := h9 (by assumption); omega) | (cases hh : hasP 4 kd with | true => (have h9' := h9 hh; omega) | false => (have h0 := hE0 hh; have := mostP_pos kd; omega)) | (have h9' := h9 (by rw [show kd = 3 by omega]; rfl); have e1 : leastP kd = 1 := if_pos (by omega); have e2 : mostP kd = 1 := if_pos (by omega); omega)
      clear hf; intro hc31 a hf
      refine pF hf hS ?_; clear hf; intro a hf
      refine done_l (t_normal ?_)
      refine c_false hf rfl ?_
      refine c_skip (t_normal (c_seq (c_seq ?_)))
      have hokm : okM (⟨kd, fr, tn, op', fo', ky', bk', es'.map pEnt, ds'.map pDig, ms'.map pDot⟩ : PMsg) := by
       unfold okM; dsimp only; simp only [List.length_map]
       refine ⟨by omega, by omega, by omega, by omega, by omega, by omega, by omega, fun h4 => by omega, fun h9 => by first | omega | (have e1 : leastP kd ≤ es'.length := (by unfold leastP; split <;> omega); omega), by omega, by omega⟩
      refine c_region ?_
      refine fA hf hS fb32_7 ?_; clear hf; intro a hf
      refine sR hf hS (rd_ld hf ag28) ?_; clear hf; intro a hf
      refine sR hf hS (rd_len hf rfl rfl Tryz.underlying28) ?_; clear hf; intro a hf
      refine mN hf hS ?_; clear hf; intro a hf
      refine done_l (t_normal (c_block ?_))
      have hk3 := Keep.ofA hf [(2, 2), (6, 6), (116, 123)]
      refine c_loopK hk3 (α := Nat) (fun k => [(116, .int .i64 (k : Nat))]) (fun k w => Sat W (Blk b_m [.int .i64 kd, .int .i64 fr, .int .i64 tn, .int .i64 op', .int .i64 fo', .string (str ky'), .int .i64 bk', .slice qe' es'.length ce', .slice qd' ds'.length cd', .slice qm' ms'.length cm'] 32 :: R) w ∧ k ≤ es'.length ∧ ((es'.map pEnt).take k).all mayEnt = true) (fun k => es'.length - k) 0 ((hf.keep hk3).kb hf 116 rfl (by first | rfl | exact int_eq (by omega))) ⟨hS.subA, ⟨by omega, rfl⟩⟩ ?_
      clear hf hS; rintro k a w hf ⟨hS, ⟨hk, hok⟩⟩; (try dsimp only [List.cons_append, List.nil_append] at hf)
      refine c_seq (c_region ?_)
      refine sB hf hS (rd_lss hf rfl rfl rfl) ?_ ?_
      ·
       clear hf; intro hc32 a hf
       obtain ⟨x, hget⟩ := get_of_lt (l := es') (k := k) (by omega) rfl; obtain ⟨ad, rfl⟩ := (hve' _ (hS.subA)).some (by omega); have h8 := ((hve' _ (hS.subA)).in hget).1; have hvx := fun w h => ((hve' w h).in hget).2; obtain ⟨ky, ⟨seen, ⟨xq, xc, xs⟩, _⟩, _⟩ := x; obtain ⟨s0, s1, s2, s3, s4, s5, s6, s7, rfl⟩ := len8 h8
       refine done_l (t_normal (c_seq ?_))
       refine c_true hf rfl ?_
       refine c_skip (t_normal (c_seq (c_block (c_seq (c_region ?_)))))
       refine sR hf hS ((by first | exact rd_indexAddrN hf rfl rfl rfl Tryz.underlying28 sz58 (by omega) | exact rd_indexAddr hf rfl rfl rfl Tryz.underlying28 sz58 (by first | decide | omega) (by omega))) ?_; clear hf; intro a hf
       refine sR hf hS (rd_loadN hf rfl rfl ag58 sz58 (by intro _ h; exact (show AggAt _ _ _ [.string (str ky), .int .i64 s0, .int .i64 s1, .int .i64 s2, .int .i64 s3, .int .i64 s4, .int .i64 s5, .int .i64 s6, .int .i64 s7, .slice xq xs.length xc] from (hve' _ (h.subA)).el hget))) ?_; clear hf; intro a hf
       refine sA hf hS zr58 ?_
       clear hf hS; intro b_e a w hf hS
       refine sS hf hS sz58 ?_
       clear hf hS; intro a w hf hS
       refine done_l (t_normal (c_seq (c_region ?_)))
       refine sR hf hS (rd_ldN hf ag58 sz58) ?_; clear hf; intro a hf
       refine step_l (st_call hf (Wn.none rfl) rfl rfl rfl fn32 (REMay_c _ _ _ _ _ _ _ _ _ _ _ _ hS (fun _ h => hvx _ (h.subA))) rfl rfl ?_)
       clear hf hS; rintro v a w ⟨rfl, hS⟩ hf
       first | refine split_dec (d := 121) hf rfl ?_ ?_ | refine split_bool (d := 121) hf rfl ?_ ?_
       ·
        clear hf; intro hc34 hf
        have hEN : mayEnt (ky, [s0, s1, s2, s3, s4, s5, s6, s7], xs.map pVal) = true := by first | exact hc34 | exact decide_eq_true hc34
        refine nT hf hS ?_; clear hf; intro a hf
        refine done_l (t_normal ?_)
        refine c_false hf rfl ?_
        refine c_skip (b_normal (t_normal (c_region ?_)))
        refine sP hf hS ?_; clear hf; intro a hf
        refine mN hf hS ?_; clear hf; intro a hf
        refine done_l ?_
        refine t_normal ⟨k + 1, ((hf.backA hk3).kb hf 116 rfl (by first | rfl | exact int_eq (by omega))), ⟨hS.subA, ⟨by omega, all_step (map_get pEnt hget) hok hEN⟩⟩, by first | omega | (simp only []; omega)⟩
       clear hf; intro hc34 hf
       have hEN : mayEnt (ky, [s0, s1, s2, s3, s4, s5, s6, s7], xs.map pVal) = false := by first | exact hc34 | exact decide_eq_false hc34
       refine nT hf hS ?_; clear hf; intro a hf
       refine done_l (t_normal ?_)
       refine c_true hf rfl ?_
       refine c_seq (c_region ?_)
       refine aN hf hS ?_; clear hf; intro a hf
       refine done_l (t_normal (c_ret (b_ret (t_ret (t_ret (b_ret (t_ret ?_)))))))
       refine eT hf ?_
       exact ⟨congrArg Value.bool (mayM_f1 hpl (all_no (map_get pEnt hget) hEN)).symm, hS.subA⟩
      clear hf; intro hc32 a hf
      obtain rfl : k = es'.length := by omega
      have hE := all_done hok
      refine done_l (t_normal (c_seq ?_))
      refine c_false hf rfl ?_
      refine c_exit (t_exit (t_exit (b_exit (t_normal (c_seq (c_seq (c_region ?_)))))))
      refine fA hf hS fb32_8 ?_; clear hf; intro a hf
      refine sR hf hS (rd_ld hf ag29) ?_; clear hf; intro a hf
      refine sR hf hS (rd_len hf rfl rfl Tryz.underlying29) ?_; clear hf; intro a hf
      refine mN hf hS ?_; clear hf; intro a hf
      refine done_l (t_normal (c_block ?_))
      have hk4 := Keep.ofA hf [(2, 2), (8, 8), (127, 134)]
      refine c_loopK hk4 (α := Nat) (fun k => [(127, .int .i64 (k : Nat))]) (fun k w => Sat W (Blk b_m [.int .i64 kd, .int .i64 fr, .int .i64 tn, .int .i64 op', .int .i64 fo', .string (str ky'), .int .i64 bk', .slice qe' es'.length ce', .slice qd' ds'.length cd', .slice qm' ms'.length cm'] 32 :: R) w ∧ k ≤ ds'.length ∧ ((ds'.map pDig).take k).all mayDig = true) (fun k => ds'.length - k) 0 ((hf.keep hk4).kb hf 127 rfl (by first | rfl | exact int_eq (by omega))) ⟨hS.subA, ⟨by omega, rfl⟩⟩ ?_
      clear hf hS; rintro k a w hf ⟨hS, ⟨hk, hok⟩⟩; (try dsimp only [List.cons_append, List.nil_append] at hf)
      refine c_seq (c_region ?_)
      refine sB hf hS (rd_lss hf rfl rfl rfl) ?_ ?_
      ·
       clear hf; intro hc35 a hf
       obtain ⟨x, hget⟩ := get_of_lt (l := ds') (k := k) (by omega) rfl; obtain ⟨ad, rfl⟩ := (hvd' _ (hS.subA)).some (by omega); have h8 := ((hvd' _ (hS.subA)).in hget).1; have hvx := fun w h => ((hvd' w h).in hget).2; obtain ⟨ky, seen, ⟨xq, xc, xs⟩, _⟩ := x; obtain ⟨s0, s1, s2, s3, s4, s5, s6, s7, rfl⟩ := len8 h8
       refine done_l (t_normal (c_seq ?_))
       refine c_true hf rfl ?_
       refine c_skip (t_normal (c_seq (c_block (c_seq (c_region ?_)))))
       refine sR hf hS ((by first | exact rd_indexAddrN hf rfl rfl rfl Tryz.underlying29 sz61 (by omega) | exact rd_indexAddr hf rfl rfl rfl Tryz.underlying29 sz61 (by first | decide | omega) (by omega))) ?_; clear hf; intro a hf
       refine sR hf hS (rd_loadN hf rfl rfl ag61 sz61 (by intro _ h; exact (show AggAt _ _ _ [.string (str ky), .int .i64 s0, .int .i64 s1, .int .i64 s2, .int .i64 s3, .int .i64 s4, .int .i64 s5, .int .i64 s6, .int .i64 s7, .slice xq xs.length xc] from (hvd' _ (h.subA)).el hget))) ?_; clear hf; intro a hf
       refine sA hf hS zr61 ?_
       clear hf hS; intro b_d a w hf hS
       refine sS hf hS sz61 ?_
       clear hf hS; intro a w hf hS
       refine done_l (t_normal (c_seq (c_region ?_)))
       refine sR hf hS (rd_ldN hf ag61 sz61) ?_; clear hf; intro a hf
       refine step_l (st_call hf (Wn.none rfl) rfl rfl rfl fn33 (RDMay_c _ _ _ _ _ _ _ _ _ _ _ _ hS (fun _ h => hvx _ (h.subA))) rfl rfl ?_)
       clear hf hS; rintro v a w ⟨rfl, hS⟩ hf
       first | refine split_dec (d := 132) hf rfl ?_ ?_ | refine split_bool (d := 132) hf rfl ?_ ?_
       ·
        clear hf; intro hc37 hf
        have hDN : mayDig (ky, [s0, s1, s2, s3, s4, s5, s6, s7], xs.map pDot) = true := by first | exact hc37 | exact decide_eq_true hc37
        refine nT hf hS ?_; clear hf; intro a hf
        refine done_l (t_normal ?_)
        refine c_false hf rfl ?_
        refine c_skip (b_normal (t_normal (c_region ?_)))
        refine sP hf hS ?_; clear hf; intro a hf
        refine mN hf hS ?_; clear hf; intro a hf
        refine done_l ?_
        refine t_normal ⟨k + 1, ((hf.backA hk4).kb hf 127 rfl (by first | rfl | exact int_eq (by omega))), ⟨hS.subA, ⟨by omega, all_step (map_get pDig hget) hok hDN⟩⟩, by first | omega | (simp only []; omega)⟩
       clear hf; intro hc37 hf
       have hDN : mayDig (ky, [s0, s1, s2, s3, s4, s5, s6, s7], xs.map pDot) = false := by first | exact hc37 | exact decide_eq_false hc37
       refine nT hf hS ?_; clear hf; intro a hf
       refine done_l (t_normal ?_)
       refine c_true hf rfl ?_
       refine c_seq (c_region ?_)
       refine aN hf hS ?_; clear hf; intro a hf
       refine done_l (t_normal (c_ret (b_ret (t_ret (t_ret (b_ret (t_ret ?_)))))))
       refine eT hf ?_
       exact ⟨congrArg Value.bool (mayM_f2 hpl (all_no (map_get pDig hget) hDN)).symm, hS.subA⟩
      clear hf; intro hc35 a hf
      obtain rfl : k = ds'.length := by omega
      have hD := all_done hok
      refine done_l (t_normal (c_seq ?_))
      refine c_false hf rfl ?_
      refine c_exit (t_exit (t_exit (b_exit (t_normal (c_seq (c_seq (c_region ?_)))))))
      refine fA hf hS fb32_9 ?_; clear hf; intro a hf
      refine sR hf hS (rd_ld hf ag30) ?_; clear hf; intro a hf
      refine sR hf hS (rd_len hf rfl rfl Tryz.underlying30) ?_; clear hf; intro a hf
      refine mN hf hS ?_; clear hf; intro a hf
      refine done_l (t_normal (c_block ?_))
      have hk5 := Keep.ofA hf [(2, 2), (10, 10), (138, 145)]
      refine c_loopK hk5 (α := Nat) (fun k => [(138, .int .i64 (k : Nat))]) (fun k w => Sat W (Blk b_m [.int .i64 kd, .int .i64 fr, .int .i64 tn, .int .i64 op', .int .i64 fo', .string (str ky'), .int .i64 bk', .slice qe' es'.length ce', .slice qd' ds'.length cd', .slice qm' ms'.length cm'] 32 :: R) w ∧ k ≤ ms'.length ∧ ((ms'.map pDot).take k).all mayMem = true) (fun k => ms'.length - k) 0 ((hf.keep hk5).kb hf 138 rfl (by first | rfl | exact int_eq (by omega))) ⟨hS.subA, ⟨by omega, rfl⟩⟩ ?_
      clear hf hS; rintro k a w hf ⟨hS, ⟨hk, hok⟩⟩; (try dsimp only [List.cons_append, List.nil_append] at hf)
      refine c_seq (c_region ?_)
      refine sB hf hS (rd_lss hf rfl rfl rfl) ?_ ?_
      ·
       clear hf; intro hc38 a hf
       obtain ⟨x, hget⟩ := get_of_lt (l := ms') (k := k) (by omega) rfl; obtain ⟨ad, rfl⟩ := (hvm' _ (hS.subA)).some (by omega); obtain ⟨dn, dc, _⟩ := x
       refine done_l (t_normal (c_seq ?_))
       refine c_true hf rfl ?_
       refine c_skip (t_normal (c_seq (c_block (c_seq (c_region ?_)))))
       refine sR hf hS ((by first | exact rd_indexAddrN hf rfl rfl rfl Tryz.underlying30 sz73 (by omega) | exact rd_indexAddr hf rfl rfl rfl Tryz.underlying30 sz73 (by first | decide | omega) (by omega))) ?_; clear hf; intro a hf
       refine sR hf hS (rd_loadN hf rfl rfl ag73 sz73 (by intro _ h; exact (show AggAt _ _ _ [.int .i64 dn, .int .i64 dc] from (hvm' _ (h.subA)).el hget))) ?_; clear hf; intro a hf
       refine sA hf hS zr73 ?_
       clear hf hS; intro b_x a w hf hS
       refine sS hf hS sz73 ?_
       clear hf hS; intro a w hf hS
       refine done_l (t_normal (c_seq (c_region ?_)))
       refine sR hf hS (rd_ldN hf ag73 sz73) ?_; clear hf; intro a hf
       refine step_l (st_call hf (Wn.none rfl) rfl rfl rfl fn34 (RMMay_c _ _ hS) rfl rfl ?_)
       clear hf hS; rintro v a w ⟨rfl, hS⟩ hf
       first | refine split_dec (d := 143) hf rfl ?_ ?_ | refine split_bool (d := 143) hf rfl ?_ ?_
       ·
        clear hf; intro hc40 hf
        have hMN : mayMem (dn, dc) = true := by first | exact hc40 | exact decide_eq_true hc40
        refine nT hf hS ?_; clear hf; intro a hf
        refine done_l (t_normal ?_)
        refine c_false hf rfl ?_
        refine c_skip (b_normal (t_normal (c_region ?_)))
        refine sP hf hS ?_; clear hf; intro a hf
        refine mN hf hS ?_; clear hf; intro a hf
        refine done_l ?_
        refine t_normal ⟨k + 1, ((hf.backA hk5).kb hf 138 rfl (by first | rfl | exact int_eq (by omega))), ⟨hS.subA, ⟨by omega, all_step (map_get pDot hget) hok hMN⟩⟩, by first | omega | (simp only []; omega)⟩
       clear hf; intro hc40 hf
       have hMN : mayMem (dn, dc) = false := by first | exact hc40 | exact decide_eq_false hc40
       refine nT hf hS ?_; clear hf; intro a hf
       refine done_l (t_normal ?_)
       refine c_true hf rfl ?_
       refine c_seq (c_region ?_)
       refine aN hf hS ?_; clear hf; intro a hf
       refine done_l (t_normal (c_ret (b_ret (t_ret (t_ret (b_ret (t_ret ?_)))))))
       refine eT hf ?_
       exact ⟨congrArg Value.bool (mayM_f3 hpl (all_no (map_get pDot hget) hMN)).symm, hS.subA⟩
      clear hf; intro hc38 a hf
      obtain rfl : k = ms'.length := by omega
      have hM := all_done hok
      refine done_l (t_normal (c_seq ?_))
      refine c_false hf rfl ?_
      refine c_exit (t_exit (t_exit (b_exit (t_normal (c_seq (c_region ?_))))))
      refine aN hf hS ?_; clear hf; intro a hf
      refine done_l (t_normal (c_ret ?_))
      refine eT hf ?_
      exact ⟨congrArg Value.bool (mayM_yes hpl hokm hE hD hM).symm, hS.subA⟩
     clear hf; intro hc12 a hf
     iterate 7 ((first | refine kS hf ?_ | refine mN hf hS ?_ | refine step_l (st_rd hf (Wn.some hf rfl rfl rfl rfl) (rd_move hf rfl rfl) hS rfl rfl ?_) | refine pF hf hS ?_ | refine step_l (st_rd hf (Wn.some hf rfl rfl rfl rfl) (rd_pick_f hf rfl rfl rfl) hS rfl rfl ?_)); clear hf; intro a hf)
     refine fG hf hS fb32_6 ?_; clear hf; intro a hf
     refine sG hf hS (rd_ld hf ag3) ?_; clear hf; intro a hf
     refine step_l (st_rdB hf (Wn.some hf rfl rfl rfl rfl) (rd_lss hf rfl rfl rfl) hS rfl rfl ?_ ?_)
     ·
      clear hf; intro hc41 a hf
      iterate 36 ((first | refine kS hf ?_ | refine kU hf ?_ | refine mN hf hS ?_ | refine pT hf hS ?_ | refine pF hf hS ?_); clear hf; intro a hf)
      refine done_l (t_normal ?_)
      refine c_true hf rfl ?_
      refine c_seq (c_region ?_)
      refine aN hf hS ?_; clear hf; intro a hf
      refine done_l (t_normal (c_ret (t_ret ?_)))
      refine eT hf ?_
      refine ⟨congrArg Value.bool (mayM_no hpl ?_).symm, hS.subA⟩; clear hf hS; rintro ⟨h1, h2, h3, h4, h5, h6, h7, h8, h9, h10, h11⟩; dsimp only at h1 h2 h3 h4 h5 h6 h7 h8 h9 h10 h11; simp only [List.length_map] at h9 h10 h11; first | omega | (have h8' := h8 (by omega); omega) | (have h9' := h9 (by assumption); omega) | (cases hh : hasP 4 kd with | true => (have h9' := h9 hh; omega) | false => (have h0 := hE0 hh; have := mostP_pos kd; omega)) | (have h9' := h9 (by rw [show kd = 3 by omega]; rfl); have e1 : leastP kd = 1 := if_pos (by omega); have e2 : mostP kd = 1 := if_pos (by omega); omega)
     clear hf; intro hc41 a hf
     iterate 2 ((first | refine mN hf hS ?_ | refine pF hf hS ?_); clear hf; intro a hf)
     refine fG hf hS fb32_6 ?_; clear hf; intro a hf
     refine sG hf hS (rd_ld hf ag3) ?_; clear hf; intro a hf
     refine step_l (st_rdB hf (Wn.some hf rfl rfl rfl rfl) (rd_geq hf rfl rfl rfl) hS rfl rfl ?_ ?_)
     ·
      clear hf; intro hc42 a hf
      iterate 31 ((first | refine kS hf ?_ | refine kU hf ?_ | refine mN hf hS ?_ | refine pT hf hS ?_ | refine pF hf hS ?_); clear hf; intro a hf)
      refine done_l (t_normal ?_)
      refine c_true hf rfl ?_
      refine c_seq (c_region ?_)
      refine aN hf hS ?_; clear hf; intro a hf
      refine done_l (t_normal (c_ret (t_ret ?_)))
      refine eT hf ?_
      refine ⟨congrArg Value.bool (mayM_no hpl ?_).symm, hS.subA⟩; clear hf hS; rintro ⟨h1, h2, h3, h4, h5, h6, h7, h8, h9, h10, h11⟩; dsimp only at h1 h2 h3 h4 h5 h6 h7 h8 h9 h10 h11; simp only [List.length_map] at h9 h10 h11; first | omega | (have h8' := h8 (by omega); omega) | (have h9' := h9 (by assumption); omega) | (cases hh : hasP 4 kd with | true => (have h9' := h9 hh; omega) | false => (have h0 := hE0 hh; have := mostP_pos kd; omega)) | (have h9' := h9 (by rw [show kd = 3 by omega]; rfl); have e1 : leastP kd = 1 := if_pos (by omega); have e2 : mostP kd = 1 := if_pos (by omega); omega)
     clear hf; intro hc42 a hf
     iterate 2 ((first | refine mN hf hS ?_ | refine pF hf hS ?_); clear hf; intro a hf)
     refine fG hf hS fb32_7 ?_; clear hf; intro a hf
     refine sG hf hS (rd_ld hf ag28) ?_; clear hf; intro a hf
     refine sG hf hS (rd_len hf rfl rfl Tryz.underlying28) ?_; clear hf; intro a hf
     refine sG hf hS (rd_move hf rfl rfl) ?_; clear hf; intro a hf
     refine step_l (st_rdB hf (Wn.some hf rfl rfl rfl rfl) (rd_gtr hf rfl rfl rfl) hS rfl rfl ?_ ?_)
     ·
      clear hf; intro hc43 a hf
      iterate 24 ((first | refine kS hf ?_ | refine kU hf ?_ | refine mN hf hS ?_ | refine pT hf hS ?_ | refine pF hf hS ?_); clear hf; intro a hf)
      refine done_l (t_normal ?_)
      refine c_true hf rfl ?_
      refine c_seq (c_region ?_)
      refine aN hf hS ?_; clear hf; intro a hf
      refine done_l (t_normal (c_ret (t_ret ?_)))
      refine eT hf ?_
      refine ⟨congrArg Value.bool (mayM_no hpl ?_).symm, hS.subA⟩; clear hf hS; rintro ⟨h1, h2, h3, h4, h5, h6, h7, h8, h9, h10, h11⟩; dsimp only at h1 h2 h3 h4 h5 h6 h7 h8 h9 h10 h11; simp only [List.length_map] at h9 h10 h11; first | omega | (have h8' := h8 (by omega); omega) | (have h9' := h9 (by assumption); omega) | (cases hh : hasP 4 kd with | true => (have h9' := h9 hh; omega) | false => (have h0 := hE0 hh; have := mostP_pos kd; omega)) | (have h9' := h9 (by rw [show kd = 3 by omega]; rfl); have e1 : leastP kd = 1 := if_pos (by omega); have e2 : mostP kd = 1 := if_pos (by omega); omega)
     clear hf; intro hc43 a hf
     iterate 2 ((first | refine mN hf hS ?_ | refine pF hf hS ?_); clear hf; intro a hf)
     refine fG hf hS fb32_0 ?_; clear hf; intro a hf
     refine sG hf hS (rd_ld hf ag3) ?_; clear hf; intro a hf
     refine step_l (st_rdB hf (Wn.some hf rfl rfl rfl rfl) (rd_eql hf rfl rfl rfl) hS rfl rfl ?_ ?_)
     ·
      clear hf; intro hc44 a hf
      refine sG hf hS (rd_move hf rfl rfl) ?_; clear hf; intro a hf
      refine fG hf hS fb32_7 ?_; clear hf; intro a hf
      refine sG hf hS (rd_ld hf ag28) ?_; clear hf; intro a hf
      refine sG hf hS (rd_len hf rfl rfl Tryz.underlying28) ?_; clear hf; intro a hf
      refine step_l (st_rdB hf (Wn.some hf rfl rfl rfl rfl) (rd_neq hf rfl rfl rfl) hS rfl rfl ?_ ?_)
      ·
       clear hf; intro hc45 a hf
       iterate 14 ((first | refine kS hf ?_ | refine mN hf hS ?_ | refine pT hf hS ?_ | refine step_l (st_rd hf (Wn.some hf rfl rfl rfl rfl) (rd_pick_t hf rfl rfl rfl) hS rfl rfl ?_) | refine pF hf hS ?_); clear hf; intro a hf)
       refine done_l (t_normal ?_)
       refine c_true hf rfl ?_
       refine c_seq (c_region ?_)
       refine aN hf hS ?_; clear hf; intro a hf
       refine done_l (t_normal (c_ret (t_ret ?_)))
       refine eT hf ?_
       refine ⟨congrArg Value.bool (mayM_no hpl ?_).symm, hS.subA⟩; clear hf hS; rintro ⟨h1, h2, h3, h4, h5, h6, h7, h8, h9, h10, h11⟩; dsimp only at h1 h2 h3 h4 h5 h6 h7 h8 h9 h10 h11; simp only [List.length_map] at h9 h10 h11; first | omega | (have h8' := h8 (by omega); omega) | (have h9' := h9 (by assumption); omega) | (cases hh : hasP 4 kd with | true => (have h9' := h9 hh; omega) | false => (have h0 := hE0 hh; have := mostP_pos kd; omega)) | (have h9' := h9 (by rw [show kd = 3 by omega]; rfl); have e1 : leastP kd = 1 := if_pos (by omega); have e2 : mostP kd = 1 := if_pos (by omega); omega)
      clear hf; intro hc45 a hf
      iterate 3 ((first | refine mN hf hS ?_ | refine step_l (st_rd hf (Wn.some hf rfl rfl rfl rfl) (rd_pick_t hf rfl rfl rfl) hS rfl rfl ?_) | refine pF hf hS ?_); clear hf; intro a hf)
      refine fG hf hS fb32_8 ?_; clear hf; intro a hf
      refine sG hf hS (rd_ld hf ag29) ?_; clear hf; intro a hf
      refine sG hf hS (rd_len hf rfl rfl Tryz.underlying29) ?_; clear hf; intro a hf
      refine step_l (st_rdB hf (Wn.some hf rfl rfl rfl rfl) (rd_gtr hf rfl rfl rfl) hS rfl rfl ?_ ?_)
      ·
       clear hf; intro hc46 a hf
       iterate 7 ((first | refine kS hf ?_ | refine mN hf hS ?_ | refine pT hf hS ?_ | refine pF hf hS ?_); clear hf; intro a hf)
       refine done_l (t_normal ?_)
       refine c_true hf rfl ?_
       refine c_seq (c_region ?_)
       refine aN hf hS ?_; clear hf; intro a hf
       refine done_l (t_normal (c_ret (t_ret ?_)))
       refine eT hf ?_
       refine ⟨congrArg Value.bool (mayM_no hpl ?_).symm, hS.subA⟩; clear hf hS; rintro ⟨h1, h2, h3, h4, h5, h6, h7, h8, h9, h10, h11⟩; dsimp only at h1 h2 h3 h4 h5 h6 h7 h8 h9 h10 h11; simp only [List.length_map] at h9 h10 h11; first | omega | (have h8' := h8 (by omega); omega) | (have h9' := h9 (by assumption); omega) | (cases hh : hasP 4 kd with | true => (have h9' := h9 hh; omega) | false => (have h0 := hE0 hh; have := mostP_pos kd; omega)) | (have h9' := h9 (by rw [show kd = 3 by omega]; rfl); have e1 : leastP kd = 1 := if_pos (by omega); have e2 : mostP kd = 1 := if_pos (by omega); omega)
      clear hf; intro hc46 a hf
      iterate 2 ((first | refine mN hf hS ?_ | refine pF hf hS ?_); clear hf; intro a hf)
      refine fG hf hS fb32_9 ?_; clear hf; intro a hf
      refine sG hf hS (rd_ld hf ag30) ?_; clear hf; intro a hf
      refine sG hf hS (rd_len hf rfl rfl Tryz.underlying30) ?_; clear hf; intro a hf
      refine step_l (st_rdB hf (Wn.some hf rfl rfl rfl rfl) (rd_gtr hf rfl rfl rfl) hS rfl rfl ?_ ?_)
      ·
       clear hf; intro hc47 a hf
       refine pF hf hS ?_; clear hf; intro a hf
       refine done_l (t_normal ?_)
       refine c_true hf rfl ?_
       refine c_seq (c_region ?_)
       refine aN hf hS ?_; clear hf; intro a hf
       refine done_l (t_normal (c_ret (t_ret ?_)))
       refine eT hf ?_
       refine ⟨congrArg Value.bool (mayM_no hpl ?_).symm, hS.subA⟩; clear hf hS; rintro ⟨h1, h2, h3, h4, h5, h6, h7, h8, h9, h10, h11⟩; dsimp only at h1 h2 h3 h4 h5 h6 h7 h8 h9 h10 h11; simp only [List.length_map] at h9 h10 h11; first | omega | (have h8' := h8 (by omega); omega) | (have h9' := h9 (by assumption); omega) | (cases hh : hasP 4 kd with | true => (have h9' := h9 hh; omega) | false => (have h0 := hE0 hh; have := mostP_pos kd; omega)) | (have h9' := h9 (by rw [show kd = 3 by omega]; rfl); have e1 : leastP kd = 1 := if_pos (by omega); have e2 : mostP kd = 1 := if_pos (by omega); omega)
      clear hf; intro hc47 a hf
      refine pF hf hS ?_; clear hf; intro a hf
      refine done_l (t_normal ?_)
      refine c_false hf rfl ?_
      refine c_skip (t_normal (c_seq (c_seq ?_)))
      have hokm : okM (⟨kd, fr, tn, op', fo', ky', bk', es'.map pEnt, ds'.map pDig, ms'.map pDot⟩ : PMsg) := by
       unfold okM; dsimp only; simp only [List.length_map]
       refine ⟨by omega, by omega, by omega, by omega, by omega, by omega, by omega, fun h4 => by omega, fun h9 => by first | omega | (have e1 : leastP kd ≤ es'.length := (by unfold leastP; split <;> omega); omega), by omega, by omega⟩
      refine c_region ?_
      refine fA hf hS fb32_7 ?_; clear hf; intro a hf
      refine sR hf hS (rd_ld hf ag28) ?_; clear hf; intro a hf
      refine sR hf hS (rd_len hf rfl rfl Tryz.underlying28) ?_; clear hf; intro a hf
      refine mN hf hS ?_; clear hf; intro a hf
      refine done_l (t_normal (c_block ?_))
      have hk6 := Keep.ofA hf [(2, 2), (6, 6), (116, 123)]
      refine c_loopK hk6 (α := Nat) (fun k => [(116, .int .i64 (k : Nat))]) (fun k w => Sat W (Blk b_m [.int .i64 kd, .int .i64 fr, .int .i64 tn, .int .i64 op', .int .i64 fo', .string (str ky'), .int .i64 bk', .slice qe' es'.length ce', .slice qd' ds'.length cd', .slice qm' ms'.length cm'] 32 :: R) w ∧ k ≤ es'.length ∧ ((es'.map pEnt).take k).all mayEnt = true) (fun k => es'.length - k) 0 ((hf.keep hk6).kb hf 116 rfl (by first | rfl | exact int_eq (by omega))) ⟨hS.subA, ⟨by omega, rfl⟩⟩ ?_
      clear hf hS; rintro k a w hf ⟨hS, ⟨hk, hok⟩⟩; (try dsimp only [List.cons_append, List.nil_append] at hf)
      refine c_seq (c_region ?_)
      refine sB hf hS (rd_lss hf rfl rfl rfl) ?_ ?_
      ·
       clear hf; intro hc48 a hf
       obtain ⟨x, hget⟩ := get_of_lt (l := es') (k := k) (by omega) rfl; obtain ⟨ad, rfl⟩ := (hve' _ (hS.subA)).some (by omega); have h8 := ((hve' _ (hS.subA)).in hget).1; have hvx := fun w h => ((hve' w h).in hget).2; obtain ⟨ky, ⟨seen, ⟨xq, xc, xs⟩, _⟩, _⟩ := x; obtain ⟨s0, s1, s2, s3, s4, s5, s6, s7, rfl⟩ := len8 h8
       refine done_l (t_normal (c_seq ?_))
       refine c_true hf rfl ?_
       refine c_skip (t_normal (c_seq (c_block (c_seq (c_region ?_)))))
       refine sR hf hS ((by first | exact rd_indexAddrN hf rfl rfl rfl Tryz.underlying28 sz58 (by omega) | exact rd_indexAddr hf rfl rfl rfl Tryz.underlying28 sz58 (by first | decide | omega) (by omega))) ?_; clear hf; intro a hf
       refine sR hf hS (rd_loadN hf rfl rfl ag58 sz58 (by intro _ h; exact (show AggAt _ _ _ [.string (str ky), .int .i64 s0, .int .i64 s1, .int .i64 s2, .int .i64 s3, .int .i64 s4, .int .i64 s5, .int .i64 s6, .int .i64 s7, .slice xq xs.length xc] from (hve' _ (h.subA)).el hget))) ?_; clear hf; intro a hf
       refine sA hf hS zr58 ?_
       clear hf hS; intro b_e a w hf hS
       refine sS hf hS sz58 ?_
       clear hf hS; intro a w hf hS
       refine done_l (t_normal (c_seq (c_region ?_)))
       refine sR hf hS (rd_ldN hf ag58 sz58) ?_; clear hf; intro a hf
       refine step_l (st_call hf (Wn.none rfl) rfl rfl rfl fn32 (REMay_c _ _ _ _ _ _ _ _ _ _ _ _ hS (fun _ h => hvx _ (h.subA))) rfl rfl ?_)
       clear hf hS; rintro v a w ⟨rfl, hS⟩ hf
       first | refine split_dec (d := 121) hf rfl ?_ ?_ | refine split_bool (d := 121) hf rfl ?_ ?_
       ·
        clear hf; intro hc50 hf
        have hEN : mayEnt (ky, [s0, s1, s2, s3, s4, s5, s6, s7], xs.map pVal) = true := by first | exact hc50 | exact decide_eq_true hc50
        refine nT hf hS ?_; clear hf; intro a hf
        refine done_l (t_normal ?_)
        refine c_false hf rfl ?_
        refine c_skip (b_normal (t_normal (c_region ?_)))
        refine sP hf hS ?_; clear hf; intro a hf
        refine mN hf hS ?_; clear hf; intro a hf
        refine done_l ?_
        refine t_normal ⟨k + 1, ((hf.backA hk6).kb hf 116 rfl (by first | rfl | exact int_eq (by omega))), ⟨hS.subA, ⟨by omega, all_step (map_get pEnt hget) hok hEN⟩⟩, by first | omega | (simp only []; omega)⟩
       clear hf; intro hc50 hf
       have hEN : mayEnt (ky, [s0, s1, s2, s3, s4, s5, s6, s7], xs.map pVal) = false := by first | exact hc50 | exact decide_eq_false hc50
       refine nT hf hS ?_; clear hf; intro a hf
       refine done_l (t_normal ?_)
       refine c_true hf rfl ?_
       refine c_seq (c_region ?_)
       refine aN hf hS ?_; clear hf; intro a hf
       refine done_l (t_normal (c_ret (b_ret (t_ret (t_ret (b_ret (t_ret ?_)))))))
       refine eT hf ?_
       exact ⟨congrArg Value.bool (mayM_f1 hpl (all_no (map_get pEnt hget) hEN)).symm, hS.subA⟩
      clear hf; intro hc48 a hf
      obtain rfl : k = es'.length := by omega
      have hE := all_done hok
      refine done_l (t_normal (c_seq ?_))
      refine c_false hf rfl ?_
      refine c_exit (t_exit (t_exit (b_exit (t_normal (c_seq (c_seq (c_region ?_)))))))
      refine fA hf hS fb32_8 ?_; clear hf; intro a hf
      refine sR hf hS (rd_ld hf ag29) ?_; clear hf; intro a hf
      refine sR hf hS (rd_len hf rfl rfl Tryz.underlying29) ?_; clear hf; intro a hf
      refine mN hf hS ?_; clear hf; intro a hf
      refine done_l (t_normal (c_block ?_))
      have hk7 := Keep.ofA hf [(2, 2), (8, 8), (127, 134)]
      refine c_loopK hk7 (α := Nat) (fun k => [(127, .int .i64 (k : Nat))]) (fun k w => Sat W (Blk b_m [.int .i64 kd, .int .i64 fr, .int .i64 tn, .int .i64 op', .int .i64 fo', .string (str ky'), .int .i64 bk', .slice qe' es'.length ce', .slice qd' ds'.length cd', .slice qm' ms'.length cm'] 32 :: R) w ∧ k ≤ ds'.length ∧ ((ds'.map pDig).take k).all mayDig = true) (fun k => ds'.length - k) 0 ((hf.keep hk7).kb hf 127 rfl (by first | rfl | exact int_eq (by omega))) ⟨hS.subA, ⟨by omega, rfl⟩⟩ ?_
      clear hf hS; rintro k a w hf ⟨hS, ⟨hk, hok⟩⟩; (try dsimp only [List.cons_append, List.nil_append] at hf)
      refine c_seq (c_region ?_)
      refine sB hf hS (rd_lss hf rfl rfl rfl) ?_ ?_
      ·
       clear hf; intro hc51 a hf
       obtain ⟨x, hget⟩ := get_of_lt (l := ds') (k := k) (by omega) rfl; obtain ⟨ad, rfl⟩ := (hvd' _ (hS.subA)).some (by omega); have h8 := ((hvd' _ (hS.subA)).in hget).1; have hvx := fun w h => ((hvd' w h).in hget).2; obtain ⟨ky, seen, ⟨xq, xc, xs⟩, _⟩ := x; obtain ⟨s0, s1, s2, s3, s4, s5, s6, s7, rfl⟩ := len8 h8
       refine done_l (t_normal (c_seq ?_))
       refine c_true hf rfl ?_
       refine c_skip (t_normal (c_seq (c_block (c_seq (c_region ?_)))))
       refine sR hf hS ((by first | exact rd_indexAddrN hf rfl rfl rfl Tryz.underlying29 sz61 (by omega) | exact rd_indexAddr hf rfl rfl rfl Tryz.underlying29 sz61 (by first | decide | omega) (by omega))) ?_; clear hf; intro a hf
       refine sR hf hS (rd_loadN hf rfl rfl ag61 sz61 (by intro _ h; exact (show AggAt _ _ _ [.string (str ky), .int .i64 s0, .int .i64 s1, .int .i64 s2, .int .i64 s3, .int .i64 s4, .int .i64 s5, .int .i64 s6, .int .i64 s7, .slice xq xs.length xc] from (hvd' _ (h.subA)).el hget))) ?_; clear hf; intro a hf
       refine sA hf hS zr61 ?_
       clear hf hS; intro b_d a w hf hS
       refine sS hf hS sz61 ?_
       clear hf hS; intro a w hf hS
       refine done_l (t_normal (c_seq (c_region ?_)))
       refine sR hf hS (rd_ldN hf ag61 sz61) ?_; clear hf; intro a hf
       refine step_l (st_call hf (Wn.none rfl) rfl rfl rfl fn33 (RDMay_c _ _ _ _ _ _ _ _ _ _ _ _ hS (fun _ h => hvx _ (h.subA))) rfl rfl ?_)
       clear hf hS; rintro v a w ⟨rfl, hS⟩ hf
       first | refine split_dec (d := 132) hf rfl ?_ ?_ | refine split_bool (d := 132) hf rfl ?_ ?_
       ·
        clear hf; intro hc53 hf
        have hDN : mayDig (ky, [s0, s1, s2, s3, s4, s5, s6, s7], xs.map pDot) = true := by first | exact hc53 | exact decide_eq_true hc53
        refine nT hf hS ?_; clear hf; intro a hf
        refine done_l (t_normal ?_)
        refine c_false hf rfl ?_
        refine c_skip (b_normal (t_normal (c_region ?_)))
        refine sP hf hS ?_; clear hf; intro a hf
        refine mN hf hS ?_; clear hf; intro a hf
        refine done_l ?_
        refine t_normal ⟨k + 1, ((hf.backA hk7).kb hf 127 rfl (by first | rfl | exact int_eq (by omega))), ⟨hS.subA, ⟨by omega, all_step (map_get pDig hget) hok hDN⟩⟩, by first | omega | (simp only []; omega)⟩
       clear hf; intro hc53 hf
       have hDN : mayDig (ky, [s0, s1, s2, s3, s4, s5, s6, s7], xs.map pDot) = false := by first | exact hc53 | exact decide_eq_false hc53
       refine nT hf hS ?_; clear hf; intro a hf
       refine done_l (t_normal ?_)
       refine c_true hf rfl ?_
       refine c_seq (c_region ?_)
       refine aN hf hS ?_; clear hf; intro a hf
       refine done_l (t_normal (c_ret (b_ret (t_ret (t_ret (b_ret (t_ret ?_)))))))
       refine eT hf ?_
       exact ⟨congrArg Value.bool (mayM_f2 hpl (all_no (map_get pDig hget) hDN)).symm, hS.subA⟩
      clear hf; intro hc51 a hf
      obtain rfl : k = ds'.length := by omega
      have hD := all_done hok
      refine done_l (t_normal (c_seq ?_))
      refine c_false hf rfl ?_
      refine c_exit (t_exit (t_exit (b_exit (t_normal (c_seq (c_seq (c_region ?_)))))))
      refine fA hf hS fb32_9 ?_; clear hf; intro a hf
      refine sR hf hS (rd_ld hf ag30) ?_; clear hf; intro a hf
      refine sR hf hS (rd_len hf rfl rfl Tryz.underlying30) ?_; clear hf; intro a hf
      refine mN hf hS ?_; clear hf; intro a hf
      refine done_l (t_normal (c_block ?_))
      have hk8 := Keep.ofA hf [(2, 2), (10, 10), (138, 145)]
      refine c_loopK hk8 (α := Nat) (fun k => [(138, .int .i64 (k : Nat))]) (fun k w => Sat W (Blk b_m [.int .i64 kd, .int .i64 fr, .int .i64 tn, .int .i64 op', .int .i64 fo', .string (str ky'), .int .i64 bk', .slice qe' es'.length ce', .slice qd' ds'.length cd', .slice qm' ms'.length cm'] 32 :: R) w ∧ k ≤ ms'.length ∧ ((ms'.map pDot).take k).all mayMem = true) (fun k => ms'.length - k) 0 ((hf.keep hk8).kb hf 138 rfl (by first | rfl | exact int_eq (by omega))) ⟨hS.subA, ⟨by omega, rfl⟩⟩ ?_
      clear hf hS; rintro k a w hf ⟨hS, ⟨hk, hok⟩⟩; (try dsimp only [List.cons_append, List.nil_append] at hf)
      refine c_seq (c_region ?_)
      refine sB hf hS (rd_lss hf rfl rfl rfl) ?_ ?_
      ·
       clear hf; intro hc54 a hf
       obtain ⟨x, hget⟩ := get_of_lt (l := ms') (k := k) (by omega) rfl; obtain ⟨ad, rfl⟩ := (hvm' _ (hS.subA)).some (by omega); obtain ⟨dn, dc, _⟩ := x
       refine done_l (t_normal (c_seq ?_))
       refine c_true hf rfl ?_
       refine c_skip (t_normal (c_seq (c_block (c_seq (c_region ?_)))))
       refine sR hf hS ((by first | exact rd_indexAddrN hf rfl rfl rfl Tryz.underlying30 sz73 (by omega) | exact rd_indexAddr hf rfl rfl rfl Tryz.underlying30 sz73 (by first | decide | omega) (by omega))) ?_; clear hf; intro a hf
       refine sR hf hS (rd_loadN hf rfl rfl ag73 sz73 (by intro _ h; exact (show AggAt _ _ _ [.int .i64 dn, .int .i64 dc] from (hvm' _ (h.subA)).el hget))) ?_; clear hf; intro a hf
       refine sA hf hS zr73 ?_
       clear hf hS; intro b_x a w hf hS
       refine sS hf hS sz73 ?_
       clear hf hS; intro a w hf hS
       refine done_l (t_normal (c_seq (c_region ?_)))
       refine sR hf hS (rd_ldN hf ag73 sz73) ?_; clear hf; intro a hf
       refine step_l (st_call hf (Wn.none rfl) rfl rfl rfl fn34 (RMMay_c _ _ hS) rfl rfl ?_)
       clear hf hS; rintro v a w ⟨rfl, hS⟩ hf
       first | refine split_dec (d := 143) hf rfl ?_ ?_ | refine split_bool (d := 143) hf rfl ?_ ?_
       ·
        clear hf; intro hc56 hf
        have hMN : mayMem (dn, dc) = true := by first | exact hc56 | exact decide_eq_true hc56
        refine nT hf hS ?_; clear hf; intro a hf
        refine done_l (t_normal ?_)
        refine c_false hf rfl ?_
        refine c_skip (b_normal (t_normal (c_region ?_)))
        refine sP hf hS ?_; clear hf; intro a hf
        refine mN hf hS ?_; clear hf; intro a hf
        refine done_l ?_
        refine t_normal ⟨k + 1, ((hf.backA hk8).kb hf 138 rfl (by first | rfl | exact int_eq (by omega))), ⟨hS.subA, ⟨by omega, all_step (map_get pDot hget) hok hMN⟩⟩, by first | omega | (simp only []; omega)⟩
       clear hf; intro hc56 hf
       have hMN : mayMem (dn, dc) = false := by first | exact hc56 | exact decide_eq_false hc56
       refine nT hf hS ?_; clear hf; intro a hf
       refine done_l (t_normal ?_)
       refine c_true hf rfl ?_
       refine c_seq (c_region ?_)
       refine aN hf hS ?_; clear hf; intro a hf
       refine done_l (t_normal (c_ret (b_ret (t_ret (t_ret (b_ret (t_ret ?_)))))))
       refine eT hf ?_
       exact ⟨congrArg Value.bool (mayM_f3 hpl (all_no (map_get pDot hget) hMN)).symm, hS.subA⟩
      clear hf; intro hc54 a hf
      obtain rfl : k = ms'.length := by omega
      have hM := all_done hok
      refine done_l (t_normal (c_seq ?_))
      refine c_false hf rfl ?_
      refine c_exit (t_exit (t_exit (b_exit (t_normal (c_seq (c_region ?_))))))
      refine aN hf hS ?_; clear hf; intro a hf
      refine done_l (t_normal (c_ret ?_))
      refine eT hf ?_
      exact ⟨congrArg Value.bool (mayM_yes hpl hokm hE hD hM).symm, hS.subA⟩
     clear hf; intro hc44 a hf
     iterate 8 ((first | refine kS hf ?_ | refine mN hf hS ?_ | refine step_l (st_rd hf (Wn.some hf rfl rfl rfl rfl) (rd_move hf rfl rfl) hS rfl rfl ?_) | refine pF hf hS ?_ | refine step_l (st_rd hf (Wn.some hf rfl rfl rfl rfl) (rd_pick_f hf rfl rfl rfl) hS rfl rfl ?_)); clear hf; intro a hf)
     refine fG hf hS fb32_8 ?_; clear hf; intro a hf
     refine sG hf hS (rd_ld hf ag29) ?_; clear hf; intro a hf
     refine sG hf hS (rd_len hf rfl rfl Tryz.underlying29) ?_; clear hf; intro a hf
     refine step_l (st_rdB hf (Wn.some hf rfl rfl rfl rfl) (rd_gtr hf rfl rfl rfl) hS rfl rfl ?_ ?_)
     ·
      clear hf; intro hc57 a hf
      iterate 7 ((first | refine kS hf ?_ | refine mN hf hS ?_ | refine pT hf hS ?_ | refine pF hf hS ?_); clear hf; intro a hf)
      refine done_l (t_normal ?_)
      refine c_true hf rfl ?_
      refine c_seq (c_region ?_)
      refine aN hf hS ?_; clear hf; intro a hf
      refine done_l (t_normal (c_ret (t_ret ?_)))
      refine eT hf ?_
      refine ⟨congrArg Value.bool (mayM_no hpl ?_).symm, hS.subA⟩; clear hf hS; rintro ⟨h1, h2, h3, h4, h5, h6, h7, h8, h9, h10, h11⟩; dsimp only at h1 h2 h3 h4 h5 h6 h7 h8 h9 h10 h11; simp only [List.length_map] at h9 h10 h11; first | omega | (have h8' := h8 (by omega); omega) | (have h9' := h9 (by assumption); omega) | (cases hh : hasP 4 kd with | true => (have h9' := h9 hh; omega) | false => (have h0 := hE0 hh; have := mostP_pos kd; omega)) | (have h9' := h9 (by rw [show kd = 3 by omega]; rfl); have e1 : leastP kd = 1 := if_pos (by omega); have e2 : mostP kd = 1 := if_pos (by omega); omega)
     clear hf; intro hc57 a hf
     iterate 2 ((first | refine mN hf hS ?_ | refine pF hf hS ?_); clear hf; intro a hf)
     refine fG hf hS fb32_9 ?_; clear hf; intro a hf
     refine sG hf hS (rd_ld hf ag30) ?_; clear hf; intro a hf
     refine sG hf hS (rd_len hf rfl rfl Tryz.underlying30) ?_; clear hf; intro a hf
     refine step_l (st_rdB hf (Wn.some hf rfl rfl rfl rfl) (rd_gtr hf rfl rfl rfl) hS rfl rfl ?_ ?_)
     ·
      clear hf; intro hc58 a hf
      refine pF hf hS ?_; clear hf; intro a hf
      refine done_l (t_normal ?_)
      refine c_true hf rfl ?_
      refine c_seq (c_region ?_)
      refine aN hf hS ?_; clear hf; intro a hf
      refine done_l (t_normal (c_ret (t_ret ?_)))
      refine eT hf ?_
      refine ⟨congrArg Value.bool (mayM_no hpl ?_).symm, hS.subA⟩; clear hf hS; rintro ⟨h1, h2, h3, h4, h5, h6, h7, h8, h9, h10, h11⟩; dsimp only at h1 h2 h3 h4 h5 h6 h7 h8 h9 h10 h11; simp only [List.length_map] at h9 h10 h11; first | omega | (have h8' := h8 (by omega); omega) | (have h9' := h9 (by assumption); omega) | (cases hh : hasP 4 kd with | true => (have h9' := h9 hh; omega) | false => (have h0 := hE0 hh; have := mostP_pos kd; omega)) | (have h9' := h9 (by rw [show kd = 3 by omega]; rfl); have e1 : leastP kd = 1 := if_pos (by omega); have e2 : mostP kd = 1 := if_pos (by omega); omega)
     clear hf; intro hc58 a hf
     refine pF hf hS ?_; clear hf; intro a hf
     refine done_l (t_normal ?_)
     refine c_false hf rfl ?_
     refine c_skip (t_normal (c_seq (c_seq ?_)))
     have hokm : okM (⟨kd, fr, tn, op', fo', ky', bk', es'.map pEnt, ds'.map pDig, ms'.map pDot⟩ : PMsg) := by
      unfold okM; dsimp only; simp only [List.length_map]
      refine ⟨by omega, by omega, by omega, by omega, by omega, by omega, by omega, fun h4 => by omega, fun h9 => by first | omega | (have e1 : leastP kd ≤ es'.length := (by unfold leastP; split <;> omega); omega), by omega, by omega⟩
     refine c_region ?_
     refine fA hf hS fb32_7 ?_; clear hf; intro a hf
     refine sR hf hS (rd_ld hf ag28) ?_; clear hf; intro a hf
     refine sR hf hS (rd_len hf rfl rfl Tryz.underlying28) ?_; clear hf; intro a hf
     refine mN hf hS ?_; clear hf; intro a hf
     refine done_l (t_normal (c_block ?_))
     have hk9 := Keep.ofA hf [(2, 2), (6, 6), (116, 123)]
     refine c_loopK hk9 (α := Nat) (fun k => [(116, .int .i64 (k : Nat))]) (fun k w => Sat W (Blk b_m [.int .i64 kd, .int .i64 fr, .int .i64 tn, .int .i64 op', .int .i64 fo', .string (str ky'), .int .i64 bk', .slice qe' es'.length ce', .slice qd' ds'.length cd', .slice qm' ms'.length cm'] 32 :: R) w ∧ k ≤ es'.length ∧ ((es'.map pEnt).take k).all mayEnt = true) (fun k => es'.length - k) 0 ((hf.keep hk9).kb hf 116 rfl (by first | rfl | exact int_eq (by omega))) ⟨hS.subA, ⟨by omega, rfl⟩⟩ ?_
     clear hf hS; rintro k a w hf ⟨hS, ⟨hk, hok⟩⟩; (try dsimp only [List.cons_append, List.nil_append] at hf)
     refine c_seq (c_region ?_)
     refine sB hf hS (rd_lss hf rfl rfl rfl) ?_ ?_
     ·
      clear hf; intro hc59 a hf
      obtain ⟨x, hget⟩ := get_of_lt (l := es') (k := k) (by omega) rfl; obtain ⟨ad, rfl⟩ := (hve' _ (hS.subA)).some (by omega); have h8 := ((hve' _ (hS.subA)).in hget).1; have hvx := fun w h => ((hve' w h).in hget).2; obtain ⟨ky, ⟨seen, ⟨xq, xc, xs⟩, _⟩, _⟩ := x; obtain ⟨s0, s1, s2, s3, s4, s5, s6, s7, rfl⟩ := len8 h8
      refine done_l (t_normal (c_seq ?_))
      refine c_true hf rfl ?_
      refine c_skip (t_normal (c_seq (c_block (c_seq (c_region ?_)))))
      refine sR hf hS ((by first | exact rd_indexAddrN hf rfl rfl rfl Tryz.underlying28 sz58 (by omega) | exact rd_indexAddr hf rfl rfl rfl Tryz.underlying28 sz58 (by first | decide | omega) (by omega))) ?_; clear hf; intro a hf
      refine sR hf hS (rd_loadN hf rfl rfl ag58 sz58 (by intro _ h; exact (show AggAt _ _ _ [.string (str ky), .int .i64 s0, .int .i64 s1, .int .i64 s2, .int .i64 s3, .int .i64 s4, .int .i64 s5, .int .i64 s6, .int .i64 s7, .slice xq xs.length xc] from (hve' _ (h.subA)).el hget))) ?_; clear hf; intro a hf
      refine sA hf hS zr58 ?_
      clear hf hS; intro b_e a w hf hS
      refine sS hf hS sz58 ?_
      clear hf hS; intro a w hf hS
      refine done_l (t_normal (c_seq (c_region ?_)))
      refine sR hf hS (rd_ldN hf ag58 sz58) ?_; clear hf; intro a hf
      refine step_l (st_call hf (Wn.none rfl) rfl rfl rfl fn32 (REMay_c _ _ _ _ _ _ _ _ _ _ _ _ hS (fun _ h => hvx _ (h.subA))) rfl rfl ?_)
      clear hf hS; rintro v a w ⟨rfl, hS⟩ hf
      first | refine split_dec (d := 121) hf rfl ?_ ?_ | refine split_bool (d := 121) hf rfl ?_ ?_
      ·
       clear hf; intro hc61 hf
       have hEN : mayEnt (ky, [s0, s1, s2, s3, s4, s5, s6, s7], xs.map pVal) = true := by first | exact hc61 | exact decide_eq_true hc61
       refine nT hf hS ?_; clear hf; intro a hf
       refine done_l (t_normal ?_)
       refine c_false hf rfl ?_
       refine c_skip (b_normal (t_normal (c_region ?_)))
       refine sP hf hS ?_; clear hf; intro a hf
       refine mN hf hS ?_; clear hf; intro a hf
       refine done_l ?_
       refine t_normal ⟨k + 1, ((hf.backA hk9).kb hf 116 rfl (by first | rfl | exact int_eq (by omega))), ⟨hS.subA, ⟨by omega, all_step (map_get pEnt hget) hok hEN⟩⟩, by first | omega | (simp only []; omega)⟩
      clear hf; intro hc61 hf
      have hEN : mayEnt (ky, [s0, s1, s2, s3, s4, s5, s6, s7], xs.map pVal) = false := by first | exact hc61 | exact decide_eq_false hc61
      refine nT hf hS ?_; clear hf; intro a hf
      refine done_l (t_normal ?_)
      refine c_true hf rfl ?_
      refine c_seq (c_region ?_)
      refine aN hf hS ?_; clear hf; intro a hf
      refine done_l (t_normal (c_ret (b_ret (t_ret (t_ret (b_ret (t_ret ?_)))))))
      refine eT hf ?_
      exact ⟨congrArg Value.bool (mayM_f1 hpl (all_no (map_get pEnt hget) hEN)).symm, hS.subA⟩
     clear hf; intro hc59 a hf
     obtain rfl : k = es'.length := by omega
     have hE := all_done hok
     refine done_l (t_normal (c_seq ?_))
     refine c_false hf rfl ?_
     refine c_exit (t_exit (t_exit (b_exit (t_normal (c_seq (c_seq (c_region ?_)))))))
     refine fA hf hS fb32_8 ?_; clear hf; intro a hf
     refine sR hf hS (rd_ld hf ag29) ?_; clear hf; intro a hf
     refine sR hf hS (rd_len hf rfl rfl Tryz.underlying29) ?_; clear hf; intro a hf
     refine mN hf hS ?_; clear hf; intro a hf
     refine done_l (t_normal (c_block ?_))
     have hk10 := Keep.ofA hf [(2, 2), (8, 8), (127, 134)]
     refine c_loopK hk10 (α := Nat) (fun k => [(127, .int .i64 (k : Nat))]) (fun k w => Sat W (Blk b_m [.int .i64 kd, .int .i64 fr, .int .i64 tn, .int .i64 op', .int .i64 fo', .string (str ky'), .int .i64 bk', .slice qe' es'.length ce', .slice qd' ds'.length cd', .slice qm' ms'.length cm'] 32 :: R) w ∧ k ≤ ds'.length ∧ ((ds'.map pDig).take k).all mayDig = true) (fun k => ds'.length - k) 0 ((hf.keep hk10).kb hf 127 rfl (by first | rfl | exact int_eq (by omega))) ⟨hS.subA, ⟨by omega, rfl⟩⟩ ?_
     clear hf hS; rintro k a w hf ⟨hS, ⟨hk, hok⟩⟩; (try dsimp only [List.cons_append, List.nil_append] at hf)
     refine c_seq (c_region ?_)
     refine sB hf hS (rd_lss hf rfl rfl rfl) ?_ ?_
     ·
      clear hf; intro hc62 a hf
      obtain ⟨x, hget⟩ := get_of_lt (l := ds') (k := k) (by omega) rfl; obtain ⟨ad, rfl⟩ := (hvd' _ (hS.subA)).some (by omega); have h8 := ((hvd' _ (hS.subA)).in hget).1; have hvx := fun w h => ((hvd' w h).in hget).2; obtain ⟨ky, seen, ⟨xq, xc, xs⟩, _⟩ := x; obtain ⟨s0, s1, s2, s3, s4, s5, s6, s7, rfl⟩ := len8 h8
      refine done_l (t_normal (c_seq ?_))
      refine c_true hf rfl ?_
      refine c_skip (t_normal (c_seq (c_block (c_seq (c_region ?_)))))
      refine sR hf hS ((by first | exact rd_indexAddrN hf rfl rfl rfl Tryz.underlying29 sz61 (by omega) | exact rd_indexAddr hf rfl rfl rfl Tryz.underlying29 sz61 (by first | decide | omega) (by omega))) ?_; clear hf; intro a hf
      refine sR hf hS (rd_loadN hf rfl rfl ag61 sz61 (by intro _ h; exact (show AggAt _ _ _ [.string (str ky), .int .i64 s0, .int .i64 s1, .int .i64 s2, .int .i64 s3, .int .i64 s4, .int .i64 s5, .int .i64 s6, .int .i64 s7, .slice xq xs.length xc] from (hvd' _ (h.subA)).el hget))) ?_; clear hf; intro a hf
      refine sA hf hS zr61 ?_
      clear hf hS; intro b_d a w hf hS
      refine sS hf hS sz61 ?_
      clear hf hS; intro a w hf hS
      refine done_l (t_normal (c_seq (c_region ?_)))
      refine sR hf hS (rd_ldN hf ag61 sz61) ?_; clear hf; intro a hf
      refine step_l (st_call hf (Wn.none rfl) rfl rfl rfl fn33 (RDMay_c _ _ _ _ _ _ _ _ _ _ _ _ hS (fun _ h => hvx _ (h.subA))) rfl rfl ?_)
      clear hf hS; rintro v a w ⟨rfl, hS⟩ hf
      first | refine split_dec (d := 132) hf rfl ?_ ?_ | refine split_bool (d := 132) hf rfl ?_ ?_
      ·
       clear hf; intro hc64 hf
       have hDN : mayDig (ky, [s0, s1, s2, s3, s4, s5, s6, s7], xs.map pDot) = true := by first | exact hc64 | exact decide_eq_true hc64
       refine nT hf hS ?_; clear hf; intro a hf
       refine done_l (t_normal ?_)
       refine c_false hf rfl ?_
       refine c_skip (b_normal (t_normal (c_region ?_)))
       refine sP hf hS ?_; clear hf; intro a hf
       refine mN hf hS ?_; clear hf; intro a hf
       refine done_l ?_
       refine t_normal ⟨k + 1, ((hf.backA hk10).kb hf 127 rfl (by first | rfl | exact int_eq (by omega))), ⟨hS.subA, ⟨by omega, all_step (map_get pDig hget) hok hDN⟩⟩, by first | omega | (simp only []; omega)⟩
      clear hf; intro hc64 hf
      have hDN : mayDig (ky, [s0, s1, s2, s3, s4, s5, s6, s7], xs.map pDot) = false := by first | exact hc64 | exact decide_eq_false hc64
      refine nT hf hS ?_; clear hf; intro a hf
      refine done_l (t_normal ?_)
      refine c_true hf rfl ?_
      refine c_seq (c_region ?_)
      refine aN hf hS ?_; clear hf; intro a hf
      refine done_l (t_normal (c_ret (b_ret (t_ret (t_ret (b_ret (t_ret ?_)))))))
      refine eT hf ?_
      exact ⟨congrArg Value.bool (mayM_f2 hpl (all_no (map_get pDig hget) hDN)).symm, hS.subA⟩
     clear hf; intro hc62 a hf
     obtain rfl : k = ds'.length := by omega
     have hD := all_done hok
     refine done_l (t_normal (c_seq ?_))
     refine c_false hf rfl ?_
     refine c_exit (t_exit (t_exit (b_exit (t_normal (c_seq (c_seq (c_region ?_)))))))
     refine fA hf hS fb32_9 ?_; clear hf; intro a hf
     refine sR hf hS (rd_ld hf ag30) ?_; clear hf; intro a hf
     refine sR hf hS (rd_len hf rfl rfl Tryz.underlying30) ?_; clear hf; intro a hf
     refine mN hf hS ?_; clear hf; intro a hf
     refine done_l (t_normal (c_block ?_))
     have hk11 := Keep.ofA hf [(2, 2), (10, 10), (138, 145)]
     refine c_loopK hk11 (α := Nat) (fun k => [(138, .int .i64 (k : Nat))]) (fun k w => Sat W (Blk b_m [.int .i64 kd, .int .i64 fr, .int .i64 tn, .int .i64 op', .int .i64 fo', .string (str ky'), .int .i64 bk', .slice qe' es'.length ce', .slice qd' ds'.length cd', .slice qm' ms'.length cm'] 32 :: R) w ∧ k ≤ ms'.length ∧ ((ms'.map pDot).take k).all mayMem = true) (fun k => ms'.length - k) 0 ((hf.keep hk11).kb hf 138 rfl (by first | rfl | exact int_eq (by omega))) ⟨hS.subA, ⟨by omega, rfl⟩⟩ ?_
     clear hf hS; rintro k a w hf ⟨hS, ⟨hk, hok⟩⟩; (try dsimp only [List.cons_append, List.nil_append] at hf)
     refine c_seq (c_region ?_)
     refine sB hf hS (rd_lss hf rfl rfl rfl) ?_ ?_
     ·
      clear hf; intro hc65 a hf
      obtain ⟨x, hget⟩ := get_of_lt (l := ms') (k := k) (by omega) rfl; obtain ⟨ad, rfl⟩ := (hvm' _ (hS.subA)).some (by omega); obtain ⟨dn, dc, _⟩ := x
      refine done_l (t_normal (c_seq ?_))
      refine c_true hf rfl ?_
      refine c_skip (t_normal (c_seq (c_block (c_seq (c_region ?_)))))
      refine sR hf hS ((by first | exact rd_indexAddrN hf rfl rfl rfl Tryz.underlying30 sz73 (by omega) | exact rd_indexAddr hf rfl rfl rfl Tryz.underlying30 sz73 (by first | decide | omega) (by omega))) ?_; clear hf; intro a hf
      refine sR hf hS (rd_loadN hf rfl rfl ag73 sz73 (by intro _ h; exact (show AggAt _ _ _ [.int .i64 dn, .int .i64 dc] from (hvm' _ (h.subA)).el hget))) ?_; clear hf; intro a hf
      refine sA hf hS zr73 ?_
      clear hf hS; intro b_x a w hf hS
      refine sS hf hS sz73 ?_
      clear hf hS; intro a w hf hS
      refine done_l (t_normal (c_seq (c_region ?_)))
      refine sR hf hS (rd_ldN hf ag73 sz73) ?_; clear hf; intro a hf
      refine step_l (st_call hf (Wn.none rfl) rfl rfl rfl fn34 (RMMay_c _ _ hS) rfl rfl ?_)
      clear hf hS; rintro v a w ⟨rfl, hS⟩ hf
      first | refine split_dec (d := 143) hf rfl ?_ ?_ | refine split_bool (d := 143) hf rfl ?_ ?_
      ·
       clear hf; intro hc67 hf
       have hMN : mayMem (dn, dc) = true := by first | exact hc67 | exact decide_eq_true hc67
       refine nT hf hS ?_; clear hf; intro a hf
       refine done_l (t_normal ?_)
       refine c_false hf rfl ?_
       refine c_skip (b_normal (t_normal (c_region ?_)))
       refine sP hf hS ?_; clear hf; intro a hf
       refine mN hf hS ?_; clear hf; intro a hf
       refine done_l ?_
       refine t_normal ⟨k + 1, ((hf.backA hk11).kb hf 138 rfl (by first | rfl | exact int_eq (by omega))), ⟨hS.subA, ⟨by omega, all_step (map_get pDot hget) hok hMN⟩⟩, by first | omega | (simp only []; omega)⟩
      clear hf; intro hc67 hf
      have hMN : mayMem (dn, dc) = false := by first | exact hc67 | exact decide_eq_false hc67
      refine nT hf hS ?_; clear hf; intro a hf
      refine done_l (t_normal ?_)
      refine c_true hf rfl ?_
      refine c_seq (c_region ?_)
      refine aN hf hS ?_; clear hf; intro a hf
      refine done_l (t_normal (c_ret (b_ret (t_ret (t_ret (b_ret (t_ret ?_)))))))
      refine eT hf ?_
      exact ⟨congrArg Value.bool (mayM_f3 hpl (all_no (map_get pDot hget) hMN)).symm, hS.subA⟩
     clear hf; intro hc65 a hf
     obtain rfl : k = ms'.length := by omega
     have hM := all_done hok
     refine done_l (t_normal (c_seq ?_))
     refine c_false hf rfl ?_
     refine c_exit (t_exit (t_exit (b_exit (t_normal (c_seq (c_region ?_))))))
     refine aN hf hS ?_; clear hf; intro a hf
     refine done_l (t_normal (c_ret ?_))
     refine eT hf ?_
     exact ⟨congrArg Value.bool (mayM_yes hpl hokm hE hD hM).symm, hS.subA⟩
    clear hf; intro hc10 hf
    refine sG hf hS (rd_not hf rfl rfl) ?_; clear hf; intro a hf
    iterate 57 ((first | refine kS hf ?_ | refine kU hf ?_ | refine mN hf hS ?_ | refine pT hf hS ?_ | refine pF hf hS ?_); clear hf; intro a hf)
    refine done_l (t_normal ?_)
    refine c_true hf rfl ?_
    refine c_seq (c_region ?_)
    refine aN hf hS ?_; clear hf; intro a hf
    refine done_l (t_normal (c_ret (t_ret ?_)))
    refine eT hf ?_
    refine ⟨congrArg Value.bool (mayM_no hpl ?_).symm, hS.subA⟩; clear hf hS; rintro ⟨h1, h2, h3, h4, h5, h6, h7, h8, h9, h10, h11⟩; dsimp only at h1 h2 h3 h4 h5 h6 h7 h8 h9 h10 h11; simp only [List.length_map] at h9 h10 h11; first | omega | (have h8' := h8 (by omega); omega) | (have h9' := h9 (by assumption); omega) | (cases hh : hasP 4 kd with | true => (have h9' := h9 hh; omega) | false => (have h0 := hE0 hh; have := mostP_pos kd; omega)) | (have h9' := h9 (by rw [show kd = 3 by omega]; rfl); have e1 : leastP kd = 1 := if_pos (by omega); have e2 : mostP kd = 1 := if_pos (by omega); omega)
  clear hf; intro hc4 hf
  refine sG hf hS (rd_not hf rfl rfl) ?_; clear hf; intro a hf
  refine pF hf hS ?_; clear hf; intro a hf
  refine done_l (t_normal ?_)
  refine c_true hf rfl ?_
  refine c_seq (c_region ?_)
  refine aN hf hS ?_; clear hf; intro a hf
  refine done_l (t_normal (c_ret (t_ret ?_)))
  refine eT hf ?_
  refine ⟨congrArg Value.bool (mayM_no rfl ?_).symm, hS.subA⟩; clear hf hS; rintro ⟨h1, h2, h3, _⟩; dsimp only [plP] at h1 h2 h3; omega
 clear hf; intro hc3 hf
 refine sG hf hS (rd_not hf rfl rfl) ?_; clear hf; intro a hf
 iterate 7 ((first | refine kS hf ?_ | refine mN hf hS ?_ | refine pT hf hS ?_ | refine pF hf hS ?_); clear hf; intro a hf)
 refine done_l (t_normal ?_)
 refine c_true hf rfl ?_
 refine c_seq (c_region ?_)
 refine aN hf hS ?_; clear hf; intro a hf
 refine done_l (t_normal (c_ret (t_ret ?_)))
 refine eT hf ?_
 refine ⟨congrArg Value.bool (mayM_no rfl ?_).symm, hS.subA⟩; clear hf hS; rintro ⟨h1, h2, h3, _⟩; dsimp only [plP] at h1 h2 h3; omega

end Go.Proofs.YtcflbdpjoanbgaaGreat
