/-
  Walked: Mym.
  Conditions: none.
-/
import Derived.Test.YtcflbdpjoanbgaaGreatPla1
namespace Go.Proofs.YtcflbdpjoanbgaaGreat
open Go Go.Sl
set_option linter.unusedVariables false
set_option linter.unusedSimpArgs false

theorem May_c (kd fr tn op fo : Int) (ky : List UInt8) (bk : Int) (es : List EntT) (qe : Option Addr) (ce : Nat) (ds : List DigT) (qd : Option Addr) (cd : Nat) (ms : List MemT) (qm : Option Addr) (cm : Nat) {W : World} {R : List HP} {w : World} (hS : Sat W (R) w) (hve : ∀ w, Sat W R w → EntsAt w (qe, ce, es)) (hvd : ∀ w, Sat W R w → DigsAt w (qd, cd, ds)) (hvm : ∀ w, Sat W R w → DotsAt w (qm, cm, ms)) (hle : es.length ≤ 9223372036854775806) (hld : ds.length ≤ 9223372036854775806) (hlm : ms.length ≤ 9223372036854775806) : Calls Tryz.prog 39 [.agg #[.int .i64 kd, .int .i64 fr, .int .i64 tn, .int .i64 op, .int .i64 fo, .string (str ky), .int .i64 bk, .slice qe es.length ce, .slice qd ds.length cd, .slice qm ms.length cm]].toArray w (Ret fun v w' => v = .bool (mayM (⟨kd, fr, tn, op, fo, ky, bk, es.map pEnt, ds.map pDig, ms.map pDot⟩ : PMsg)) ∧ Sat W R w') := by
 refine fn_start 97 Tryz.func39 rfl rfl rfl ?_
 intro a hf
 refine c_seq (c_region ?_)
 refine step_l (st_box hf (Wn.none rfl) hS rfl rfl (by rfl) rfl rfl ?_)
 clear hf hS; intro b_m a w hf hS
 refine aN hf hS ?_; clear hf; intro a hf
 refine done_l (t_normal (c_seq (c_region ?_)))
 refine sR hf hS (rd_ldN hf ag32 sz32) ?_; clear hf; intro a hf
 refine step_l (st_call hf (Wn.none rfl) rfl rfl rfl fn46 (Plain_c _ _ _ _ _ _ _ _ _ _ _ _ _ _ _ _ hS) rfl rfl ?_)
 clear hf hS; rintro v a w ⟨rfl, hS⟩ hf; obtain ⟨op', hop⟩ : ∃ x, plI (hasP 0 kd) op = x := ⟨_, rfl⟩; obtain ⟨fo', hfo⟩ : ∃ x, plI (hasP 1 kd) fo = x := ⟨_, rfl⟩; obtain ⟨ky', hky⟩ : ∃ x, plB (hasP 2 kd) ky = x := ⟨_, rfl⟩; obtain ⟨bk', hbk⟩ : ∃ x, plI (hasP 3 kd) bk = x := ⟨_, rfl⟩; obtain ⟨⟨qe', ce', es'⟩, hes⟩ : ∃ x, plS (hasP 4 kd) (qe, ce, es) = x := ⟨_, rfl⟩; obtain ⟨⟨qd', cd', ds'⟩, hds⟩ : ∃ x, plS (hasP 5 kd) (qd, cd, ds) = x := ⟨_, rfl⟩; obtain ⟨⟨qm', cm', ms'⟩, hms⟩ : ∃ x, plS (hasP 6 kd) (qm, cm, ms) = x := ⟨_, rfl⟩; have hpl := plP_eq (fr := fr) (tn := tn) hop hfo hky hbk hes hds hms; rw [hop, hfo, hky, hbk, hes, hds, hms] at hf; dsimp only [slv] at hf; dsimp only at hpl; have hve' : ∀ w, Sat W R w → EntsAt w (qe', ce', es') := (by intro w h; rw [← hes]; exact plS_at (hve w h) (EntsAt.nil w)); have hvd' : ∀ w, Sat W R w → DigsAt w (qd', cd', ds') := (by intro w h; rw [← hds]; exact plS_at (hvd w h) (DigsAt.nil w)); have hvm' : ∀ w, Sat W R w → DotsAt w (qm', cm', ms') := (by intro w h; rw [← hms]; exact plS_at (hvm w h) (DotsAt.nil w)); have hE0 : hasP 4 kd = false → es'.length = 0 := plS_len0 hes; have hle' := plS_len hes; have hld' := plS_len hds; have hlm' := plS_len hms; dsimp only at hle' hld' hlm'
 refine sS hf hS sz32 ?_
 clear hf hS; intro a w hf hS
 refine done_l (t_normal (c_seq (c_region ?_)))
 refine fA hf hS fb32_0 ?_; clear hf; intro a hf
 refine sR hf hS (rd_ld hf ag3) ?_; clear hf; intro a hf
 refine step_l (st_call hf (Wn.none rfl) rfl rfl rfl fn58 (Entries_c _ hS) rfl rfl ?_)
 clear hf hS; rintro v a w ⟨rfl, hS⟩ hf
 refine mN hf hS ?_; clear hf; intro a hf
 refine sR hf hS (rd_extract hf rfl rfl rfl) ?_; clear hf; intro a hf
 refine sR hf hS (rd_extract hf rfl rfl rfl) ?_; clear hf; intro a hf
 iterate 2 (refine aN hf hS ?_; clear hf; intro a hf)
 refine done_l (t_normal (c_seq (c_block (c_seq (c_seq (c_region ?_))))))
 refine fA hf hS fb32_0 ?_; clear hf; intro a hf
 refine sR hf hS (rd_ld hf ag3) ?_; clear hf; intro a hf
 refine step_l (st_call hf (Wn.none rfl) rfl rfl rfl fn59 (Parts_c _ hS) rfl rfl ?_)
 clear hf hS; rintro v a w ⟨rfl, hS⟩ hf
 refine sB hf hS (rd_eql hf rfl rfl rfl) ?_ ?_
 ·
  clear hf; intro hc2 a hf
  refine aN hf hS ?_; clear hf; intro a hf
  refine done_l (t_normal ?_)
  refine c_true hf rfl ?_
  refine c_skip (t_normal ?_)
  refine c_true hf rfl ?_
  refine c_seq (c_region ?_)
  refine aN hf hS ?_; clear hf; intro a hf
  refine done_l (t_normal (c_ret (b_ret (t_ret ?_))))
  refine eT hf ?_
  first
  | (refine ⟨congrArg Value.bool ((mayM_eq hpl hokm).trans ?_).symm, hS.subA⟩; clear hf hS; dsimp only; first | (rw [hE, hD]; simp; done) | (rw [hE, hD]; rfl) | (rw [hE]; rfl))
  | (refine ⟨congrArg Value.bool (mayM_no hpl ?_).symm, hS.subA⟩; clear hf hS; rintro ⟨h1, h2, h3, h4, h5, h6, h7, h8, h9, h10, h11⟩; dsimp only at h1 h2 h3 h4 h5 h6 h7 h8 h9 h10 h11; simp only [List.length_map] at h9 h10 h11; first | omega | (have h8' := h8 (by omega); omega) | (have h9' := h9 (by assumption); omega))
 clear hf; intro hc2 a hf
 refine aN hf hS ?_; clear hf; intro a hf
 refine done_l (t_normal ?_)
 refine c_false hf rfl ?_
 refine c_seq (c_region ?_)
 refine fA hf hS fb32_1 ?_; clear hf; intro a hf
 refine sR hf hS (rd_ld hf ag3) ?_; clear hf; intro a hf
 refine step_l (st_call hf (Wn.none rfl) rfl rfl rfl fn60 (Within_c _ _ _ hS) rfl rfl ?_)
 clear hf hS; rintro v a w ⟨rfl, hS⟩ hf
 first | refine split_dec (d := 20) hf rfl ?_ ?_ | refine split_bool (d := 20) hf rfl ?_ ?_
 ·
  clear hf; intro hc3 hf
  refine nT hf hS ?_; clear hf; intro a hf
  refine aN hf hS ?_; clear hf; intro a hf
  refine done_l (t_normal ?_)
  refine c_false hf rfl ?_
  refine c_region ?_
  refine fA hf hS fb32_2 ?_; clear hf; intro a hf
  refine sR hf hS (rd_ld hf ag3) ?_; clear hf; intro a hf
  refine step_l (st_call hf (Wn.none rfl) rfl rfl rfl fn60 (Within_c _ _ _ hS) rfl rfl ?_)
  clear hf hS; rintro v a w ⟨rfl, hS⟩ hf
  first | refine split_dec (d := 24) hf rfl ?_ ?_ | refine split_bool (d := 24) hf rfl ?_ ?_
  ·
   clear hf; intro hc4 hf
   refine nT hf hS ?_; clear hf; intro a hf
   refine aN hf hS ?_; clear hf; intro a hf
   refine done_l (t_normal ?_)
   refine c_false hf rfl ?_
   refine c_seq (c_seq (c_region ?_))
   refine fA hf hS fb32_3 ?_; clear hf; intro a hf
   refine sR hf hS (rd_ld hf ag2) ?_; clear hf; intro a hf
   refine sB hf hS (rd_lss hf rfl rfl rfl) ?_ ?_
   ·
    clear hf; intro hc5 a hf
    iterate 6 ((first | refine kS hf ?_ | refine mN hf hS ?_ | refine aN hf hS ?_ | refine pT hf hS ?_); clear hf; intro a hf)
    refine done_l (t_normal ?_)
    refine c_true hf rfl ?_
    refine c_skip (t_normal ?_)
    refine c_true hf rfl ?_
    refine c_seq (c_region ?_)
    refine aN hf hS ?_; clear hf; intro a hf
    refine done_l (t_normal (c_ret (b_ret (t_ret ?_))))
    refine eT hf ?_
    first
    | (refine ⟨congrArg Value.bool ((mayM_eq hpl hokm).trans ?_).symm, hS.subA⟩; clear hf hS; dsimp only; first | (rw [hE, hD]; simp; done) | (rw [hE, hD]; rfl) | (rw [hE]; rfl))
    | (refine ⟨congrArg Value.bool (mayM_no hpl ?_).symm, hS.subA⟩; clear hf hS; rintro ⟨h1, h2, h3, h4, h5, h6, h7, h8, h9, h10, h11⟩; dsimp only at h1 h2 h3 h4 h5 h6 h7 h8 h9 h10 h11; simp only [List.length_map] at h9 h10 h11; first | omega | (have h8' := h8 (by omega); omega) | (have h9' := h9 (by assumption); omega))
   clear hf; intro hc5 a hf
   refine mN hf hS ?_; clear hf; intro a hf
   refine fG hf hS fb32_3 ?_; clear hf; intro a hf
   refine sG hf hS (rd_ld hf ag2) ?_; clear hf; intro a hf
   refine step_l (st_rdB hf (Wn.some hf rfl rfl rfl rfl) (rd_gtr hf rfl rfl rfl) hS rfl rfl ?_ ?_)
   ·
    clear hf; intro hc6 a hf
    iterate 2 ((first | refine aN hf hS ?_ | refine pF hf hS ?_); clear hf; intro a hf)
    refine done_l (t_normal ?_)
    refine c_true hf rfl ?_
    refine c_skip (t_normal ?_)
    refine c_true hf rfl ?_
    refine c_seq (c_region ?_)
    refine aN hf hS ?_; clear hf; intro a hf
    refine done_l (t_normal (c_ret (b_ret (t_ret ?_))))
    refine eT hf ?_
    first
    | (refine ⟨congrArg Value.bool ((mayM_eq hpl hokm).trans ?_).symm, hS.subA⟩; clear hf hS; dsimp only; first | (rw [hE, hD]; simp; done) | (rw [hE, hD]; rfl) | (rw [hE]; rfl))
    | (refine ⟨congrArg Value.bool (mayM_no hpl ?_).symm, hS.subA⟩; clear hf hS; rintro ⟨h1, h2, h3, h4, h5, h6, h7, h8, h9, h10, h11⟩; dsimp only at h1 h2 h3 h4 h5 h6 h7 h8 h9 h10 h11; simp only [List.length_map] at h9 h10 h11; first | omega | (have h8' := h8 (by omega); omega) | (have h9' := h9 (by assumption); omega))
   clear hf; intro hc6 a hf
   iterate 2 ((first | refine aN hf hS ?_ | refine pF hf hS ?_); clear hf; intro a hf)
   refine done_l (t_normal ?_)
   refine c_false hf rfl ?_
   refine c_seq (c_region ?_)
   refine fA hf hS fb32_4 ?_; clear hf; intro a hf
   refine sR hf hS (rd_ld hf ag3) ?_; clear hf; intro a hf
   refine step_l (st_call hf (Wn.none rfl) rfl rfl rfl fn60 (Within_c _ _ _ hS) rfl rfl ?_)
   clear hf hS; rintro v a w ⟨rfl, hS⟩ hf
   first | refine split_dec (d := 37) hf rfl ?_ ?_ | refine split_bool (d := 37) hf rfl ?_ ?_
   ·
    clear hf; intro hc7 hf
    refine nT hf hS ?_; clear hf; intro a hf
    refine aN hf hS ?_; clear hf; intro a hf
    refine done_l (t_normal ?_)
    refine c_false hf rfl ?_
    refine c_region ?_
    refine fA hf hS fb32_6 ?_; clear hf; intro a hf
    refine sR hf hS (rd_ld hf ag3) ?_; clear hf; intro a hf
    refine step_l (st_call hf (Wn.none rfl) rfl rfl rfl fn60 (Within_c _ _ _ hS) rfl rfl ?_)
    clear hf hS; rintro v a w ⟨rfl, hS⟩ hf
    first | refine split_dec (d := 41) hf rfl ?_ ?_ | refine split_bool (d := 41) hf rfl ?_ ?_
    ·
     clear hf; intro hc8 hf
     refine nT hf hS ?_; clear hf; intro a hf
     refine aN hf hS ?_; clear hf; intro a hf
     refine done_l (t_normal ?_)
     refine c_false hf rfl ?_
     refine c_seq (c_region ?_)
     refine fA hf hS fb32_5 ?_; clear hf; intro a hf
     refine sR hf hS (rd_ld hf ag9) ?_; clear hf; intro a hf
     refine sR hf hS (rd_lenS hf rfl rfl Tryz.underlying9) ?_; clear hf; intro a hf
     refine sB hf hS (rd_gtr hf rfl rfl rfl) ?_ ?_
     ·
      clear hf; intro hc9 a hf
      iterate 11 ((first | refine kS hf ?_ | refine kU hf ?_ | refine mN hf hS ?_ | refine aN hf hS ?_ | refine pT hf hS ?_); clear hf; intro a hf)
      refine done_l (t_normal ?_)
      refine c_true hf rfl ?_
      refine c_seq (c_region ?_)
      refine aN hf hS ?_; clear hf; intro a hf
      refine done_l (t_normal (c_ret (b_ret (t_ret ?_))))
      refine eT hf ?_
      first
      | (refine ⟨congrArg Value.bool ((mayM_eq hpl hokm).trans ?_).symm, hS.subA⟩; clear hf hS; dsimp only; first | (rw [hE, hD]; simp; done) | (rw [hE, hD]; rfl) | (rw [hE]; rfl))
      | (refine ⟨congrArg Value.bool (mayM_no hpl ?_).symm, hS.subA⟩; clear hf hS; rintro ⟨h1, h2, h3, h4, h5, h6, h7, h8, h9, h10, h11⟩; dsimp only at h1 h2 h3 h4 h5 h6 h7 h8 h9 h10 h11; simp only [List.length_map] at h9 h10 h11; first | omega | (have h8' := h8 (by omega); omega) | (have h9' := h9 (by assumption); omega))
     clear hf; intro hc9 a hf
     refine mN hf hS ?_; clear hf; intro a hf
     refine fG hf hS fb32_0 ?_; clear hf; intro a hf
     refine sG hf hS (rd_ld hf ag3) ?_; clear hf; intro a hf
     refine step_l (st_rdB hf (Wn.some hf rfl rfl rfl rfl) (rd_eql hf rfl rfl rfl) hS rfl rfl ?_ ?_)
     ·
      clear hf; intro hc10 a hf
      refine sG hf hS (rd_move hf rfl rfl) ?_; clear hf; intro a hf
      refine fG hf hS fb32_5 ?_; clear hf; intro a hf
      refine sG hf hS (rd_ld hf ag9) ?_; clear hf; intro a hf
      refine step_l (st_rdB hf (Wn.some hf rfl rfl rfl rfl) (rd_eqlS hf rfl rfl rfl) hS rfl rfl ?_ ?_)
      ·
       clear hf; intro hc11 a hf
       have hky0 : ky'.length = 0 := by rw [hc11]; rfl
       iterate 3 ((first | refine aN hf hS ?_ | refine step_l (st_rd hf (Wn.some hf rfl rfl rfl rfl) (rd_pick_t hf rfl rfl rfl) hS rfl rfl ?_) | refine pF hf hS ?_); clear hf; intro a hf)
       refine done_l (t_normal ?_)
       refine c_true hf rfl ?_
       refine c_seq (c_region ?_)
       refine aN hf hS ?_; clear hf; intro a hf
       refine done_l (t_normal (c_ret (b_ret (t_ret ?_))))
       refine eT hf ?_
       first
       | (refine ⟨congrArg Value.bool ((mayM_eq hpl hokm).trans ?_).symm, hS.subA⟩; clear hf hS; dsimp only; first | (rw [hE, hD]; simp; done) | (rw [hE, hD]; rfl) | (rw [hE]; rfl))
       | (refine ⟨congrArg Value.bool (mayM_no hpl ?_).symm, hS.subA⟩; clear hf hS; rintro ⟨h1, h2, h3, h4, h5, h6, h7, h8, h9, h10, h11⟩; dsimp only at h1 h2 h3 h4 h5 h6 h7 h8 h9 h10 h11; simp only [List.length_map] at h9 h10 h11; first | omega | (have h8' := h8 (by omega); omega) | (have h9' := h9 (by assumption); omega))
      clear hf; intro hc11 a hf
      have hkyn : ky'.length ≠ 0 := fun h => hc11 (List.eq_nil_of_length_eq_zero h)
      iterate 3 ((first | refine aN hf hS ?_ | refine step_l (st_rd hf (Wn.some hf rfl rfl rfl rfl) (rd_pick_t hf rfl rfl rfl) hS rfl rfl ?_) | refine pF hf hS ?_); clear hf; intro a hf)
      refine done_l (t_normal ?_)
      refine c_false hf rfl ?_
      refine c_seq (c_seq (c_region ?_))
      refine fA hf hS fb32_0 ?_; clear hf; intro a hf
      refine sR hf hS (rd_ld hf ag3) ?_; clear hf; intro a hf
      refine step_l (st_call hf (Wn.none rfl) rfl rfl rfl fn59 (Parts_c _ hS) rfl rfl ?_)
      clear hf hS; rintro v a w ⟨rfl, hS⟩ hf
      refine sR hf hS (rd_and hf rfl rfl rfl (and_parts kd 4 16 (by decide) (by decide))) ?_; clear hf; intro a hf
      refine sB hf hS (rd_neq hf rfl rfl rfl) ?_ ?_
      ·
       clear hf; intro hc12 a hf
       have h16 := has_t (k := kd) (i := 4) (q := 16) (by decide) (decide_eq_true hc12)
       refine mN hf hS ?_; clear hf; intro a hf
       refine fG hf hS fb32_7 ?_; clear hf; intro a hf
       refine sG hf hS (rd_ld hf ag28) ?_; clear hf; intro a hf
       refine sG hf hS (rd_len hf rfl rfl Tryz.underlying28) ?_; clear hf; intro a hf
       iterate 2 (refine step_l (st_rd hf (Wn.some hf rfl rfl rfl rfl) (rd_move hf rfl rfl) hS rfl rfl ?_); clear hf; intro a hf)
       refine step_l (st_call hf (Wn.some hf rfl rfl rfl rfl) rfl rfl rfl fn60 (Within_c _ _ _ hS) rfl rfl ?_)
       clear hf hS; rintro v a w ⟨rfl, hS⟩ hf
       first | refine split_dec (d := 70) hf rfl ?_ ?_ | refine split_bool (d := 70) hf rfl ?_ ?_
       ·
        clear hf; intro hc13 hf
        refine sG hf hS (rd_not hf rfl rfl) ?_; clear hf; intro a hf
        iterate 2 ((first | refine aN hf hS ?_ | refine pT hf hS ?_); clear hf; intro a hf)
        refine done_l (t_normal ?_)
        refine c_false hf rfl ?_
        refine c_seq (c_region ?_)
        refine fA hf hS fb32_8 ?_; clear hf; intro a hf
        refine sR hf hS (rd_ld hf ag29) ?_; clear hf; intro a hf
        refine sR hf hS (rd_len hf rfl rfl Tryz.underlying29) ?_; clear hf; intro a hf
        refine sB hf hS (rd_gtr hf rfl rfl rfl) ?_ ?_
        ·
         clear hf; intro hc14 a hf
         refine aN hf hS ?_; clear hf; intro a hf
         refine done_l (t_normal ?_)
         refine c_true hf rfl ?_
         refine c_skip (t_normal ?_)
         refine c_true hf rfl ?_
         refine c_seq (c_region ?_)
         refine aN hf hS ?_; clear hf; intro a hf
         refine done_l (t_normal (c_ret (b_ret (t_ret ?_))))
         refine eT hf ?_
         first
         | (refine ⟨congrArg Value.bool ((mayM_eq hpl hokm).trans ?_).symm, hS.subA⟩; clear hf hS; dsimp only; first | (rw [hE, hD]; simp; done) | (rw [hE, hD]; rfl) | (rw [hE]; rfl))
         | (refine ⟨congrArg Value.bool (mayM_no hpl ?_).symm, hS.subA⟩; clear hf hS; rintro ⟨h1, h2, h3, h4, h5, h6, h7, h8, h9, h10, h11⟩; dsimp only at h1 h2 h3 h4 h5 h6 h7 h8 h9 h10 h11; simp only [List.length_map] at h9 h10 h11; first | omega | (have h8' := h8 (by omega); omega) | (have h9' := h9 (by assumption); omega))
        clear hf; intro hc14 a hf
        refine aN hf hS ?_; clear hf; intro a hf
        refine done_l (t_normal ?_)
        refine c_false hf rfl ?_
        refine c_region ?_
        refine fA hf hS fb32_9 ?_; clear hf; intro a hf
        refine sR hf hS (rd_ld hf ag30) ?_; clear hf; intro a hf
        refine sR hf hS (rd_len hf rfl rfl Tryz.underlying30) ?_; clear hf; intro a hf
        refine sB hf hS (rd_gtr hf rfl rfl rfl) ?_ ?_
        ·
         clear hf; intro hc15 a hf
         refine aN hf hS ?_; clear hf; intro a hf
         refine done_l (t_normal ?_)
         refine c_true hf rfl ?_
         refine c_seq (c_region ?_)
         refine aN hf hS ?_; clear hf; intro a hf
         refine done_l (t_normal (c_ret (b_ret (t_ret ?_))))
         refine eT hf ?_
         first
         | (refine ⟨congrArg Value.bool ((mayM_eq hpl hokm).trans ?_).symm, hS.subA⟩; clear hf hS; dsimp only; first | (rw [hE, hD]; simp; done) | (rw [hE, hD]; rfl) | (rw [hE]; rfl))
         | (refine ⟨congrArg Value.bool (mayM_no hpl ?_).symm, hS.subA⟩; clear hf hS; rintro ⟨h1, h2, h3, h4, h5, h6, h7, h8, h9, h10, h11⟩; dsimp only at h1 h2 h3 h4 h5 h6 h7 h8 h9 h10 h11; simp only [List.length_map] at h9 h10 h11; first | omega | (have h8' := h8 (by omega); omega) | (have h9' := h9 (by assumption); omega))
        clear hf; intro hc15 a hf
        refine aN hf hS ?_; clear hf; intro a hf
        refine done_l (t_normal ?_)
        refine c_false hf rfl ?_
        refine c_skip (b_normal (t_normal (c_seq ?_)))
        have hokm : okM (⟨kd, fr, tn, op', fo', ky', bk', es'.map pEnt, ds'.map pDig, ms'.map pDot⟩ : PMsg) := by
         unfold okM; dsimp only; simp only [List.length_map]
         refine ⟨by omega, by omega, by omega, by omega, by omega, by omega, by omega, fun h4 => by omega, fun h9 => by first | omega | (rw [h16] at h9; cases h9), by omega, by omega⟩
        refine c_region ?_
        refine fA hf hS fb32_7 ?_; clear hf; intro a hf
        refine sR hf hS (rd_ld hf ag28) ?_; clear hf; intro a hf
        refine step_l (st_call hf (Wn.none rfl) rfl rfl rfl fn61 (CtEntry_c es' _ _ hS (fun _ h => hve' _ (h.subA)) (by omega)) rfl rfl ?_)
        clear hf hS; rintro v a w ⟨rfl, hS⟩ hf
        first | refine split_dec (d := 83) hf rfl ?_ ?_ | refine split_bool (d := 83) hf rfl ?_ ?_
        ·
         clear hf; intro hc16 hf
         have hE : (es'.map pEnt).all mayEnt = false := by simpa using hc16
         refine nT hf hS ?_; clear hf; intro a hf
         iterate 13 ((first | refine kS hf ?_ | refine mN hf hS ?_ | refine aN hf hS ?_ | refine pF hf hS ?_); clear hf; intro a hf)
         refine done_l (t_normal (c_ret ?_))
         refine eT hf ?_
         first
         | (refine ⟨congrArg Value.bool ((mayM_eq hpl hokm).trans ?_).symm, hS.subA⟩; clear hf hS; dsimp only; first | (rw [hE, hD]; simp; done) | (rw [hE, hD]; rfl) | (rw [hE]; rfl))
         | (refine ⟨congrArg Value.bool (mayM_no hpl ?_).symm, hS.subA⟩; clear hf hS; rintro ⟨h1, h2, h3, h4, h5, h6, h7, h8, h9, h10, h11⟩; dsimp only at h1 h2 h3 h4 h5 h6 h7 h8 h9 h10 h11; simp only [List.length_map] at h9 h10 h11; first | omega | (have h8' := h8 (by omega); omega) | (have h9' := h9 (by assumption); omega))
        clear hf; intro hc16 hf
        have hE : (es'.map pEnt).all mayEnt = true := by simpa using hc16
        refine nT hf hS ?_; clear hf; intro a hf
        refine mN hf hS ?_; clear hf; intro a hf
        refine fG hf hS fb32_8 ?_; clear hf; intro a hf
        refine sG hf hS (rd_ld hf ag29) ?_; clear hf; intro a hf
        refine step_l (st_call hf (Wn.some hf rfl rfl rfl rfl) rfl rfl rfl fn64 (CtDigest_c ds' _ _ hS (fun _ h => hvd' _ (h.subA)) (by omega)) rfl rfl ?_)
        clear hf hS; rintro v a w ⟨rfl, hS⟩ hf
        first | refine split_dec (d := 88) hf rfl ?_ ?_ | refine split_bool (d := 88) hf rfl ?_ ?_
        ·
         clear hf; intro hc17 hf
         have hD : (ds'.map pDig).all mayDig = false := by simpa using hc17
         refine sG hf hS (rd_not hf rfl rfl) ?_; clear hf; intro a hf
         iterate 8 ((first | refine kS hf ?_ | refine mN hf hS ?_ | refine aN hf hS ?_ | refine pT hf hS ?_ | refine pF hf hS ?_); clear hf; intro a hf)
         refine done_l (t_normal (c_ret ?_))
         refine eT hf ?_
         first
         | (refine ⟨congrArg Value.bool ((mayM_eq hpl hokm).trans ?_).symm, hS.subA⟩; clear hf hS; dsimp only; first | (rw [hE, hD]; simp; done) | (rw [hE, hD]; rfl) | (rw [hE]; rfl))
         | (refine ⟨congrArg Value.bool (mayM_no hpl ?_).symm, hS.subA⟩; clear hf hS; rintro ⟨h1, h2, h3, h4, h5, h6, h7, h8, h9, h10, h11⟩; dsimp only at h1 h2 h3 h4 h5 h6 h7 h8 h9 h10 h11; simp only [List.length_map] at h9 h10 h11; first | omega | (have h8' := h8 (by omega); omega) | (have h9' := h9 (by assumption); omega))
        clear hf; intro hc17 hf
        have hD : (ds'.map pDig).all mayDig = true := by simpa using hc17
        refine sG hf hS (rd_not hf rfl rfl) ?_; clear hf; intro a hf
        iterate 2 ((first | refine mN hf hS ?_ | refine pT hf hS ?_); clear hf; intro a hf)
        refine fG hf hS fb32_9 ?_; clear hf; intro a hf
        refine sG hf hS (rd_ld hf ag30) ?_; clear hf; intro a hf
        refine step_l (st_call hf (Wn.some hf rfl rfl rfl rfl) rfl rfl rfl fn67 (CtMember_c ms' _ _ hS (fun _ h => hvm' _ (h.subA)) (by omega)) rfl rfl ?_)
        clear hf hS; rintro v a w ⟨rfl, hS⟩ hf
        refine sG hf hS (rd_not hf rfl rfl) ?_; clear hf; intro a hf
        iterate 2 ((first | refine aN hf hS ?_ | refine pT hf hS ?_); clear hf; intro a hf)
        refine done_l (t_normal (c_ret ?_))
        refine eT hf ?_
        first
        | (refine ⟨congrArg Value.bool ((mayM_eq hpl hokm).trans ?_).symm, hS.subA⟩; clear hf hS; dsimp only; first | (rw [hE, hD]; simp; done) | (rw [hE, hD]; rfl) | (rw [hE]; rfl))
        | (refine ⟨congrArg Value.bool (mayM_no hpl ?_).symm, hS.subA⟩; clear hf hS; rintro ⟨h1, h2, h3, h4, h5, h6, h7, h8, h9, h10, h11⟩; dsimp only at h1 h2 h3 h4 h5 h6 h7 h8 h9 h10 h11; simp only [List.length_map] at h9 h10 h11; first | omega | (have h8' := h8 (by omega); omega) | (have h9' := h9 (by assumption); omega))
       clear hf; intro hc13 hf
       refine sG hf hS (rd_not hf rfl rfl) ?_; clear hf; intro a hf
       iterate 2 ((first | refine aN hf hS ?_ | refine pT hf hS ?_); clear hf; intro a hf)
       refine done_l (t_normal ?_)
       refine c_true hf rfl ?_
       refine c_skip (t_normal ?_)
       refine c_true hf rfl ?_
       refine c_seq (c_region ?_)
       refine aN hf hS ?_; clear hf; intro a hf
       refine done_l (t_normal (c_ret (b_ret (t_ret ?_))))
       refine eT hf ?_
       first
       | (refine ⟨congrArg Value.bool ((mayM_eq hpl hokm).trans ?_).symm, hS.subA⟩; clear hf hS; dsimp only; first | (rw [hE, hD]; simp; done) | (rw [hE, hD]; rfl) | (rw [hE]; rfl))
       | (refine ⟨congrArg Value.bool (mayM_no hpl ?_).symm, hS.subA⟩; clear hf hS; rintro ⟨h1, h2, h3, h4, h5, h6, h7, h8, h9, h10, h11⟩; dsimp only at h1 h2 h3 h4 h5 h6 h7 h8 h9 h10 h11; simp only [List.length_map] at h9 h10 h11; first | omega | (have h8' := h8 (by omega); omega) | (have h9' := h9 (by assumption); omega))
      clear hf; intro hc12 a hf
      have h16 := has_f (k := kd) (i := 4) (q := 16) (by decide) (decide_eq_false hc12)
      iterate 10 ((first | refine kS hf ?_ | refine mN hf hS ?_ | refine aN hf hS ?_ | refine pF hf hS ?_); clear hf; intro a hf)
      refine done_l (t_normal ?_)
      refine c_false hf rfl ?_
      refine c_seq (c_region ?_)
      refine fA hf hS fb32_8 ?_; clear hf; intro a hf
      refine sR hf hS (rd_ld hf ag29) ?_; clear hf; intro a hf
      refine sR hf hS (rd_len hf rfl rfl Tryz.underlying29) ?_; clear hf; intro a hf
      refine sB hf hS (rd_gtr hf rfl rfl rfl) ?_ ?_
      ·
       clear hf; intro hc18 a hf
       refine aN hf hS ?_; clear hf; intro a hf
       refine done_l (t_normal ?_)
       refine c_true hf rfl ?_
       refine c_skip (t_normal ?_)
       refine c_true hf rfl ?_
       refine c_seq (c_region ?_)
       refine aN hf hS ?_; clear hf; intro a hf
       refine done_l (t_normal (c_ret (b_ret (t_ret ?_))))
       refine eT hf ?_
       first
       | (refine ⟨congrArg Value.bool ((mayM_eq hpl hokm).trans ?_).symm, hS.subA⟩; clear hf hS; dsimp only; first | (rw [hE, hD]; simp; done) | (rw [hE, hD]; rfl) | (rw [hE]; rfl))
       | (refine ⟨congrArg Value.bool (mayM_no hpl ?_).symm, hS.subA⟩; clear hf hS; rintro ⟨h1, h2, h3, h4, h5, h6, h7, h8, h9, h10, h11⟩; dsimp only at h1 h2 h3 h4 h5 h6 h7 h8 h9 h10 h11; simp only [List.length_map] at h9 h10 h11; first | omega | (have h8' := h8 (by omega); omega) | (have h9' := h9 (by assumption); omega))
      clear hf; intro hc18 a hf
      refine aN hf hS ?_; clear hf; intro a hf
      refine done_l (t_normal ?_)
      refine c_false hf rfl ?_
      refine c_region ?_
      refine fA hf hS fb32_9 ?_; clear hf; intro a hf
      refine sR hf hS (rd_ld hf ag30) ?_; clear hf; intro a hf
      refine sR hf hS (rd_len hf rfl rfl Tryz.underlying30) ?_; clear hf; intro a hf
      refine sB hf hS (rd_gtr hf rfl rfl rfl) ?_ ?_
      ·
       clear hf; intro hc19 a hf
       refine aN hf hS ?_; clear hf; intro a hf
       refine done_l (t_normal ?_)
       refine c_true hf rfl ?_
       refine c_seq (c_region ?_)
       refine aN hf hS ?_; clear hf; intro a hf
       refine done_l (t_normal (c_ret (b_ret (t_ret ?_))))
       refine eT hf ?_
       first
       | (refine ⟨congrArg Value.bool ((mayM_eq hpl hokm).trans ?_).symm, hS.subA⟩; clear hf hS; dsimp only; first | (rw [hE, hD]; simp; done) | (rw [hE, hD]; rfl) | (rw [hE]; rfl))
       | (refine ⟨congrArg Value.bool (mayM_no hpl ?_).symm, hS.subA⟩; clear hf hS; rintro ⟨h1, h2, h3, h4, h5, h6, h7, h8, h9, h10, h11⟩; dsimp only at h1 h2 h3 h4 h5 h6 h7 h8 h9 h10 h11; simp only [List.length_map] at h9 h10 h11; first | omega | (have h8' := h8 (by omega); omega) | (have h9' := h9 (by assumption); omega))
      clear hf; intro hc19 a hf
      refine aN hf hS ?_; clear hf; intro a hf
      refine done_l (t_normal ?_)
      refine c_false hf rfl ?_
      refine c_skip (b_normal (t_normal (c_seq ?_)))
      have hokm : okM (⟨kd, fr, tn, op', fo', ky', bk', es'.map pEnt, ds'.map pDig, ms'.map pDot⟩ : PMsg) := by
       unfold okM; dsimp only; simp only [List.length_map]
       refine ⟨by omega, by omega, by omega, by omega, by omega, by omega, by omega, fun h4 => by omega, fun h9 => by first | omega | (rw [h16] at h9; cases h9), by omega, by omega⟩
      refine c_region ?_
      refine fA hf hS fb32_7 ?_; clear hf; intro a hf
      refine sR hf hS (rd_ld hf ag28) ?_; clear hf; intro a hf
      refine step_l (st_call hf (Wn.none rfl) rfl rfl rfl fn61 (CtEntry_c es' _ _ hS (fun _ h => hve' _ (h.subA)) (by omega)) rfl rfl ?_)
      clear hf hS; rintro v a w ⟨rfl, hS⟩ hf
      first | refine split_dec (d := 83) hf rfl ?_ ?_ | refine split_bool (d := 83) hf rfl ?_ ?_
      ·
       clear hf; intro hc20 hf
       have hE : (es'.map pEnt).all mayEnt = false := by simpa using hc20
       refine nT hf hS ?_; clear hf; intro a hf
       iterate 13 ((first | refine kS hf ?_ | refine mN hf hS ?_ | refine aN hf hS ?_ | refine pF hf hS ?_); clear hf; intro a hf)
       refine done_l (t_normal (c_ret ?_))
       refine eT hf ?_
       first
       | (refine ⟨congrArg Value.bool ((mayM_eq hpl hokm).trans ?_).symm, hS.subA⟩; clear hf hS; dsimp only; first | (rw [hE, hD]; simp; done) | (rw [hE, hD]; rfl) | (rw [hE]; rfl))
       | (refine ⟨congrArg Value.bool (mayM_no hpl ?_).symm, hS.subA⟩; clear hf hS; rintro ⟨h1, h2, h3, h4, h5, h6, h7, h8, h9, h10, h11⟩; dsimp only at h1 h2 h3 h4 h5 h6 h7 h8 h9 h10 h11; simp only [List.length_map] at h9 h10 h11; first | omega | (have h8' := h8 (by omega); omega) | (have h9' := h9 (by assumption); omega))
      clear hf; intro hc20 hf
      have hE : (es'.map pEnt).all mayEnt = true := by simpa using hc20
      refine nT hf hS ?_; clear hf; intro a hf
      refine mN hf hS ?_; clear hf; intro a hf
      refine fG hf hS fb32_8 ?_; clear hf; intro a hf
      refine sG hf hS (rd_ld hf ag29) ?_; clear hf; intro a hf
      refine step_l (st_call hf (Wn.some hf rfl rfl rfl rfl) rfl rfl rfl fn64 (CtDigest_c ds' _ _ hS (fun _ h => hvd' _ (h.subA)) (by omega)) rfl rfl ?_)
      clear hf hS; rintro v a w ⟨rfl, hS⟩ hf
      first | refine split_dec (d := 88) hf rfl ?_ ?_ | refine split_bool (d := 88) hf rfl ?_ ?_
      ·
       clear hf; intro hc21 hf
       have hD : (ds'.map pDig).all mayDig = false := by simpa using hc21
       refine sG hf hS (rd_not hf rfl rfl) ?_; clear hf; intro a hf
       iterate 8 ((first | refine kS hf ?_ | refine mN hf hS ?_ | refine aN hf hS ?_ | refine pT hf hS ?_ | refine pF hf hS ?_); clear hf; intro a hf)
       refine done_l (t_normal (c_ret ?_))
       refine eT hf ?_
       first
       | (refine ⟨congrArg Value.bool ((mayM_eq hpl hokm).trans ?_).symm, hS.subA⟩; clear hf hS; dsimp only; first | (rw [hE, hD]; simp; done) | (rw [hE, hD]; rfl) | (rw [hE]; rfl))
       | (refine ⟨congrArg Value.bool (mayM_no hpl ?_).symm, hS.subA⟩; clear hf hS; rintro ⟨h1, h2, h3, h4, h5, h6, h7, h8, h9, h10, h11⟩; dsimp only at h1 h2 h3 h4 h5 h6 h7 h8 h9 h10 h11; simp only [List.length_map] at h9 h10 h11; first | omega | (have h8' := h8 (by omega); omega) | (have h9' := h9 (by assumption); omega))
      clear hf; intro hc21 hf
      have hD : (ds'.map pDig).all mayDig = true := by simpa using hc21
      refine sG hf hS (rd_not hf rfl rfl) ?_; clear hf; intro a hf
      iterate 2 ((first | refine mN hf hS ?_ | refine pT hf hS ?_); clear hf; intro a hf)
      refine fG hf hS fb32_9 ?_; clear hf; intro a hf
      refine sG hf hS (rd_ld hf ag30) ?_; clear hf; intro a hf
      refine step_l (st_call hf (Wn.some hf rfl rfl rfl rfl) rfl rfl rfl fn67 (CtMember_c ms' _ _ hS (fun _ h => hvm' _ (h.subA)) (by omega)) rfl rfl ?_)
      clear hf hS; rintro v a w ⟨rfl, hS⟩ hf
      refine sG hf hS (rd_not hf rfl rfl) ?_; clear hf; intro a hf
      iterate 2 ((first | refine aN hf hS ?_ | refine pT hf hS ?_); clear hf; intro a hf)
      refine done_l (t_normal (c_ret ?_))
      refine eT hf ?_
      first
      | (refine ⟨congrArg Value.bool ((mayM_eq hpl hokm).trans ?_).symm, hS.subA⟩; clear hf hS; dsimp only; first | (rw [hE, hD]; simp; done) | (rw [hE, hD]; rfl) | (rw [hE]; rfl))
      | (refine ⟨congrArg Value.bool (mayM_no hpl ?_).symm, hS.subA⟩; clear hf hS; rintro ⟨h1, h2, h3, h4, h5, h6, h7, h8, h9, h10, h11⟩; dsimp only at h1 h2 h3 h4 h5 h6 h7 h8 h9 h10 h11; simp only [List.length_map] at h9 h10 h11; first | omega | (have h8' := h8 (by omega); omega) | (have h9' := h9 (by assumption); omega))
     clear hf; intro hc10 a hf
     iterate 7 ((first | refine kS hf ?_ | refine step_l (st_rd hf (Wn.some hf rfl rfl rfl rfl) (rd_move hf rfl rfl) hS rfl rfl ?_) | refine aN hf hS ?_ | refine pF hf hS ?_ | refine step_l (st_rd hf (Wn.some hf rfl rfl rfl rfl) (rd_pick_f hf rfl rfl rfl) hS rfl rfl ?_)); clear hf; intro a hf)
     refine done_l (t_normal ?_)
     refine c_false hf rfl ?_
     refine c_seq (c_seq (c_region ?_))
     refine fA hf hS fb32_0 ?_; clear hf; intro a hf
     refine sR hf hS (rd_ld hf ag3) ?_; clear hf; intro a hf
     refine step_l (st_call hf (Wn.none rfl) rfl rfl rfl fn59 (Parts_c _ hS) rfl rfl ?_)
     clear hf hS; rintro v a w ⟨rfl, hS⟩ hf
     refine sR hf hS (rd_and hf rfl rfl rfl (and_parts kd 4 16 (by decide) (by decide))) ?_; clear hf; intro a hf
     refine sB hf hS (rd_neq hf rfl rfl rfl) ?_ ?_
     ·
      clear hf; intro hc22 a hf
      have h16 := has_t (k := kd) (i := 4) (q := 16) (by decide) (decide_eq_true hc22)
      refine mN hf hS ?_; clear hf; intro a hf
      refine fG hf hS fb32_7 ?_; clear hf; intro a hf
      refine sG hf hS (rd_ld hf ag28) ?_; clear hf; intro a hf
      refine sG hf hS (rd_len hf rfl rfl Tryz.underlying28) ?_; clear hf; intro a hf
      iterate 2 (refine step_l (st_rd hf (Wn.some hf rfl rfl rfl rfl) (rd_move hf rfl rfl) hS rfl rfl ?_); clear hf; intro a hf)
      refine step_l (st_call hf (Wn.some hf rfl rfl rfl rfl) rfl rfl rfl fn60 (Within_c _ _ _ hS) rfl rfl ?_)
      clear hf hS; rintro v a w ⟨rfl, hS⟩ hf
      first | refine split_dec (d := 70) hf rfl ?_ ?_ | refine split_bool (d := 70) hf rfl ?_ ?_
      ·
       clear hf; intro hc23 hf
       refine sG hf hS (rd_not hf rfl rfl) ?_; clear hf; intro a hf
       iterate 2 ((first | refine aN hf hS ?_ | refine pT hf hS ?_); clear hf; intro a hf)
       refine done_l (t_normal ?_)
       refine c_false hf rfl ?_
       refine c_seq (c_region ?_)
       refine fA hf hS fb32_8 ?_; clear hf; intro a hf
       refine sR hf hS (rd_ld hf ag29) ?_; clear hf; intro a hf
       refine sR hf hS (rd_len hf rfl rfl Tryz.underlying29) ?_; clear hf; intro a hf
       refine sB hf hS (rd_gtr hf rfl rfl rfl) ?_ ?_
       ·
        clear hf; intro hc24 a hf
        refine aN hf hS ?_; clear hf; intro a hf
        refine done_l (t_normal ?_)
        refine c_true hf rfl ?_
        refine c_skip (t_normal ?_)
        refine c_true hf rfl ?_
        refine c_seq (c_region ?_)
        refine aN hf hS ?_; clear hf; intro a hf
        refine done_l (t_normal (c_ret (b_ret (t_ret ?_))))
        refine eT hf ?_
        first
        | (refine ⟨congrArg Value.bool ((mayM_eq hpl hokm).trans ?_).symm, hS.subA⟩; clear hf hS; dsimp only; first | (rw [hE, hD]; simp; done) | (rw [hE, hD]; rfl) | (rw [hE]; rfl))
        | (refine ⟨congrArg Value.bool (mayM_no hpl ?_).symm, hS.subA⟩; clear hf hS; rintro ⟨h1, h2, h3, h4, h5, h6, h7, h8, h9, h10, h11⟩; dsimp only at h1 h2 h3 h4 h5 h6 h7 h8 h9 h10 h11; simp only [List.length_map] at h9 h10 h11; first | omega | (have h8' := h8 (by omega); omega) | (have h9' := h9 (by assumption); omega))
       clear hf; intro hc24 a hf
       refine aN hf hS ?_; clear hf; intro a hf
       refine done_l (t_normal ?_)
       refine c_false hf rfl ?_
       refine c_region ?_
       refine fA hf hS fb32_9 ?_; clear hf; intro a hf
       refine sR hf hS (rd_ld hf ag30) ?_; clear hf; intro a hf
       refine sR hf hS (rd_len hf rfl rfl Tryz.underlying30) ?_; clear hf; intro a hf
       refine sB hf hS (rd_gtr hf rfl rfl rfl) ?_ ?_
       ·
        clear hf; intro hc25 a hf
        refine aN hf hS ?_; clear hf; intro a hf
        refine done_l (t_normal ?_)
        refine c_true hf rfl ?_
        refine c_seq (c_region ?_)
        refine aN hf hS ?_; clear hf; intro a hf
        refine done_l (t_normal (c_ret (b_ret (t_ret ?_))))
        refine eT hf ?_
        first
        | (refine ⟨congrArg Value.bool ((mayM_eq hpl hokm).trans ?_).symm, hS.subA⟩; clear hf hS; dsimp only; first | (rw [hE, hD]; simp; done) | (rw [hE, hD]; rfl) | (rw [hE]; rfl))
        | (refine ⟨congrArg Value.bool (mayM_no hpl ?_).symm, hS.subA⟩; clear hf hS; rintro ⟨h1, h2, h3, h4, h5, h6, h7, h8, h9, h10, h11⟩; dsimp only at h1 h2 h3 h4 h5 h6 h7 h8 h9 h10 h11; simp only [List.length_map] at h9 h10 h11; first | omega | (have h8' := h8 (by omega); omega) | (have h9' := h9 (by assumption); omega))
       clear hf; intro hc25 a hf
       refine aN hf hS ?_; clear hf; intro a hf
       refine done_l (t_normal ?_)
       refine c_false hf rfl ?_
       refine c_skip (b_normal (t_normal (c_seq ?_)))
       have hokm : okM (⟨kd, fr, tn, op', fo', ky', bk', es'.map pEnt, ds'.map pDig, ms'.map pDot⟩ : PMsg) := by
        unfold okM; dsimp only; simp only [List.length_map]
        refine ⟨by omega, by omega, by omega, by omega, by omega, by omega, by omega, fun h4 => by omega, fun h9 => by first | omega | (rw [h16] at h9; cases h9), by omega, by omega⟩
       refine c_region ?_
       refine fA hf hS fb32_7 ?_; clear hf; intro a hf
       refine sR hf hS (rd_ld hf ag28) ?_; clear hf; intro a hf
       refine step_l (st_call hf (Wn.none rfl) rfl rfl rfl fn61 (CtEntry_c es' _ _ hS (fun _ h => hve' _ (h.subA)) (by omega)) rfl rfl ?_)
       clear hf hS; rintro v a w ⟨rfl, hS⟩ hf
       first | refine split_dec (d := 83) hf rfl ?_ ?_ | refine split_bool (d := 83) hf rfl ?_ ?_
       ·
        clear hf; intro hc26 hf
        have hE : (es'.map pEnt).all mayEnt = false := by simpa using hc26
        refine nT hf hS ?_; clear hf; intro a hf
        iterate 13 ((first | refine kS hf ?_ | refine mN hf hS ?_ | refine aN hf hS ?_ | refine pF hf hS ?_); clear hf; intro a hf)
        refine done_l (t_normal (c_ret ?_))
        refine eT hf ?_
        first
        | (refine ⟨congrArg Value.bool ((mayM_eq hpl hokm).trans ?_).symm, hS.subA⟩; clear hf hS; dsimp only; first | (rw [hE, hD]; simp; done) | (rw [hE, hD]; rfl) | (rw [hE]; rfl))
        | (refine ⟨congrArg Value.bool (mayM_no hpl ?_).symm, hS.subA⟩; clear hf hS; rintro ⟨h1, h2, h3, h4, h5, h6, h7, h8, h9, h10, h11⟩; dsimp only at h1 h2 h3 h4 h5 h6 h7 h8 h9 h10 h11; simp only [List.length_map] at h9 h10 h11; first | omega | (have h8' := h8 (by omega); omega) | (have h9' := h9 (by assumption); omega))
       clear hf; intro hc26 hf
       have hE : (es'.map pEnt).all mayEnt = true := by simpa using hc26
       refine nT hf hS ?_; clear hf; intro a hf
       refine mN hf hS ?_; clear hf; intro a hf
       refine fG hf hS fb32_8 ?_; clear hf; intro a hf
       refine sG hf hS (rd_ld hf ag29) ?_; clear hf; intro a hf
       refine step_l (st_call hf (Wn.some hf rfl rfl rfl rfl) rfl rfl rfl fn64 (CtDigest_c ds' _ _ hS (fun _ h => hvd' _ (h.subA)) (by omega)) rfl rfl ?_)
       clear hf hS; rintro v a w ⟨rfl, hS⟩ hf
       first | refine split_dec (d := 88) hf rfl ?_ ?_ | refine split_bool (d := 88) hf rfl ?_ ?_
       ·
        clear hf; intro hc27 hf
        have hD : (ds'.map pDig).all mayDig = false := by simpa using hc27
        refine sG hf hS (rd_not hf rfl rfl) ?_; clear hf; intro a hf
        iterate 8 ((first | refine kS hf ?_ | refine mN hf hS ?_ | refine aN hf hS ?_ | refine pT hf hS ?_ | refine pF hf hS ?_); clear hf; intro a hf)
        refine done_l (t_normal (c_ret ?_))
        refine eT hf ?_
        first
        | (refine ⟨congrArg Value.bool ((mayM_eq hpl hokm).trans ?_).symm, hS.subA⟩; clear hf hS; dsimp only; first | (rw [hE, hD]; simp; done) | (rw [hE, hD]; rfl) | (rw [hE]; rfl))
        | (refine ⟨congrArg Value.bool (mayM_no hpl ?_).symm, hS.subA⟩; clear hf hS; rintro ⟨h1, h2, h3, h4, h5, h6, h7, h8, h9, h10, h11⟩; dsimp only at h1 h2 h3 h4 h5 h6 h7 h8 h9 h10 h11; simp only [List.length_map] at h9 h10 h11; first | omega | (have h8' := h8 (by omega); omega) | (have h9' := h9 (by assumption); omega))
       clear hf; intro hc27 hf
       have hD : (ds'.map pDig).all mayDig = true := by simpa using hc27
       refine sG hf hS (rd_not hf rfl rfl) ?_; clear hf; intro a hf
       iterate 2 ((first | refine mN hf hS ?_ | refine pT hf hS ?_); clear hf; intro a hf)
       refine fG hf hS fb32_9 ?_; clear hf; intro a hf
       refine sG hf hS (rd_ld hf ag30) ?_; clear hf; intro a hf
       refine step_l (st_call hf (Wn.some hf rfl rfl rfl rfl) rfl rfl rfl fn67 (CtMember_c ms' _ _ hS (fun _ h => hvm' _ (h.subA)) (by omega)) rfl rfl ?_)
       clear hf hS; rintro v a w ⟨rfl, hS⟩ hf
       refine sG hf hS (rd_not hf rfl rfl) ?_; clear hf; intro a hf
       iterate 2 ((first | refine aN hf hS ?_ | refine pT hf hS ?_); clear hf; intro a hf)
       refine done_l (t_normal (c_ret ?_))
       refine eT hf ?_
       first
       | (refine ⟨congrArg Value.bool ((mayM_eq hpl hokm).trans ?_).symm, hS.subA⟩; clear hf hS; dsimp only; first | (rw [hE, hD]; simp; done) | (rw [hE, hD]; rfl) | (rw [hE]; rfl))
       | (refine ⟨congrArg Value.bool (mayM_no hpl ?_).symm, hS.subA⟩; clear hf hS; rintro ⟨h1, h2, h3, h4, h5, h6, h7, h8, h9, h10, h11⟩; dsimp only at h1 h2 h3 h4 h5 h6 h7 h8 h9 h10 h11; simp only [List.length_map] at h9 h10 h11; first | omega | (have h8' := h8 (by omega); omega) | (have h9' := h9 (by assumption); omega))
      clear hf; intro hc23 hf
      refine sG hf hS (rd_not hf rfl rfl) ?_; clear hf; intro a hf
      iterate 2 ((first | refine aN hf hS ?_ | refine pT hf hS ?_); clear hf; intro a hf)
      refine done_l (t_normal ?_)
      refine c_true hf rfl ?_
      refine c_skip (t_normal ?_)
      refine c_true hf rfl ?_
      refine c_seq (c_region ?_)
      refine aN hf hS ?_; clear hf; intro a hf
      refine done_l (t_normal (c_ret (b_ret (t_ret ?_))))
      refine eT hf ?_
      first
      | (refine ⟨congrArg Value.bool ((mayM_eq hpl hokm).trans ?_).symm, hS.subA⟩; clear hf hS; dsimp only; first | (rw [hE, hD]; simp; done) | (rw [hE, hD]; rfl) | (rw [hE]; rfl))
      | (refine ⟨congrArg Value.bool (mayM_no hpl ?_).symm, hS.subA⟩; clear hf hS; rintro ⟨h1, h2, h3, h4, h5, h6, h7, h8, h9, h10, h11⟩; dsimp only at h1 h2 h3 h4 h5 h6 h7 h8 h9 h10 h11; simp only [List.length_map] at h9 h10 h11; first | omega | (have h8' := h8 (by omega); omega) | (have h9' := h9 (by assumption); omega))
     clear hf; intro hc22 a hf
     have h16 := has_f (k := kd) (i := 4) (q := 16) (by decide) (decide_eq_false hc22)
     iterate 10 ((first | refine kS hf ?_ | refine mN hf hS ?_ | refine aN hf hS ?_ | refine pF hf hS ?_); clear hf; intro a hf)
     refine done_l (t_normal ?_)
     refine c_false hf rfl ?_
     refine c_seq (c_region ?_)
     refine fA hf hS fb32_8 ?_; clear hf; intro a hf
     refine sR hf hS (rd_ld hf ag29) ?_; clear hf; intro a hf
     refine sR hf hS (rd_len hf rfl rfl Tryz.underlying29) ?_; clear hf; intro a hf
     refine sB hf hS (rd_gtr hf rfl rfl rfl) ?_ ?_
     ·
      clear hf; intro hc28 a hf
      refine aN hf hS ?_; clear hf; intro a hf
      refine done_l (t_normal ?_)
      refine c_true hf rfl ?_
      refine c_skip (t_normal ?_)
      refine c_true hf rfl ?_
      refine c_seq (c_region ?_)
      refine aN hf hS ?_; clear hf; intro a hf
      refine done_l (t_normal (c_ret (b_ret (t_ret ?_))))
      refine eT hf ?_
      first
      | (refine ⟨congrArg Value.bool ((mayM_eq hpl hokm).trans ?_).symm, hS.subA⟩; clear hf hS; dsimp only; first | (rw [hE, hD]; simp; done) | (rw [hE, hD]; rfl) | (rw [hE]; rfl))
      | (refine ⟨congrArg Value.bool (mayM_no hpl ?_).symm, hS.subA⟩; clear hf hS; rintro ⟨h1, h2, h3, h4, h5, h6, h7, h8, h9, h10, h11⟩; dsimp only at h1 h2 h3 h4 h5 h6 h7 h8 h9 h10 h11; simp only [List.length_map] at h9 h10 h11; first | omega | (have h8' := h8 (by omega); omega) | (have h9' := h9 (by assumption); omega))
     clear hf; intro hc28 a hf
     refine aN hf hS ?_; clear hf; intro a hf
     refine done_l (t_normal ?_)
     refine c_false hf rfl ?_
     refine c_region ?_
     refine fA hf hS fb32_9 ?_; clear hf; intro a hf
     refine sR hf hS (rd_ld hf ag30) ?_; clear hf; intro a hf
     refine sR hf hS (rd_len hf rfl rfl Tryz.underlying30) ?_; clear hf; intro a hf
     refine sB hf hS (rd_gtr hf rfl rfl rfl) ?_ ?_
     ·
      clear hf; intro hc29 a hf
      refine aN hf hS ?_; clear hf; intro a hf
      refine done_l (t_normal ?_)
      refine c_true hf rfl ?_
      refine c_seq (c_region ?_)
      refine aN hf hS ?_; clear hf; intro a hf
      refine done_l (t_normal (c_ret (b_ret (t_ret ?_))))
      refine eT hf ?_
      first
      | (refine ⟨congrArg Value.bool ((mayM_eq hpl hokm).trans ?_).symm, hS.subA⟩; clear hf hS; dsimp only; first | (rw [hE, hD]; simp; done) | (rw [hE, hD]; rfl) | (rw [hE]; rfl))
      | (refine ⟨congrArg Value.bool (mayM_no hpl ?_).symm, hS.subA⟩; clear hf hS; rintro ⟨h1, h2, h3, h4, h5, h6, h7, h8, h9, h10, h11⟩; dsimp only at h1 h2 h3 h4 h5 h6 h7 h8 h9 h10 h11; simp only [List.length_map] at h9 h10 h11; first | omega | (have h8' := h8 (by omega); omega) | (have h9' := h9 (by assumption); omega))
     clear hf; intro hc29 a hf
     refine aN hf hS ?_; clear hf; intro a hf
     refine done_l (t_normal ?_)
     refine c_false hf rfl ?_
     refine c_skip (b_normal (t_normal (c_seq ?_)))
     have hokm : okM (⟨kd, fr, tn, op', fo', ky', bk', es'.map pEnt, ds'.map pDig, ms'.map pDot⟩ : PMsg) := by
      unfold okM; dsimp only; simp only [List.length_map]
      refine ⟨by omega, by omega, by omega, by omega, by omega, by omega, by omega, fun h4 => by omega, fun h9 => by first | omega | (rw [h16] at h9; cases h9), by omega, by omega⟩
     refine c_region ?_
     refine fA hf hS fb32_7 ?_; clear hf; intro a hf
     refine sR hf hS (rd_ld hf ag28) ?_; clear hf; intro a hf
     refine step_l (st_call hf (Wn.none rfl) rfl rfl rfl fn61 (CtEntry_c es' _ _ hS (fun _ h => hve' _ (h.subA)) (by omega)) rfl rfl ?_)
     clear hf hS; rintro v a w ⟨rfl, hS⟩ hf
     first | refine split_dec (d := 83) hf rfl ?_ ?_ | refine split_bool (d := 83) hf rfl ?_ ?_
     ·
      clear hf; intro hc30 hf
      have hE : (es'.map pEnt).all mayEnt = false := by simpa using hc30
      refine nT hf hS ?_; clear hf; intro a hf
      iterate 13 ((first | refine kS hf ?_ | refine mN hf hS ?_ | refine aN hf hS ?_ | refine pF hf hS ?_); clear hf; intro a hf)
      refine done_l (t_normal (c_ret ?_))
      refine eT hf ?_
      first
      | (refine ⟨congrArg Value.bool ((mayM_eq hpl hokm).trans ?_).symm, hS.subA⟩; clear hf hS; dsimp only; first | (rw [hE, hD]; simp; done) | (rw [hE, hD]; rfl) | (rw [hE]; rfl))
      | (refine ⟨congrArg Value.bool (mayM_no hpl ?_).symm, hS.subA⟩; clear hf hS; rintro ⟨h1, h2, h3, h4, h5, h6, h7, h8, h9, h10, h11⟩; dsimp only at h1 h2 h3 h4 h5 h6 h7 h8 h9 h10 h11; simp only [List.length_map] at h9 h10 h11; first | omega | (have h8' := h8 (by omega); omega) | (have h9' := h9 (by assumption); omega))
     clear hf; intro hc30 hf
     have hE : (es'.map pEnt).all mayEnt = true := by simpa using hc30
     refine nT hf hS ?_; clear hf; intro a hf
     refine mN hf hS ?_; clear hf; intro a hf
     refine fG hf hS fb32_8 ?_; clear hf; intro a hf
     refine sG hf hS (rd_ld hf ag29) ?_; clear hf; intro a hf
     refine step_l (st_call hf (Wn.some hf rfl rfl rfl rfl) rfl rfl rfl fn64 (CtDigest_c ds' _ _ hS (fun _ h => hvd' _ (h.subA)) (by omega)) rfl rfl ?_)
     clear hf hS; rintro v a w ⟨rfl, hS⟩ hf
     first | refine split_dec (d := 88) hf rfl ?_ ?_ | refine split_bool (d := 88) hf rfl ?_ ?_
     ·
      clear hf; intro hc31 hf
      have hD : (ds'.map pDig).all mayDig = false := by simpa using hc31
      refine sG hf hS (rd_not hf rfl rfl) ?_; clear hf; intro a hf
      iterate 8 ((first | refine kS hf ?_ | refine mN hf hS ?_ | refine aN hf hS ?_ | refine pT hf hS ?_ | refine pF hf hS ?_); clear hf; intro a hf)
      refine done_l (t_normal (c_ret ?_))
      refine eT hf ?_
      first
      | (refine ⟨congrArg Value.bool ((mayM_eq hpl hokm).trans ?_).symm, hS.subA⟩; clear hf hS; dsimp only; first | (rw [hE, hD]; simp; done) | (rw [hE, hD]; rfl) | (rw [hE]; rfl))
      | (refine ⟨congrArg Value.bool (mayM_no hpl ?_).symm, hS.subA⟩; clear hf hS; rintro ⟨h1, h2, h3, h4, h5, h6, h7, h8, h9, h10, h11⟩; dsimp only at h1 h2 h3 h4 h5 h6 h7 h8 h9 h10 h11; simp only [List.length_map] at h9 h10 h11; first | omega | (have h8' := h8 (by omega); omega) | (have h9' := h9 (by assumption); omega))
     clear hf; intro hc31 hf
     have hD : (ds'.map pDig).all mayDig = true := by simpa using hc31
     refine sG hf hS (rd_not hf rfl rfl) ?_; clear hf; intro a hf
     iterate 2 ((first | refine mN hf hS ?_ | refine pT hf hS ?_); clear hf; intro a hf)
     refine fG hf hS fb32_9 ?_; clear hf; intro a hf
     refine sG hf hS (rd_ld hf ag30) ?_; clear hf; intro a hf
     refine step_l (st_call hf (Wn.some hf rfl rfl rfl rfl) rfl rfl rfl fn67 (CtMember_c ms' _ _ hS (fun _ h => hvm' _ (h.subA)) (by omega)) rfl rfl ?_)
     clear hf hS; rintro v a w ⟨rfl, hS⟩ hf
     refine sG hf hS (rd_not hf rfl rfl) ?_; clear hf; intro a hf
     iterate 2 ((first | refine aN hf hS ?_ | refine pT hf hS ?_); clear hf; intro a hf)
     refine done_l (t_normal (c_ret ?_))
     refine eT hf ?_
     first
     | (refine ⟨congrArg Value.bool ((mayM_eq hpl hokm).trans ?_).symm, hS.subA⟩; clear hf hS; dsimp only; first | (rw [hE, hD]; simp; done) | (rw [hE, hD]; rfl) | (rw [hE]; rfl))
     | (refine ⟨congrArg Value.bool (mayM_no hpl ?_).symm, hS.subA⟩; clear hf hS; rintro ⟨h1, h2, h3, h4, h5, h6, h7, h8, h9, h10, h11⟩; dsimp only at h1 h2 h3 h4 h5 h6 h7 h8 h9 h10 h11; simp only [List.length_map] at h9 h10 h11; first | omega | (have h8' := h8 (by omega); omega) | (have h9' := h9 (by assumption); omega))
    clear hf; intro hc8 hf
    refine nT hf hS ?_; clear hf; intro a hf
    refine aN hf hS ?_; clear hf; intro a hf
    refine done_l (t_normal ?_)
    refine c_true hf rfl ?_
    refine c_seq (c_region ?_)
    refine aN hf hS ?_; clear hf; intro a hf
    refine done_l (t_normal (c_ret (b_ret (t_ret ?_))))
    refine eT hf ?_
    first
    | (refine ⟨congrArg Value.bool ((mayM_eq hpl hokm).trans ?_).symm, hS.subA⟩; clear hf hS; dsimp only; first | (rw [hE, hD]; simp; done) | (rw [hE, hD]; rfl) | (rw [hE]; rfl))
    | (refine ⟨congrArg Value.bool (mayM_no hpl ?_).symm, hS.subA⟩; clear hf hS; rintro ⟨h1, h2, h3, h4, h5, h6, h7, h8, h9, h10, h11⟩; dsimp only at h1 h2 h3 h4 h5 h6 h7 h8 h9 h10 h11; simp only [List.length_map] at h9 h10 h11; first | omega | (have h8' := h8 (by omega); omega) | (have h9' := h9 (by assumption); omega))
   clear hf; intro hc7 hf
   refine nT hf hS ?_; clear hf; intro a hf
   refine aN hf hS ?_; clear hf; intro a hf
   refine done_l (t_normal ?_)
   refine c_true hf rfl ?_
   refine c_skip (t_normal ?_)
   refine c_true hf rfl ?_
   refine c_seq (c_region ?_)
   refine aN hf hS ?_; clear hf; intro a hf
   refine done_l (t_normal (c_ret (b_ret (t_ret ?_))))
   refine eT hf ?_
   first
   | (refine ⟨congrArg Value.bool ((mayM_eq hpl hokm).trans ?_).symm, hS.subA⟩; clear hf hS; dsimp only; first | (rw [hE, hD]; simp; done) | (rw [hE, hD]; rfl) | (rw [hE]; rfl))
   | (refine ⟨congrArg Value.bool (mayM_no hpl ?_).symm, hS.subA⟩; clear hf hS; rintro ⟨h1, h2, h3, h4, h5, h6, h7, h8, h9, h10, h11⟩; dsimp only at h1 h2 h3 h4 h5 h6 h7 h8 h9 h10 h11; simp only [List.length_map] at h9 h10 h11; first | omega | (have h8' := h8 (by omega); omega) | (have h9' := h9 (by assumption); omega))
  clear hf; intro hc4 hf
  refine nT hf hS ?_; clear hf; intro a hf
  refine aN hf hS ?_; clear hf; intro a hf
  refine done_l (t_normal ?_)
  refine c_true hf rfl ?_
  refine c_seq (c_region ?_)
  refine aN hf hS ?_; clear hf; intro a hf
  refine done_l (t_normal (c_ret (b_ret (t_ret ?_))))
  refine eT hf ?_
  first
  | (refine ⟨congrArg Value.bool ((mayM_eq hpl hokm).trans ?_).symm, hS.subA⟩; clear hf hS; dsimp only; first | (rw [hE, hD]; simp; done) | (rw [hE, hD]; rfl) | (rw [hE]; rfl))
  | (refine ⟨congrArg Value.bool (mayM_no hpl ?_).symm, hS.subA⟩; clear hf hS; rintro ⟨h1, h2, h3, h4, h5, h6, h7, h8, h9, h10, h11⟩; dsimp only at h1 h2 h3 h4 h5 h6 h7 h8 h9 h10 h11; simp only [List.length_map] at h9 h10 h11; first | omega | (have h8' := h8 (by omega); omega) | (have h9' := h9 (by assumption); omega))
 clear hf; intro hc3 hf
 refine nT hf hS ?_; clear hf; intro a hf
 refine aN hf hS ?_; clear hf; intro a hf
 refine done_l (t_normal ?_)
 refine c_true hf rfl ?_
 refine c_skip (t_normal ?_)
 refine c_true hf rfl ?_
 refine c_seq (c_region ?_)
 refine aN hf hS ?_; clear hf; intro a hf
 refine done_l (t_normal (c_ret (b_ret (t_ret ?_))))
 refine eT hf ?_
 first
 | (refine ⟨congrArg Value.bool ((mayM_eq hpl hokm).trans ?_).symm, hS.subA⟩; clear hf hS; dsimp only; first | (rw [hE, hD]; simp; done) | (rw [hE, hD]; rfl) | (rw [hE]; rfl))
 | (refine ⟨congrArg Value.bool (mayM_no hpl ?_).symm, hS.subA⟩; clear hf hS; rintro ⟨h1, h2, h3, h4, h5, h6, h7, h8, h9, h10, h11⟩; dsimp only at h1 h2 h3 h4 h5 h6 h7 h8 h9 h10 h11; simp only [List.length_map] at h9 h10 h11; first | omega | (have h8' := h8 (by omega); omega) | (have h9' := h9 (by assumption); omega))

end Go.Proofs.YtcflbdpjoanbgaaGreat
