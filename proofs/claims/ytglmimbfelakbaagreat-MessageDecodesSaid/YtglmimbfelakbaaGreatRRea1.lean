/-
  Walked: Rea.
  Conditions: none.
-/
import Derived.Test.YtglmimbfelakbaaGreatREnc1
import Derived.Test.YtglmimbfelakbaaGreatRx1
namespace Go.Proofs.YtglmimbfelakbaaGreat
open Go Go.Sl
set_option linter.unusedVariables false
set_option linter.unusedSimpArgs false

theorem RVfail_c {X : HP} (p : Nat) (s : RS) (f : Int) {W : World} {R : List HP} {w : World} (hS : Sat W (RdX X 68 p (s) :: R) w)  : Calls Tryz.prog 65 [.pointer (some ⟨p, 0, none⟩), .int .i64 f].toArray w (Ret fun v w' => v = .tuple #[] ∧ Sat W (RdX X 68 p ((([], if s.2 = 0 then f else s.2) : RS)) :: R) w') := by
 refine fn_start 16 Tryz.func65 rfl rfl rfl ?_
 intro a hf
 obtain ⟨bs, e⟩ := s; obtain ⟨q, cap, hcap, hS⟩ := rdx_open hS; dsimp only at hS hcap
 refine c_seq (c_seq (c_region ?_))
 refine mN hf hS ?_; clear hf; intro a hf
 refine nC hf hS ?_; clear hf; intro a hf
 refine fA hf hS fb68_1 ?_; clear hf; intro a hf
 refine sR hf hS (rd_ld hf ag31) ?_; clear hf; intro a hf
 refine sB hf hS (rd_eql hf rfl rfl rfl) ?_ ?_
 ·
  clear hf; intro hc1 a hf
  refine done_l (t_normal ?_)
  refine c_true hf rfl ?_
  refine c_region ?_
  iterate 2 (refine mN hf hS ?_; clear hf; intro a hf)
  refine nC hf hS ?_; clear hf; intro a hf
  refine fA hf hS fb68_1 ?_; clear hf; intro a hf
  refine sS hf hS sz31 ?_
  clear hf hS; intro a w hf hS
  refine done_l (t_normal (c_region ?_))
  refine mN hf hS ?_; clear hf; intro a hf
  refine nC hf hS ?_; clear hf; intro a hf
  refine fA hf hS fb68_0 ?_; clear hf; intro a hf
  refine sS hf hS sz28 ?_
  clear hf hS; intro a w hf hS
  refine done_l ?_
  refine e_none' hf rfl ?_
  exact ⟨rfl, rdx_shutNil hS (by first | rw [if_pos (by assumption)] | rw [if_neg (by assumption)])⟩
 clear hf; intro hc1 a hf
 refine done_l (t_normal ?_)
 refine c_false hf rfl ?_
 refine c_skip (t_normal (c_region ?_))
 refine mN hf hS ?_; clear hf; intro a hf
 refine nC hf hS ?_; clear hf; intro a hf
 refine fA hf hS fb68_0 ?_; clear hf; intro a hf
 refine sS hf hS sz28 ?_
 clear hf hS; intro a w hf hS
 refine done_l ?_
 refine e_none' hf rfl ?_
 exact ⟨rfl, rdx_shutNil hS (by first | rw [if_pos (by assumption)] | rw [if_neg (by assumption)])⟩

theorem RVNum_c {X : HP} (p : Nat) (s : RS)  {W : World} {R : List HP} {w : World} (hS : Sat W (RdX X 68 p (s) :: R) w)  : Calls Tryz.prog 23 [.pointer (some ⟨p, 0, none⟩)].toArray w (Ret fun v w' => v = .int .u64 ((rNum s).1 : Nat) ∧ Sat W (RdX X 68 p ((rNum s).2) :: R) w') := by
 refine fn_start 67 Tryz.func23 rfl rfl rfl ?_
 intro a hf
 obtain ⟨bs, e⟩ := s; obtain ⟨q, cap, hcap, hS⟩ := rdx_open hS; dsimp only at hS hcap
 refine c_seq (c_region ?_)
 refine aN hf hS ?_; clear hf; intro a hf
 refine done_l (t_normal (c_seq (c_region ?_)))
 refine aN hf hS ?_; clear hf; intro a hf
 refine done_l (t_normal (c_seq (c_seq (c_region ?_))))
 refine aN hf hS ?_; clear hf; intro a hf
 refine done_l (t_normal (c_block ?_))
 refine c_loop (α := Nat × Nat) (fun ⟨i, acc⟩ a w => Fits 67 a [(0, .pointer (some ⟨p, 0, none⟩)), (3, .int .u64 (acc : Nat)), (4, .int .i64 (i : Nat))] ∧ Sat W (Blk p [.slice q bs.length cap, .int .i64 e] 68 :: VwX X q bs.length 1 (bvs bs) :: R) w ∧ rNum (bs, e) = rNumI i acc (bs.drop i, e) ∧ i ≤ 9 ∧ acc < 2 ^ (7 * i) ∧ i ≤ bs.length) (fun ⟨i, acc⟩ => 10 - i) (0, 0) ?_ ?_
 ·
  exact ⟨(((hf.k0.kb hf 4 rfl (by rfl)).kb hf 3 rfl (by rfl)).kb hf 0 rfl (by rfl)), hS.subA, ⟨rfl, by omega, by simp, by omega⟩⟩
 ·
  clear hf hS; rintro ⟨i, acc⟩ a w ⟨hf, hS, ⟨hrec, hi, hacc, hil⟩⟩
  refine c_seq (c_seq (c_region ?_))
  refine mN hf hS ?_; clear hf; intro a hf
  refine nC hf hS ?_; clear hf; intro a hf
  refine fA hf hS fb68_1 ?_; clear hf; intro a hf
  refine sR hf hS (rd_ld hf ag31) ?_; clear hf; intro a hf
  refine sB hf hS (rd_eql hf rfl rfl rfl) ?_ ?_
  ·
   clear hf; intro hc1 a hf
   subst hc1
   refine done_l (t_normal ?_)
   refine c_true hf rfl ?_
   refine c_skip (t_normal (c_seq (c_block (c_seq (c_seq (c_region ?_))))))
   iterate 2 (refine mN hf hS ?_; clear hf; intro a hf)
   refine nC hf hS ?_; clear hf; intro a hf
   refine fA hf hS fb68_0 ?_; clear hf; intro a hf
   refine sR hf hS (rd_ld hf ag28) ?_; clear hf; intro a hf
   refine sR hf hS (rd_len hf rfl rfl Tryz.underlying28) ?_; clear hf; intro a hf
   refine sB hf hS (rd_geq hf rfl rfl rfl) ?_ ?_
   ·
    clear hf; intro hc2 a hf
    have hstep := numI_end (bs := bs) (i := i) (acc := acc) (by omega)
    refine done_l (t_normal ?_)
    refine c_true hf rfl ?_
    refine c_seq (c_region ?_)
    refine mN hf hS ?_; clear hf; intro a hf
    replace hS := rdx_shut (s := (bs, 0)) hS rfl rfl rfl hcap
    refine step_l (st_call hf (Wn.none rfl) rfl rfl rfl fn65 (RVfail_c _ _ _ (hS.selA)) rfl rfl ?_)
    clear hf hS; rintro v a w ⟨rfl, hS⟩ hf
    refine done_l (t_normal (c_exit (t_exit ?_)))
    refine b_exit' (by decide) ?_
    refine t_exit (t_exit (b_exit (t_normal (c_seq (c_region ?_)))))
    refine aN hf hS ?_; clear hf; intro a hf
    refine done_l (t_normal (c_ret ?_))
    refine eT hf ?_
    first | (rw [hrec, hstep]; exact ⟨rfl, hS⟩) | (rw [hrec, hstep, if_pos (by omega)]; exact ⟨rfl, hS⟩) | (rw [hrec, hstep, if_neg (by omega), if_pos (by omega)]; exact ⟨rfl, rdx_shutDrop (bs := bs) hS rfl (by omega) hcap (by rw [toNat_s1])⟩) | (rw [show rNum (bs, e) = (0, (bs, e)) from if_pos (by assumption)]; exact ⟨rfl, rdx_shut (s := (bs, e)) hS rfl rfl rfl hcap⟩)
   clear hf; intro hc2 a hf
   obtain ⟨c, hget⟩ := get_of_lt (l := bs) (k := i) (by omega) rfl; have hx8 := c.toNat_lt; have hstep := numI_get (acc := acc) hget; obtain ⟨ad, rfl⟩ := (hS.vwx (by repeat (first | exact Sel.head | apply Sel.tail))).some (by omega)
   refine done_l (t_normal ?_)
   refine c_false hf rfl ?_
   refine c_skip (t_normal (c_seq (c_region ?_)))
   refine mN hf hS ?_; clear hf; intro a hf
   refine nC hf hS ?_; clear hf; intro a hf
   refine fA hf hS fb68_0 ?_; clear hf; intro a hf
   refine sR hf hS (rd_ld hf ag28) ?_; clear hf; intro a hf
   refine mN hf hS ?_; clear hf; intro a hf
   refine sR hf hS ((by first | exact rd_indexAddrN1 hf rfl rfl rfl Tryz.underlying28 sz5 (by omega) | exact rd_indexAddr hf rfl rfl rfl Tryz.underlying28 sz5 (by first | decide | omega) (by omega))) ?_; clear hf; intro a hf
   refine sR hf hS (rd_load1 hf rfl rfl ag5 (by intro _ h; exact (h.vwx (by repeat (first | exact Sel.head | apply Sel.tail))).get (bvs_get hget))) ?_; clear hf; intro a hf
   refine aN hf hS ?_; clear hf; intro a hf
   refine done_l (t_normal (c_seq (c_seq (c_region ?_))))
   refine mN hf hS ?_; clear hf; intro a hf
   refine sB hf hS (rd_eql hf rfl rfl rfl) ?_ ?_
   ·
    clear hf; intro hc3 a hf
    iterate 2 ((first | refine mN hf hS ?_ | refine step_l (st_rd hf (Wn.some hf rfl rfl rfl rfl) (rd_move hf rfl rfl) hS rfl rfl ?_)); clear hf; intro a hf)
    refine step_l (st_rdB hf (Wn.some hf rfl rfl rfl rfl) (rd_gtr hf rfl rfl rfl) hS rfl rfl ?_ ?_)
    ·
     clear hf; intro hc4 a hf
     iterate 9 ((first | refine kS hf ?_ | refine kU hf ?_ | refine mN hf hS ?_ | refine pT hf hS ?_); clear hf; intro a hf)
     refine done_l (t_normal ?_)
     refine c_true hf rfl ?_
     refine c_seq (c_region ?_)
     refine mN hf hS ?_; clear hf; intro a hf
     replace hS := rdx_shut (s := (bs, 0)) hS rfl rfl rfl hcap
     refine step_l (st_call hf (Wn.none rfl) rfl rfl rfl fn65 (RVfail_c _ _ _ (hS.selA)) rfl rfl ?_)
     clear hf hS; rintro v a w ⟨rfl, hS⟩ hf
     refine done_l (t_normal (c_exit (t_exit ?_)))
     refine b_exit' (by decide) ?_
     refine t_exit (t_exit (b_exit (t_normal (c_seq (c_region ?_)))))
     refine aN hf hS ?_; clear hf; intro a hf
     refine done_l (t_normal (c_ret ?_))
     refine eT hf ?_
     first | (rw [hrec, hstep]; exact ⟨rfl, hS⟩) | (rw [hrec, hstep, if_pos (by omega)]; exact ⟨rfl, hS⟩) | (rw [hrec, hstep, if_neg (by omega), if_pos (by omega)]; exact ⟨rfl, rdx_shutDrop (bs := bs) hS rfl (by omega) hcap (by rw [toNat_s1])⟩) | (rw [show rNum (bs, e) = (0, (bs, e)) from if_pos (by assumption)]; exact ⟨rfl, rdx_shut (s := (bs, e)) hS rfl rfl rfl hcap⟩)
    clear hf; intro hc4 a hf
    iterate 3 ((first | refine mN hf hS ?_ | refine step_l (st_rd hf (Wn.some hf rfl rfl rfl rfl) (rd_move hf rfl rfl) hS rfl rfl ?_) | refine pT hf hS ?_); clear hf; intro a hf)
    refine step_l (st_rdB hf (Wn.some hf rfl rfl rfl rfl) (rd_gtr hf rfl rfl rfl) hS rfl rfl ?_ ?_)
    ·
     clear hf; intro hc5 a hf
     iterate 2 (refine step_l (st_rd hf (Wn.some hf rfl rfl rfl rfl) (rd_move hf rfl rfl) hS rfl rfl ?_); clear hf; intro a hf)
     refine step_l (st_rdB hf (Wn.some hf rfl rfl rfl rfl) (rd_eql hf rfl rfl rfl) hS rfl rfl ?_ ?_)
     ·
      clear hf; intro hc6 a hf
      iterate 2 ((first | refine step_l (st_rd hf (Wn.some hf rfl rfl rfl rfl) (rd_pick_t hf rfl rfl rfl) hS rfl rfl ?_) | refine pF hf hS ?_); clear hf; intro a hf)
      refine done_l (t_normal ?_)
      refine c_true hf rfl ?_
      refine c_seq (c_region ?_)
      refine mN hf hS ?_; clear hf; intro a hf
      replace hS := rdx_shut (s := (bs, 0)) hS rfl rfl rfl hcap
      refine step_l (st_call hf (Wn.none rfl) rfl rfl rfl fn65 (RVfail_c _ _ _ (hS.selA)) rfl rfl ?_)
      clear hf hS; rintro v a w ⟨rfl, hS⟩ hf
      refine done_l (t_normal (c_exit (t_exit ?_)))
      refine b_exit' (by decide) ?_
      refine t_exit (t_exit (b_exit (t_normal (c_seq (c_region ?_)))))
      refine aN hf hS ?_; clear hf; intro a hf
      refine done_l (t_normal (c_ret ?_))
      refine eT hf ?_
      first | (rw [hrec, hstep]; exact ⟨rfl, hS⟩) | (rw [hrec, hstep, if_pos (by omega)]; exact ⟨rfl, hS⟩) | (rw [hrec, hstep, if_neg (by omega), if_pos (by omega)]; exact ⟨rfl, rdx_shutDrop (bs := bs) hS rfl (by omega) hcap (by rw [toNat_s1])⟩) | (rw [show rNum (bs, e) = (0, (bs, e)) from if_pos (by assumption)]; exact ⟨rfl, rdx_shut (s := (bs, e)) hS rfl rfl rfl hcap⟩)
     clear hf; intro hc6 a hf
     iterate 2 ((first | refine step_l (st_rd hf (Wn.some hf rfl rfl rfl rfl) (rd_pick_t hf rfl rfl rfl) hS rfl rfl ?_) | refine pF hf hS ?_); clear hf; intro a hf)
     refine done_l (t_normal ?_)
     refine c_false hf rfl ?_
     refine c_skip (t_normal (c_seq (c_region ?_)))
     iterate 2 (refine mN hf hS ?_; clear hf; intro a hf)
     refine sR hf hS (rd_and hf rfl rfl rfl (n8_and127 _)) ?_; clear hf; intro a hf
     refine sR hf hS (rd_convInt hf rfl rfl Tryz.underlying5 Tryz.underlying34 (by first | exact wrap64 (by omega) | exact (Go.IntWalk.u64_in _ (by omega)))) ?_; clear hf; intro a hf
     refine mN hf hS ?_; clear hf; intro a hf
     refine sR hf hS (rd_mul hf rfl rfl rfl (by first | exact Go.IntWalk.i64_in _ (by omega) | exact rfl)) ?_; clear hf; intro a hf
     refine sR hf hS (rd_convInt hf rfl rfl Tryz.underlying3 Tryz.underlying89 (by first | exact wrap64 (by omega) | exact (Go.IntWalk.u64_in _ (by omega)))) ?_; clear hf; intro a hf
     refine sR hf hS (rd_shl hf rfl rfl rfl (by first | decide | omega) (n64_shl (7 * i) (by omega) (by omega) (shl_bound (by omega) (by omega) (by omega)))) ?_; clear hf; intro a hf
     refine sR hf hS (rd_or hf rfl rfl rfl (n64_acc (by omega) (by omega) (by omega) hacc)) ?_; clear hf; intro a hf
     refine aN hf hS ?_; clear hf; intro a hf
     refine done_l (t_normal (c_seq (c_region ?_)))
     refine mN hf hS ?_; clear hf; intro a hf
     refine sB hf hS (rd_lss hf rfl rfl rfl) ?_ ?_
     ·
      clear hf; intro hc7 a hf
      refine done_l (t_normal ?_)
      refine c_true hf rfl ?_
      refine c_seq (c_region ?_)
      iterate 2 (refine mN hf hS ?_; clear hf; intro a hf)
      refine nC hf hS ?_; clear hf; intro a hf
      refine fA hf hS fb68_0 ?_; clear hf; intro a hf
      refine sR hf hS (rd_ld hf ag28) ?_; clear hf; intro a hf
      refine mN hf hS ?_; clear hf; intro a hf
      refine sP hf hS ?_; clear hf; intro a hf
      refine sR hf hS (rd_sliceL hf rfl rfl rfl Tryz.underlying28 sz5 (by omega) (by omega)) ?_; clear hf; intro a hf
      refine nC hf hS ?_; clear hf; intro a hf
      refine fA hf hS fb68_0 ?_; clear hf; intro a hf
      refine sS hf hS sz28 ?_
      clear hf hS; intro a w hf hS
      refine done_l (t_normal (c_seq (c_region ?_)))
      iterate 2 ((first | refine mN hf hS ?_ | refine aN hf hS ?_); clear hf; intro a hf)
      refine done_l (t_normal (c_ret (b_ret (t_ret (t_ret (b_ret (t_ret ?_)))))))
      refine eT hf ?_
      first | (rw [hrec, hstep]; exact ⟨rfl, hS⟩) | (rw [hrec, hstep, if_pos (by omega)]; exact ⟨rfl, hS⟩) | (rw [hrec, hstep, if_neg (by omega), if_pos (by omega)]; exact ⟨rfl, rdx_shutDrop (bs := bs) hS rfl (by omega) hcap (by rw [toNat_s1])⟩) | (rw [show rNum (bs, e) = (0, (bs, e)) from if_pos (by assumption)]; exact ⟨rfl, rdx_shut (s := (bs, e)) hS rfl rfl rfl hcap⟩)
     clear hf; intro hc7 a hf
     refine done_l (t_normal ?_)
     refine c_false hf rfl ?_
     refine c_skip (b_normal (t_normal (c_region ?_)))
     refine mN hf hS ?_; clear hf; intro a hf
     refine sP hf hS ?_; clear hf; intro a hf
     refine aN hf hS ?_; clear hf; intro a hf
     refine done_l ?_
     refine t_normal ⟨(i + 1, acc + c.toNat % 128 * 2 ^ (7 * i)), ⟨(((hf.k0.kb hf 4 rfl (by exact int_eq (by omega))).kb hf 3 rfl (by rfl)).kb hf 0 rfl (by rfl)), hS.subA, ⟨by rw [hrec, hstep, if_neg (by omega), if_neg (by omega)], by omega, acc_step (by omega) hacc, by omega⟩⟩, by first | omega | (simp only []; omega)⟩
    clear hf; intro hc5 a hf
    iterate 5 ((first | refine kS hf ?_ | refine step_l (st_rd hf (Wn.some hf rfl rfl rfl rfl) (rd_move hf rfl rfl) hS rfl rfl ?_) | refine pF hf hS ?_ | refine step_l (st_rd hf (Wn.some hf rfl rfl rfl rfl) (rd_pick_f hf rfl rfl rfl) hS rfl rfl ?_)); clear hf; intro a hf)
    refine done_l (t_normal ?_)
    refine c_false hf rfl ?_
    refine c_skip (t_normal (c_seq (c_region ?_)))
    iterate 2 (refine mN hf hS ?_; clear hf; intro a hf)
    refine sR hf hS (rd_and hf rfl rfl rfl (n8_and127 _)) ?_; clear hf; intro a hf
    refine sR hf hS (rd_convInt hf rfl rfl Tryz.underlying5 Tryz.underlying34 (by first | exact wrap64 (by omega) | exact (Go.IntWalk.u64_in _ (by omega)))) ?_; clear hf; intro a hf
    refine mN hf hS ?_; clear hf; intro a hf
    refine sR hf hS (rd_mul hf rfl rfl rfl (by first | exact Go.IntWalk.i64_in _ (by omega) | exact rfl)) ?_; clear hf; intro a hf
    refine sR hf hS (rd_convInt hf rfl rfl Tryz.underlying3 Tryz.underlying89 (by first | exact wrap64 (by omega) | exact (Go.IntWalk.u64_in _ (by omega)))) ?_; clear hf; intro a hf
    refine sR hf hS (rd_shl hf rfl rfl rfl (by first | decide | omega) (n64_shl (7 * i) (by omega) (by omega) (shl_bound (by omega) (by omega) (by omega)))) ?_; clear hf; intro a hf
    refine sR hf hS (rd_or hf rfl rfl rfl (n64_acc (by omega) (by omega) (by omega) hacc)) ?_; clear hf; intro a hf
    refine aN hf hS ?_; clear hf; intro a hf
    refine done_l (t_normal (c_seq (c_region ?_)))
    refine mN hf hS ?_; clear hf; intro a hf
    refine sB hf hS (rd_lss hf rfl rfl rfl) ?_ ?_
    ·
     clear hf; intro hc8 a hf
     refine done_l (t_normal ?_)
     refine c_true hf rfl ?_
     refine c_seq (c_region ?_)
     iterate 2 (refine mN hf hS ?_; clear hf; intro a hf)
     refine nC hf hS ?_; clear hf; intro a hf
     refine fA hf hS fb68_0 ?_; clear hf; intro a hf
     refine sR hf hS (rd_ld hf ag28) ?_; clear hf; intro a hf
     refine mN hf hS ?_; clear hf; intro a hf
     refine sP hf hS ?_; clear hf; intro a hf
     refine sR hf hS (rd_sliceL hf rfl rfl rfl Tryz.underlying28 sz5 (by omega) (by omega)) ?_; clear hf; intro a hf
     refine nC hf hS ?_; clear hf; intro a hf
     refine fA hf hS fb68_0 ?_; clear hf; intro a hf
     refine sS hf hS sz28 ?_
     clear hf hS; intro a w hf hS
     refine done_l (t_normal (c_seq (c_region ?_)))
     iterate 2 ((first | refine mN hf hS ?_ | refine aN hf hS ?_); clear hf; intro a hf)
     refine done_l (t_normal (c_ret (b_ret (t_ret (t_ret (b_ret (t_ret ?_)))))))
     refine eT hf ?_
     first | (rw [hrec, hstep]; exact ⟨rfl, hS⟩) | (rw [hrec, hstep, if_pos (by omega)]; exact ⟨rfl, hS⟩) | (rw [hrec, hstep, if_neg (by omega), if_pos (by omega)]; exact ⟨rfl, rdx_shutDrop (bs := bs) hS rfl (by omega) hcap (by rw [toNat_s1])⟩) | (rw [show rNum (bs, e) = (0, (bs, e)) from if_pos (by assumption)]; exact ⟨rfl, rdx_shut (s := (bs, e)) hS rfl rfl rfl hcap⟩)
    clear hf; intro hc8 a hf
    refine done_l (t_normal ?_)
    refine c_false hf rfl ?_
    refine c_skip (b_normal (t_normal (c_region ?_)))
    refine mN hf hS ?_; clear hf; intro a hf
    refine sP hf hS ?_; clear hf; intro a hf
    refine aN hf hS ?_; clear hf; intro a hf
    refine done_l ?_
    refine t_normal ⟨(i + 1, acc + c.toNat % 128 * 2 ^ (7 * i)), ⟨(((hf.k0.kb hf 4 rfl (by exact int_eq (by omega))).kb hf 3 rfl (by rfl)).kb hf 0 rfl (by rfl)), hS.subA, ⟨by rw [hrec, hstep, if_neg (by omega), if_neg (by omega)], by omega, acc_step (by omega) hacc, by omega⟩⟩, by first | omega | (simp only []; omega)⟩
   clear hf; intro hc3 a hf
   iterate 6 ((first | refine kS hf ?_ | refine mN hf hS ?_ | refine step_l (st_rd hf (Wn.some hf rfl rfl rfl rfl) (rd_move hf rfl rfl) hS rfl rfl ?_) | refine pF hf hS ?_); clear hf; intro a hf)
   refine step_l (st_rdB hf (Wn.some hf rfl rfl rfl rfl) (rd_gtr hf rfl rfl rfl) hS rfl rfl ?_ ?_)
   ·
    clear hf; intro hc9 a hf
    iterate 2 (refine step_l (st_rd hf (Wn.some hf rfl rfl rfl rfl) (rd_move hf rfl rfl) hS rfl rfl ?_); clear hf; intro a hf)
    refine step_l (st_rdB hf (Wn.some hf rfl rfl rfl rfl) (rd_eql hf rfl rfl rfl) hS rfl rfl ?_ ?_)
    ·
     clear hf; intro hc10 a hf
     iterate 2 ((first | refine step_l (st_rd hf (Wn.some hf rfl rfl rfl rfl) (rd_pick_t hf rfl rfl rfl) hS rfl rfl ?_) | refine pF hf hS ?_); clear hf; intro a hf)
     refine done_l (t_normal ?_)
     refine c_true hf rfl ?_
     refine c_seq (c_region ?_)
     refine mN hf hS ?_; clear hf; intro a hf
     replace hS := rdx_shut (s := (bs, 0)) hS rfl rfl rfl hcap
     refine step_l (st_call hf (Wn.none rfl) rfl rfl rfl fn65 (RVfail_c _ _ _ (hS.selA)) rfl rfl ?_)
     clear hf hS; rintro v a w ⟨rfl, hS⟩ hf
     refine done_l (t_normal (c_exit (t_exit ?_)))
     refine b_exit' (by decide) ?_
     refine t_exit (t_exit (b_exit (t_normal (c_seq (c_region ?_)))))
     refine aN hf hS ?_; clear hf; intro a hf
     refine done_l (t_normal (c_ret ?_))
     refine eT hf ?_
     first | (rw [hrec, hstep]; exact ⟨rfl, hS⟩) | (rw [hrec, hstep, if_pos (by omega)]; exact ⟨rfl, hS⟩) | (rw [hrec, hstep, if_neg (by omega), if_pos (by omega)]; exact ⟨rfl, rdx_shutDrop (bs := bs) hS rfl (by omega) hcap (by rw [toNat_s1])⟩) | (rw [show rNum (bs, e) = (0, (bs, e)) from if_pos (by assumption)]; exact ⟨rfl, rdx_shut (s := (bs, e)) hS rfl rfl rfl hcap⟩)
    clear hf; intro hc10 a hf
    iterate 2 ((first | refine step_l (st_rd hf (Wn.some hf rfl rfl rfl rfl) (rd_pick_t hf rfl rfl rfl) hS rfl rfl ?_) | refine pF hf hS ?_); clear hf; intro a hf)
    refine done_l (t_normal ?_)
    refine c_false hf rfl ?_
    refine c_skip (t_normal (c_seq (c_region ?_)))
    iterate 2 (refine mN hf hS ?_; clear hf; intro a hf)
    refine sR hf hS (rd_and hf rfl rfl rfl (n8_and127 _)) ?_; clear hf; intro a hf
    refine sR hf hS (rd_convInt hf rfl rfl Tryz.underlying5 Tryz.underlying34 (by first | exact wrap64 (by omega) | exact (Go.IntWalk.u64_in _ (by omega)))) ?_; clear hf; intro a hf
    refine mN hf hS ?_; clear hf; intro a hf
    refine sR hf hS (rd_mul hf rfl rfl rfl (by first | exact Go.IntWalk.i64_in _ (by omega) | exact rfl)) ?_; clear hf; intro a hf
    refine sR hf hS (rd_convInt hf rfl rfl Tryz.underlying3 Tryz.underlying89 (by first | exact wrap64 (by omega) | exact (Go.IntWalk.u64_in _ (by omega)))) ?_; clear hf; intro a hf
    refine sR hf hS (rd_shl hf rfl rfl rfl (by first | decide | omega) (n64_shl (7 * i) (by omega) (by omega) (shl_bound (by omega) (by omega) (by omega)))) ?_; clear hf; intro a hf
    refine sR hf hS (rd_or hf rfl rfl rfl (n64_acc (by omega) (by omega) (by omega) hacc)) ?_; clear hf; intro a hf
    refine aN hf hS ?_; clear hf; intro a hf
    refine done_l (t_normal (c_seq (c_region ?_)))
    refine mN hf hS ?_; clear hf; intro a hf
    refine sB hf hS (rd_lss hf rfl rfl rfl) ?_ ?_
    ·
     clear hf; intro hc11 a hf
     refine done_l (t_normal ?_)
     refine c_true hf rfl ?_
     refine c_seq (c_region ?_)
     iterate 2 (refine mN hf hS ?_; clear hf; intro a hf)
     refine nC hf hS ?_; clear hf; intro a hf
     refine fA hf hS fb68_0 ?_; clear hf; intro a hf
     refine sR hf hS (rd_ld hf ag28) ?_; clear hf; intro a hf
     refine mN hf hS ?_; clear hf; intro a hf
     refine sP hf hS ?_; clear hf; intro a hf
     refine sR hf hS (rd_sliceL hf rfl rfl rfl Tryz.underlying28 sz5 (by omega) (by omega)) ?_; clear hf; intro a hf
     refine nC hf hS ?_; clear hf; intro a hf
     refine fA hf hS fb68_0 ?_; clear hf; intro a hf
     refine sS hf hS sz28 ?_
     clear hf hS; intro a w hf hS
     refine done_l (t_normal (c_seq (c_region ?_)))
     iterate 2 ((first | refine mN hf hS ?_ | refine aN hf hS ?_); clear hf; intro a hf)
     refine done_l (t_normal (c_ret (b_ret (t_ret (t_ret (b_ret (t_ret ?_)))))))
     refine eT hf ?_
     first | (rw [hrec, hstep]; exact ⟨rfl, hS⟩) | (rw [hrec, hstep, if_pos (by omega)]; exact ⟨rfl, hS⟩) | (rw [hrec, hstep, if_neg (by omega), if_pos (by omega)]; exact ⟨rfl, rdx_shutDrop (bs := bs) hS rfl (by omega) hcap (by rw [toNat_s1])⟩) | (rw [show rNum (bs, e) = (0, (bs, e)) from if_pos (by assumption)]; exact ⟨rfl, rdx_shut (s := (bs, e)) hS rfl rfl rfl hcap⟩)
    clear hf; intro hc11 a hf
    refine done_l (t_normal ?_)
    refine c_false hf rfl ?_
    refine c_skip (b_normal (t_normal (c_region ?_)))
    refine mN hf hS ?_; clear hf; intro a hf
    refine sP hf hS ?_; clear hf; intro a hf
    refine aN hf hS ?_; clear hf; intro a hf
    refine done_l ?_
    refine t_normal ⟨(i + 1, acc + c.toNat % 128 * 2 ^ (7 * i)), ⟨(((hf.k0.kb hf 4 rfl (by exact int_eq (by omega))).kb hf 3 rfl (by rfl)).kb hf 0 rfl (by rfl)), hS.subA, ⟨by rw [hrec, hstep, if_neg (by omega), if_neg (by omega)], by omega, acc_step (by omega) hacc, by omega⟩⟩, by first | omega | (simp only []; omega)⟩
   clear hf; intro hc9 a hf
   iterate 5 ((first | refine kS hf ?_ | refine step_l (st_rd hf (Wn.some hf rfl rfl rfl rfl) (rd_move hf rfl rfl) hS rfl rfl ?_) | refine pF hf hS ?_ | refine step_l (st_rd hf (Wn.some hf rfl rfl rfl rfl) (rd_pick_f hf rfl rfl rfl) hS rfl rfl ?_)); clear hf; intro a hf)
   refine done_l (t_normal ?_)
   refine c_false hf rfl ?_
   refine c_skip (t_normal (c_seq (c_region ?_)))
   iterate 2 (refine mN hf hS ?_; clear hf; intro a hf)
   refine sR hf hS (rd_and hf rfl rfl rfl (n8_and127 _)) ?_; clear hf; intro a hf
   refine sR hf hS (rd_convInt hf rfl rfl Tryz.underlying5 Tryz.underlying34 (by first | exact wrap64 (by omega) | exact (Go.IntWalk.u64_in _ (by omega)))) ?_; clear hf; intro a hf
   refine mN hf hS ?_; clear hf; intro a hf
   refine sR hf hS (rd_mul hf rfl rfl rfl (by first | exact Go.IntWalk.i64_in _ (by omega) | exact rfl)) ?_; clear hf; intro a hf
   refine sR hf hS (rd_convInt hf rfl rfl Tryz.underlying3 Tryz.underlying89 (by first | exact wrap64 (by omega) | exact (Go.IntWalk.u64_in _ (by omega)))) ?_; clear hf; intro a hf
   refine sR hf hS (rd_shl hf rfl rfl rfl (by first | decide | omega) (n64_shl (7 * i) (by omega) (by omega) (shl_bound (by omega) (by omega) (by omega)))) ?_; clear hf; intro a hf
   refine sR hf hS (rd_or hf rfl rfl rfl (n64_acc (by omega) (by omega) (by omega) hacc)) ?_; clear hf; intro a hf
   refine aN hf hS ?_; clear hf; intro a hf
   refine done_l (t_normal (c_seq (c_region ?_)))
   refine mN hf hS ?_; clear hf; intro a hf
   refine sB hf hS (rd_lss hf rfl rfl rfl) ?_ ?_
   ·
    clear hf; intro hc12 a hf
    refine done_l (t_normal ?_)
    refine c_true hf rfl ?_
    refine c_seq (c_region ?_)
    iterate 2 (refine mN hf hS ?_; clear hf; intro a hf)
    refine nC hf hS ?_; clear hf; intro a hf
    refine fA hf hS fb68_0 ?_; clear hf; intro a hf
    refine sR hf hS (rd_ld hf ag28) ?_; clear hf; intro a hf
    refine mN hf hS ?_; clear hf; intro a hf
    refine sP hf hS ?_; clear hf; intro a hf
    refine sR hf hS (rd_sliceL hf rfl rfl rfl Tryz.underlying28 sz5 (by omega) (by omega)) ?_; clear hf; intro a hf
    refine nC hf hS ?_; clear hf; intro a hf
    refine fA hf hS fb68_0 ?_; clear hf; intro a hf
    refine sS hf hS sz28 ?_
    clear hf hS; intro a w hf hS
    refine done_l (t_normal (c_seq (c_region ?_)))
    iterate 2 ((first | refine mN hf hS ?_ | refine aN hf hS ?_); clear hf; intro a hf)
    refine done_l (t_normal (c_ret (b_ret (t_ret (t_ret (b_ret (t_ret ?_)))))))
    refine eT hf ?_
    first | (rw [hrec, hstep]; exact ⟨rfl, hS⟩) | (rw [hrec, hstep, if_pos (by omega)]; exact ⟨rfl, hS⟩) | (rw [hrec, hstep, if_neg (by omega), if_pos (by omega)]; exact ⟨rfl, rdx_shutDrop (bs := bs) hS rfl (by omega) hcap (by rw [toNat_s1])⟩) | (rw [show rNum (bs, e) = (0, (bs, e)) from if_pos (by assumption)]; exact ⟨rfl, rdx_shut (s := (bs, e)) hS rfl rfl rfl hcap⟩)
   clear hf; intro hc12 a hf
   refine done_l (t_normal ?_)
   refine c_false hf rfl ?_
   refine c_skip (b_normal (t_normal (c_region ?_)))
   refine mN hf hS ?_; clear hf; intro a hf
   refine sP hf hS ?_; clear hf; intro a hf
   refine aN hf hS ?_; clear hf; intro a hf
   refine done_l ?_
   refine t_normal ⟨(i + 1, acc + c.toNat % 128 * 2 ^ (7 * i)), ⟨(((hf.k0.kb hf 4 rfl (by exact int_eq (by omega))).kb hf 3 rfl (by rfl)).kb hf 0 rfl (by rfl)), hS.subA, ⟨by rw [hrec, hstep, if_neg (by omega), if_neg (by omega)], by omega, acc_step (by omega) hacc, by omega⟩⟩, by first | omega | (simp only []; omega)⟩
  clear hf; intro hc1 a hf
  refine done_l (t_normal ?_)
  refine c_false hf rfl ?_
  refine c_exit (t_exit (t_exit (b_exit (t_normal (c_seq (c_region ?_))))))
  refine aN hf hS ?_; clear hf; intro a hf
  refine done_l (t_normal (c_ret ?_))
  refine eT hf ?_
  first | (rw [hrec, hstep]; exact ⟨rfl, hS⟩) | (rw [hrec, hstep, if_pos (by omega)]; exact ⟨rfl, hS⟩) | (rw [hrec, hstep, if_neg (by omega), if_pos (by omega)]; exact ⟨rfl, rdx_shutDrop (bs := bs) hS rfl (by omega) hcap (by rw [toNat_s1])⟩) | (rw [show rNum (bs, e) = (0, (bs, e)) from if_pos (by assumption)]; exact ⟨rfl, rdx_shut (s := (bs, e)) hS rfl rfl rfl hcap⟩)

theorem RVInt_c {X : HP} (p : Nat) (s : RS)  {W : World} {R : List HP} {w : World} (hS : Sat W (RdX X 68 p (s) :: R) w)  : Calls Tryz.prog 24 [.pointer (some ⟨p, 0, none⟩)].toArray w (Ret fun v w' => v = .int .i64 (rInt s).1 ∧ Sat W (RdX X 68 p ((rInt s).2) :: R) w') := by
 refine fn_start 19 Tryz.func24 rfl rfl rfl ?_
 intro a hf
 refine c_seq (c_region ?_)
 refine aN hf hS ?_; clear hf; intro a hf
 refine done_l (t_normal (c_seq (c_region ?_)))
 refine mN hf hS ?_; clear hf; intro a hf
 refine step_l (st_call hf (Wn.none rfl) rfl rfl rfl fn23 (RVNum_c _ _ (hS.selA)) rfl rfl ?_)
 clear hf hS; rintro v a w ⟨rfl, hS⟩ hf; obtain ⟨q, cap, hcap, hS⟩ := rdx_open hS; (try dsimp only at hS hcap)
 refine aN hf hS ?_; clear hf; intro a hf
 refine done_l (t_normal (c_seq (c_seq (c_region ?_))))
 refine mN hf hS ?_; clear hf; intro a hf
 refine nC hf hS ?_; clear hf; intro a hf
 refine fA hf hS fb68_1 ?_; clear hf; intro a hf
 refine sR hf hS (rd_ld hf ag31) ?_; clear hf; intro a hf
 refine sB hf hS (rd_neq hf rfl rfl rfl) ?_ ?_
 ·
  clear hf; intro hc1 a hf
  refine done_l (t_normal ?_)
  refine c_true hf rfl ?_
  refine c_seq (c_region ?_)
  refine aN hf hS ?_; clear hf; intro a hf
  refine done_l (t_normal (c_ret (t_ret ?_)))
  refine eT hf ?_
  exact ⟨int_eq (by unfold rInt; rw [(rNum_err s).resolve_left (by assumption)]; rfl), rdx_shut (s := (rNum s).2) hS rfl rfl rfl hcap⟩
 clear hf; intro hc1 a hf
 refine done_l (t_normal ?_)
 refine c_false hf rfl ?_
 refine c_skip (t_normal (c_seq (c_region ?_)))
 refine mN hf hS ?_; clear hf; intro a hf
 refine sR hf hS (rd_shr hf rfl rfl rfl (by first | decide | omega) (n64_shr 1 rfl (by decide))) ?_; clear hf; intro a hf
 refine sR hf hS (rd_convInt hf rfl rfl Tryz.underlying34 Tryz.underlying2 rfl) ?_; clear hf; intro a hf
 refine mN hf hS ?_; clear hf; intro a hf
 refine sR hf hS (rd_and hf rfl rfl rfl (n64_and (q := 1) (rNum_lt s) (by decide))) ?_; clear hf; intro a hf
 refine sR hf hS (rd_convInt hf rfl rfl Tryz.underlying34 Tryz.underlying2 rfl) ?_; clear hf; intro a hf
 refine sR hf hS (rd_neg hf rfl rfl (by first | exact Go.IntWalk.i64_in _ (by omega) | exact rfl)) ?_; clear hf; intro a hf
 refine sR hf hS (rd_xor hf rfl rfl rfl (unzz_val (rNum_lt s))) ?_; clear hf; intro a hf
 refine aN hf hS ?_; clear hf; intro a hf
 refine done_l (t_normal (c_ret ?_))
 refine eT hf ?_
 exact ⟨rfl, rdx_shut (s := (rNum s).2) hS rfl rfl rfl hcap⟩

theorem RVCount_c {X : HP} (p : Nat) (s : RS) (most : Int) {W : World} {R : List HP} {w : World} (hS : Sat W (RdX X 68 p (s) :: R) w) (hm : -9223372036854775808 ≤ most ∧ most ≤ 9223372036854775807) : Calls Tryz.prog 26 [.pointer (some ⟨p, 0, none⟩), .int .i64 most].toArray w (Ret fun v w' => v = .int .i64 ((rCount most s).1 : Nat) ∧ Sat W (RdX X 68 p ((rCount most s).2) :: R) w') := by
 refine fn_start 29 Tryz.func26 rfl rfl rfl ?_
 intro a hf
 refine c_seq (c_region ?_)
 refine aN hf hS ?_; clear hf; intro a hf
 refine done_l (t_normal (c_seq (c_region ?_)))
 refine mN hf hS ?_; clear hf; intro a hf
 refine step_l (st_call hf (Wn.none rfl) rfl rfl rfl fn23 (RVNum_c _ _ (hS.selA)) rfl rfl ?_)
 clear hf hS; rintro v a w ⟨rfl, hS⟩ hf; obtain ⟨q, cap, hcap, hS⟩ := rdx_open hS; (try dsimp only at hS hcap)
 refine aN hf hS ?_; clear hf; intro a hf
 refine done_l (t_normal (c_seq (c_seq (c_region ?_))))
 refine mN hf hS ?_; clear hf; intro a hf
 refine nC hf hS ?_; clear hf; intro a hf
 refine fA hf hS fb68_1 ?_; clear hf; intro a hf
 refine sR hf hS (rd_ld hf ag31) ?_; clear hf; intro a hf
 refine sB hf hS (rd_eql hf rfl rfl rfl) ?_ ?_
 ·
  clear hf; intro hc1 a hf
  first
  | (first | exact absurd hc1 (by assumption) | exact absurd (by assumption) hc1 | exact absurd hc1 (by decide) | exact absurd (by decide) hc1; done)
  | (
   iterate 3 ((first | refine mN hf hS ?_ | refine step_l (st_rd hf (Wn.some hf rfl rfl rfl rfl) (rd_move hf rfl rfl) hS rfl rfl ?_)); clear hf; intro a hf)
   refine sG hf hS (rd_max hf rfl rfl rfl) ?_; clear hf; intro a hf
   refine sG hf hS (rd_convInt hf rfl rfl Tryz.underlying3 Tryz.underlying34 (Go.IntWalk.u64_in _ (by omega))) ?_; clear hf; intro a hf
   refine step_l (st_rdB hf (Wn.some hf rfl rfl rfl rfl) (rd_gtr hf rfl rfl rfl) hS rfl rfl ?_ ?_)
   ·
    clear hf; intro hc2 a hf
    first
    | (first | exact absurd hc2 (by assumption) | exact absurd (by assumption) hc2 | exact absurd hc2 (by decide) | exact absurd (by decide) hc2; done)
    | (
     refine pT hf hS ?_; clear hf; intro a hf
     refine done_l (t_normal ?_)
     refine c_true hf rfl ?_
     refine c_region ?_
     refine mN hf hS ?_; clear hf; intro a hf
     replace hS := rdx_shut (s := (rNum s).2) hS rfl rfl rfl hcap
     refine step_l (st_call hf (Wn.none rfl) rfl rfl rfl fn65 (RVfail_c _ _ _ (hS.selA)) rfl rfl ?_)
     clear hf hS; rintro v a w ⟨rfl, hS⟩ hf; rw [if_pos (by first | assumption | rfl)] at hS; obtain ⟨q, cap, hcap, hS⟩ := rdx_open hS; (try dsimp only at hS hcap)
     refine done_l (t_normal (c_seq (c_seq (c_region ?_))))
     refine mN hf hS ?_; clear hf; intro a hf
     refine nC hf hS ?_; clear hf; intro a hf
     refine fA hf hS fb68_1 ?_; clear hf; intro a hf
     refine sR hf hS (rd_ld hf ag31) ?_; clear hf; intro a hf
     refine sB hf hS (rd_neq hf rfl rfl rfl) ?_ ?_
     ·
      clear hf; intro hc3 a hf
      first
      | (first | exact absurd hc3 (by assumption) | exact absurd (by assumption) hc3 | exact absurd hc3 (by decide) | exact absurd (by decide) hc3; done)
      | (
       refine done_l (t_normal ?_)
       refine c_true hf rfl ?_
       refine c_seq (c_region ?_)
       refine aN hf hS ?_; clear hf; intro a hf
       refine done_l (t_normal (c_ret (t_ret ?_)))
       refine eT hf ?_
       first | (rw [rCount_a (by assumption)]; exact ⟨rfl, rdx_shut (s := (rNum s).2) hS rfl rfl rfl hcap⟩) | (rw [rCount_b (by assumption) (by omega)]; exact ⟨rfl, rdx_shut (s := ([], 4)) hS rfl rfl rfl hcap⟩) | (rw [rCount_c (by assumption) (by omega)]; exact ⟨rfl, rdx_shut (s := (rNum s).2) hS rfl rfl rfl hcap⟩)
       )
     clear hf; intro hc3 a hf
     first
     | (first | exact absurd hc3 (by assumption) | exact absurd (by assumption) hc3 | exact absurd hc3 (by decide) | exact absurd (by decide) hc3; done)
     | (
      refine done_l (t_normal ?_)
      refine c_false hf rfl ?_
      refine c_skip (t_normal (c_seq (c_region ?_)))
      refine mN hf hS ?_; clear hf; intro a hf
      refine sR hf hS (rd_convInt hf rfl rfl Tryz.underlying34 Tryz.underlying3 (by first | exact Go.IntWalk.i64_in _ (by omega) | exact rfl)) ?_; clear hf; intro a hf
      refine aN hf hS ?_; clear hf; intro a hf
      refine done_l (t_normal (c_ret ?_))
      refine eT hf ?_
      first | (rw [rCount_a (by assumption)]; exact ⟨rfl, rdx_shut (s := (rNum s).2) hS rfl rfl rfl hcap⟩) | (rw [rCount_b (by assumption) (by omega)]; exact ⟨rfl, rdx_shut (s := ([], 4)) hS rfl rfl rfl hcap⟩) | (rw [rCount_c (by assumption) (by omega)]; exact ⟨rfl, rdx_shut (s := (rNum s).2) hS rfl rfl rfl hcap⟩)
      )
     )
   clear hf; intro hc2 a hf
   first
   | (first | exact absurd hc2 (by assumption) | exact absurd (by assumption) hc2 | exact absurd hc2 (by decide) | exact absurd (by decide) hc2; done)
   | (
    refine pT hf hS ?_; clear hf; intro a hf
    refine done_l (t_normal ?_)
    refine c_false hf rfl ?_
    refine c_skip (t_normal (c_seq (c_seq (c_region ?_))))
    refine mN hf hS ?_; clear hf; intro a hf
    refine nC hf hS ?_; clear hf; intro a hf
    refine fA hf hS fb68_1 ?_; clear hf; intro a hf
    refine sR hf hS (rd_ld hf ag31) ?_; clear hf; intro a hf
    refine sB hf hS (rd_neq hf rfl rfl rfl) ?_ ?_
    ·
     clear hf; intro hc4 a hf
     first
     | (first | exact absurd hc4 (by assumption) | exact absurd (by assumption) hc4 | exact absurd hc4 (by decide) | exact absurd (by decide) hc4; done)
     | (
      refine done_l (t_normal ?_)
      refine c_true hf rfl ?_
      refine c_seq (c_region ?_)
      refine aN hf hS ?_; clear hf; intro a hf
      refine done_l (t_normal (c_ret (t_ret ?_)))
      refine eT hf ?_
      first | (rw [rCount_a (by assumption)]; exact ⟨rfl, rdx_shut (s := (rNum s).2) hS rfl rfl rfl hcap⟩) | (rw [rCount_b (by assumption) (by omega)]; exact ⟨rfl, rdx_shut (s := ([], 4)) hS rfl rfl rfl hcap⟩) | (rw [rCount_c (by assumption) (by omega)]; exact ⟨rfl, rdx_shut (s := (rNum s).2) hS rfl rfl rfl hcap⟩)
      )
    clear hf; intro hc4 a hf
    first
    | (first | exact absurd hc4 (by assumption) | exact absurd (by assumption) hc4 | exact absurd hc4 (by decide) | exact absurd (by decide) hc4; done)
    | (
     refine done_l (t_normal ?_)
     refine c_false hf rfl ?_
     refine c_skip (t_normal (c_seq (c_region ?_)))
     refine mN hf hS ?_; clear hf; intro a hf
     refine sR hf hS (rd_convInt hf rfl rfl Tryz.underlying34 Tryz.underlying3 (by first | exact Go.IntWalk.i64_in _ (by omega) | exact rfl)) ?_; clear hf; intro a hf
     refine aN hf hS ?_; clear hf; intro a hf
     refine done_l (t_normal (c_ret ?_))
     refine eT hf ?_
     first | (rw [rCount_a (by assumption)]; exact ⟨rfl, rdx_shut (s := (rNum s).2) hS rfl rfl rfl hcap⟩) | (rw [rCount_b (by assumption) (by omega)]; exact ⟨rfl, rdx_shut (s := ([], 4)) hS rfl rfl rfl hcap⟩) | (rw [rCount_c (by assumption) (by omega)]; exact ⟨rfl, rdx_shut (s := (rNum s).2) hS rfl rfl rfl hcap⟩)
     )
    )
   )
 clear hf; intro hc1 a hf
 first
 | (first | exact absurd hc1 (by assumption) | exact absurd (by assumption) hc1 | exact absurd hc1 (by decide) | exact absurd (by decide) hc1; done)
 | (
  iterate 7 ((first | refine kS hf ?_ | refine mN hf hS ?_ | refine pF hf hS ?_); clear hf; intro a hf)
  refine done_l (t_normal ?_)
  refine c_false hf rfl ?_
  refine c_skip (t_normal (c_seq (c_seq (c_region ?_))))
  refine mN hf hS ?_; clear hf; intro a hf
  refine nC hf hS ?_; clear hf; intro a hf
  refine fA hf hS fb68_1 ?_; clear hf; intro a hf
  refine sR hf hS (rd_ld hf ag31) ?_; clear hf; intro a hf
  refine sB hf hS (rd_neq hf rfl rfl rfl) ?_ ?_
  ·
   clear hf; intro hc5 a hf
   first
   | (first | exact absurd hc5 (by assumption) | exact absurd (by assumption) hc5 | exact absurd hc5 (by decide) | exact absurd (by decide) hc5; done)
   | (
    refine done_l (t_normal ?_)
    refine c_true hf rfl ?_
    refine c_seq (c_region ?_)
    refine aN hf hS ?_; clear hf; intro a hf
    refine done_l (t_normal (c_ret (t_ret ?_)))
    refine eT hf ?_
    first | (rw [rCount_a (by assumption)]; exact ⟨rfl, rdx_shut (s := (rNum s).2) hS rfl rfl rfl hcap⟩) | (rw [rCount_b (by assumption) (by omega)]; exact ⟨rfl, rdx_shut (s := ([], 4)) hS rfl rfl rfl hcap⟩) | (rw [rCount_c (by assumption) (by omega)]; exact ⟨rfl, rdx_shut (s := (rNum s).2) hS rfl rfl rfl hcap⟩)
    )
  clear hf; intro hc5 a hf
  first
  | (first | exact absurd hc5 (by assumption) | exact absurd (by assumption) hc5 | exact absurd hc5 (by decide) | exact absurd (by decide) hc5; done)
  | (
   refine done_l (t_normal ?_)
   refine c_false hf rfl ?_
   refine c_skip (t_normal (c_seq (c_region ?_)))
   refine mN hf hS ?_; clear hf; intro a hf
   refine sR hf hS (rd_convInt hf rfl rfl Tryz.underlying34 Tryz.underlying3 (by first | exact Go.IntWalk.i64_in _ (by omega) | exact rfl)) ?_; clear hf; intro a hf
   refine aN hf hS ?_; clear hf; intro a hf
   refine done_l (t_normal (c_ret ?_))
   refine eT hf ?_
   first | (rw [rCount_a (by assumption)]; exact ⟨rfl, rdx_shut (s := (rNum s).2) hS rfl rfl rfl hcap⟩) | (rw [rCount_b (by assumption) (by omega)]; exact ⟨rfl, rdx_shut (s := ([], 4)) hS rfl rfl rfl hcap⟩) | (rw [rCount_c (by assumption) (by omega)]; exact ⟨rfl, rdx_shut (s := (rNum s).2) hS rfl rfl rfl hcap⟩)
   )
  )

theorem RVText_c {X : HP} (p : Nat) (s : RS) (most : Int) {W : World} {R : List HP} {w : World} (hS : Sat W (RdX X 68 p (s) :: R) w) (hm : -9223372036854775808 ≤ most ∧ most ≤ 9223372036854775807) (hb : s.1.length ≤ 140737488355328) : Calls Tryz.prog 25 [.pointer (some ⟨p, 0, none⟩), .int .i64 most].toArray w (Ret fun v w' => ∃ q cap, v = .slice q (rText most s).1.length cap ∧ Sat W (Rw 5 1 q (rText most s).1.length cap (bvs (rText most s).1) :: RdX X 68 p (rText most s).2 :: R) w') := by
 refine fn_start 48 Tryz.func25 rfl rfl rfl ?_
 intro a hf
 have hrl := rCount_rest most s
 refine c_seq (c_region ?_)
 refine aN hf hS ?_; clear hf; intro a hf
 refine done_l (t_normal (c_seq (c_region ?_)))
 iterate 2 (refine mN hf hS ?_; clear hf; intro a hf)
 refine step_l (st_call hf (Wn.none rfl) rfl rfl rfl fn26 (RVCount_c _ _ _ (hS.selA) (by first | assumption | exact ⟨by omega, by omega⟩)) rfl rfl ?_)
 clear hf hS; rintro v a w ⟨rfl, hS⟩ hf; obtain ⟨q, cap, hcap, hS⟩ := rdx_open hS; (try dsimp only at hS hcap)
 refine aN hf hS ?_; clear hf; intro a hf
 refine done_l (t_normal (c_seq (c_seq (c_region ?_))))
 refine mN hf hS ?_; clear hf; intro a hf
 refine nC hf hS ?_; clear hf; intro a hf
 refine fA hf hS fb68_1 ?_; clear hf; intro a hf
 refine sR hf hS (rd_ld hf ag31) ?_; clear hf; intro a hf
 refine sB hf hS (rd_eql hf rfl rfl rfl) ?_ ?_
 ·
  clear hf; intro hc1 a hf
  first
  | (first | exact absurd hc1 (by assumption) | exact absurd (by assumption) hc1 | exact absurd hc1 (by decide) | exact absurd (by decide) hc1; done)
  | (
   iterate 3 ((first | refine mN hf hS ?_ | refine step_l (st_rd hf (Wn.some hf rfl rfl rfl rfl) (rd_move hf rfl rfl) hS rfl rfl ?_)); clear hf; intro a hf)
   refine sG hf hS (rd_nilCheck hf rfl rfl) ?_; clear hf; intro a hf
   refine fG hf hS fb68_0 ?_; clear hf; intro a hf
   refine sG hf hS (rd_ld hf ag28) ?_; clear hf; intro a hf
   refine sG hf hS (rd_len hf rfl rfl Tryz.underlying28) ?_; clear hf; intro a hf
   refine step_l (st_rdB hf (Wn.some hf rfl rfl rfl rfl) (rd_gtr hf rfl rfl rfl) hS rfl rfl ?_ ?_)
   ·
    clear hf; intro hc2 a hf
    first
    | (first | exact absurd hc2 (by assumption) | exact absurd (by assumption) hc2 | exact absurd hc2 (by decide) | exact absurd (by decide) hc2; done)
    | (
     refine pT hf hS ?_; clear hf; intro a hf
     refine done_l (t_normal ?_)
     refine c_true hf rfl ?_
     refine c_region ?_
     refine mN hf hS ?_; clear hf; intro a hf
     replace hS := rdx_shut (s := (rCount most s).2) hS rfl rfl rfl hcap
     refine step_l (st_call hf (Wn.none rfl) rfl rfl rfl fn65 (RVfail_c _ _ _ (hS.selA)) rfl rfl ?_)
     clear hf hS; rintro v a w ⟨rfl, hS⟩ hf; rw [if_pos (by first | assumption | rfl)] at hS; obtain ⟨q, cap, hcap, hS⟩ := rdx_open hS; (try dsimp only at hS hcap)
     refine done_l (t_normal (c_seq (c_seq (c_region ?_))))
     refine mN hf hS ?_; clear hf; intro a hf
     refine nC hf hS ?_; clear hf; intro a hf
     refine fA hf hS fb68_1 ?_; clear hf; intro a hf
     refine sR hf hS (rd_ld hf ag31) ?_; clear hf; intro a hf
     refine sB hf hS (rd_neq hf rfl rfl rfl) ?_ ?_
     ·
      clear hf; intro hc3 a hf
      first
      | (first | exact absurd hc3 (by assumption) | exact absurd (by assumption) hc3 | exact absurd hc3 (by decide) | exact absurd (by decide) hc3; done)
      | (
       refine done_l (t_normal ?_)
       refine c_true hf rfl ?_
       refine c_seq (c_region ?_)
       refine aN hf hS ?_; clear hf; intro a hf
       refine done_l (t_normal (c_ret (t_ret ?_)))
       refine eT hf ?_
       first | (rw [rText_a (by assumption)]; exact ⟨none, 0, rfl, (rdx_shut (s := (rCount most s).2) hS rfl rfl rfl hcap).rwNil _ 1⟩) | (rw [rText_b (by assumption) (by omega)]; exact ⟨none, 0, rfl, (rdx_shut (s := ([], 2)) hS rfl rfl rfl hcap).rwNil _ 1⟩) | (rw [rText_c (by assumption) (by omega)]; exact ⟨_, _, by rw [List.length_take, Int.toNat_natCast, Nat.zero_add, Nat.min_eq_left (by omega)], (rdx_shutDrop (bs := (rCount most s).2.1) (hS.sub (.cons .head (.cons (.tail .head) .refl))) rfl (by omega) hcap (by rw [Int.toNat_natCast]; exact Prod.ext rfl (Eq.symm (by assumption)))).sub (.cons (.tail .head) (.cons .head .refl))⟩)
       )
     clear hf; intro hc3 a hf
     first
     | (first | exact absurd hc3 (by assumption) | exact absurd (by assumption) hc3 | exact absurd hc3 (by decide) | exact absurd (by decide) hc3; done)
     | (
      refine done_l (t_normal ?_)
      refine c_false hf rfl ?_
      refine c_skip (t_normal (c_seq (c_region ?_)))
      refine mN hf hS ?_; clear hf; intro a hf
      refine nC hf hS ?_; clear hf; intro a hf
      refine fA hf hS fb68_0 ?_; clear hf; intro a hf
      refine sR hf hS (rd_ld hf ag28) ?_; clear hf; intro a hf
      refine mN hf hS ?_; clear hf; intro a hf
      refine sR hf hS (rd_sliceH hf rfl rfl rfl Tryz.underlying28 sz5 (by omega) (by omega)) ?_; clear hf; intro a hf
      replace hS := hS.rwNil 5 1
      refine step_l (st_append hf (Wn.none rfl) rfl rfl rfl Tryz.underlying28 tyb5 (by rfl) (by decide) hS (by repeat (first | exact Sel.head | apply Sel.tail)) (by first | exact hS.slOfBlk (by repeat (first | exact Sel.head | apply Sel.tail)) (by rfl) | exact hS.slOfBlkPre (by repeat (first | exact Sel.head | apply Sel.tail)) (bvs_len1 _) | exact hS.slOfRw (by repeat (first | exact Sel.head | apply Sel.tail)) | exact SlAt.nil _ _ _ | exact (by have hv2 := (hS.vwx (by repeat (first | exact Sel.head | apply Sel.tail))).take (k := (rCount most s).1) (by omega); rw [← bvs_take] at hv2; exact hv2)) (by first | rfl | exact bvs_one _ | (simp [Value.oneCell']; done)) (by omega) rfl rfl ?_)
      clear hf hS; intro pA capA a w hf hS hnilA; replace hS := hS.rwCast (xs' := bvs ((rCount most s).2.1.take (rCount most s).1)) (len' := ((rCount most s).2.1.take (rCount most s).1).length) (by simp) (by rw [List.length_take, Int.toNat_natCast, Nat.zero_add, Nat.min_eq_left (by omega)])
      refine aN hf hS ?_; clear hf; intro a hf
      refine done_l (t_normal (c_seq (c_region ?_)))
      iterate 2 (refine mN hf hS ?_; clear hf; intro a hf)
      refine nC hf hS ?_; clear hf; intro a hf
      refine fA hf hS fb68_0 ?_; clear hf; intro a hf
      refine sR hf hS (rd_ld hf ag28) ?_; clear hf; intro a hf
      refine mN hf hS ?_; clear hf; intro a hf
      refine sR hf hS (rd_sliceL hf rfl rfl rfl Tryz.underlying28 sz5 (by omega) (by omega)) ?_; clear hf; intro a hf
      refine nC hf hS ?_; clear hf; intro a hf
      refine fA hf hS fb68_0 ?_; clear hf; intro a hf
      refine sS hf hS sz28 ?_
      clear hf hS; intro a w hf hS
      refine done_l (t_normal (c_seq (c_region ?_)))
      iterate 2 ((first | refine mN hf hS ?_ | refine aN hf hS ?_); clear hf; intro a hf)
      refine done_l (t_normal (c_ret ?_))
      refine eT hf ?_
      first | (rw [rText_a (by assumption)]; exact ⟨none, 0, rfl, (rdx_shut (s := (rCount most s).2) hS rfl rfl rfl hcap).rwNil _ 1⟩) | (rw [rText_b (by assumption) (by omega)]; exact ⟨none, 0, rfl, (rdx_shut (s := ([], 2)) hS rfl rfl rfl hcap).rwNil _ 1⟩) | (rw [rText_c (by assumption) (by omega)]; exact ⟨_, _, by rw [List.length_take, Int.toNat_natCast, Nat.zero_add, Nat.min_eq_left (by omega)], (rdx_shutDrop (bs := (rCount most s).2.1) (hS.sub (.cons .head (.cons (.tail .head) .refl))) rfl (by omega) hcap (by rw [Int.toNat_natCast]; exact Prod.ext rfl (Eq.symm (by assumption)))).sub (.cons (.tail .head) (.cons .head .refl))⟩)
      )
     )
   clear hf; intro hc2 a hf
   first
   | (first | exact absurd hc2 (by assumption) | exact absurd (by assumption) hc2 | exact absurd hc2 (by decide) | exact absurd (by decide) hc2; done)
   | (
    refine pT hf hS ?_; clear hf; intro a hf
    refine done_l (t_normal ?_)
    refine c_false hf rfl ?_
    refine c_skip (t_normal (c_seq (c_seq (c_region ?_))))
    refine mN hf hS ?_; clear hf; intro a hf
    refine nC hf hS ?_; clear hf; intro a hf
    refine fA hf hS fb68_1 ?_; clear hf; intro a hf
    refine sR hf hS (rd_ld hf ag31) ?_; clear hf; intro a hf
    refine sB hf hS (rd_neq hf rfl rfl rfl) ?_ ?_
    ·
     clear hf; intro hc5 a hf
     first
     | (first | exact absurd hc5 (by assumption) | exact absurd (by assumption) hc5 | exact absurd hc5 (by decide) | exact absurd (by decide) hc5; done)
     | (
      refine done_l (t_normal ?_)
      refine c_true hf rfl ?_
      refine c_seq (c_region ?_)
      refine aN hf hS ?_; clear hf; intro a hf
      refine done_l (t_normal (c_ret (t_ret ?_)))
      refine eT hf ?_
      first | (rw [rText_a (by assumption)]; exact ⟨none, 0, rfl, (rdx_shut (s := (rCount most s).2) hS rfl rfl rfl hcap).rwNil _ 1⟩) | (rw [rText_b (by assumption) (by omega)]; exact ⟨none, 0, rfl, (rdx_shut (s := ([], 2)) hS rfl rfl rfl hcap).rwNil _ 1⟩) | (rw [rText_c (by assumption) (by omega)]; exact ⟨_, _, by rw [List.length_take, Int.toNat_natCast, Nat.zero_add, Nat.min_eq_left (by omega)], (rdx_shutDrop (bs := (rCount most s).2.1) (hS.sub (.cons .head (.cons (.tail .head) .refl))) rfl (by omega) hcap (by rw [Int.toNat_natCast]; exact Prod.ext rfl (Eq.symm (by assumption)))).sub (.cons (.tail .head) (.cons .head .refl))⟩)
      )
    clear hf; intro hc5 a hf
    first
    | (first | exact absurd hc5 (by assumption) | exact absurd (by assumption) hc5 | exact absurd hc5 (by decide) | exact absurd (by decide) hc5; done)
    | (
     refine done_l (t_normal ?_)
     refine c_false hf rfl ?_
     refine c_skip (t_normal (c_seq (c_region ?_)))
     refine mN hf hS ?_; clear hf; intro a hf
     refine nC hf hS ?_; clear hf; intro a hf
     refine fA hf hS fb68_0 ?_; clear hf; intro a hf
     refine sR hf hS (rd_ld hf ag28) ?_; clear hf; intro a hf
     refine mN hf hS ?_; clear hf; intro a hf
     refine sR hf hS (rd_sliceH hf rfl rfl rfl Tryz.underlying28 sz5 (by omega) (by omega)) ?_; clear hf; intro a hf
     replace hS := hS.rwNil 5 1
     refine step_l (st_append hf (Wn.none rfl) rfl rfl rfl Tryz.underlying28 tyb5 (by rfl) (by decide) hS (by repeat (first | exact Sel.head | apply Sel.tail)) (by first | exact hS.slOfBlk (by repeat (first | exact Sel.head | apply Sel.tail)) (by rfl) | exact hS.slOfBlkPre (by repeat (first | exact Sel.head | apply Sel.tail)) (bvs_len1 _) | exact hS.slOfRw (by repeat (first | exact Sel.head | apply Sel.tail)) | exact SlAt.nil _ _ _ | exact (by have hv2 := (hS.vwx (by repeat (first | exact Sel.head | apply Sel.tail))).take (k := (rCount most s).1) (by omega); rw [← bvs_take] at hv2; exact hv2)) (by first | rfl | exact bvs_one _ | (simp [Value.oneCell']; done)) (by omega) rfl rfl ?_)
     clear hf hS; intro pA capA a w hf hS hnilA; replace hS := hS.rwCast (xs' := bvs ((rCount most s).2.1.take (rCount most s).1)) (len' := ((rCount most s).2.1.take (rCount most s).1).length) (by simp) (by rw [List.length_take, Int.toNat_natCast, Nat.zero_add, Nat.min_eq_left (by omega)])
     refine aN hf hS ?_; clear hf; intro a hf
     refine done_l (t_normal (c_seq (c_region ?_)))
     iterate 2 (refine mN hf hS ?_; clear hf; intro a hf)
     refine nC hf hS ?_; clear hf; intro a hf
     refine fA hf hS fb68_0 ?_; clear hf; intro a hf
     refine sR hf hS (rd_ld hf ag28) ?_; clear hf; intro a hf
     refine mN hf hS ?_; clear hf; intro a hf
     refine sR hf hS (rd_sliceL hf rfl rfl rfl Tryz.underlying28 sz5 (by omega) (by omega)) ?_; clear hf; intro a hf
     refine nC hf hS ?_; clear hf; intro a hf
     refine fA hf hS fb68_0 ?_; clear hf; intro a hf
     refine sS hf hS sz28 ?_
     clear hf hS; intro a w hf hS
     refine done_l (t_normal (c_seq (c_region ?_)))
     iterate 2 ((first | refine mN hf hS ?_ | refine aN hf hS ?_); clear hf; intro a hf)
     refine done_l (t_normal (c_ret ?_))
     refine eT hf ?_
     first | (rw [rText_a (by assumption)]; exact ⟨none, 0, rfl, (rdx_shut (s := (rCount most s).2) hS rfl rfl rfl hcap).rwNil _ 1⟩) | (rw [rText_b (by assumption) (by omega)]; exact ⟨none, 0, rfl, (rdx_shut (s := ([], 2)) hS rfl rfl rfl hcap).rwNil _ 1⟩) | (rw [rText_c (by assumption) (by omega)]; exact ⟨_, _, by rw [List.length_take, Int.toNat_natCast, Nat.zero_add, Nat.min_eq_left (by omega)], (rdx_shutDrop (bs := (rCount most s).2.1) (hS.sub (.cons .head (.cons (.tail .head) .refl))) rfl (by omega) hcap (by rw [Int.toNat_natCast]; exact Prod.ext rfl (Eq.symm (by assumption)))).sub (.cons (.tail .head) (.cons .head .refl))⟩)
     )
    )
   )
 clear hf; intro hc1 a hf
 first
 | (first | exact absurd hc1 (by assumption) | exact absurd (by assumption) hc1 | exact absurd hc1 (by decide) | exact absurd (by decide) hc1; done)
 | (
  iterate 9 ((first | refine kS hf ?_ | refine mN hf hS ?_ | refine pF hf hS ?_); clear hf; intro a hf)
  refine done_l (t_normal ?_)
  refine c_false hf rfl ?_
  refine c_skip (t_normal (c_seq (c_seq (c_region ?_))))
  refine mN hf hS ?_; clear hf; intro a hf
  refine nC hf hS ?_; clear hf; intro a hf
  refine fA hf hS fb68_1 ?_; clear hf; intro a hf
  refine sR hf hS (rd_ld hf ag31) ?_; clear hf; intro a hf
  refine sB hf hS (rd_neq hf rfl rfl rfl) ?_ ?_
  ·
   clear hf; intro hc7 a hf
   first
   | (first | exact absurd hc7 (by assumption) | exact absurd (by assumption) hc7 | exact absurd hc7 (by decide) | exact absurd (by decide) hc7; done)
   | (
    refine done_l (t_normal ?_)
    refine c_true hf rfl ?_
    refine c_seq (c_region ?_)
    refine aN hf hS ?_; clear hf; intro a hf
    refine done_l (t_normal (c_ret (t_ret ?_)))
    refine eT hf ?_
    first | (rw [rText_a (by assumption)]; exact ⟨none, 0, rfl, (rdx_shut (s := (rCount most s).2) hS rfl rfl rfl hcap).rwNil _ 1⟩) | (rw [rText_b (by assumption) (by omega)]; exact ⟨none, 0, rfl, (rdx_shut (s := ([], 2)) hS rfl rfl rfl hcap).rwNil _ 1⟩) | (rw [rText_c (by assumption) (by omega)]; exact ⟨_, _, by rw [List.length_take, Int.toNat_natCast, Nat.zero_add, Nat.min_eq_left (by omega)], (rdx_shutDrop (bs := (rCount most s).2.1) (hS.sub (.cons .head (.cons (.tail .head) .refl))) rfl (by omega) hcap (by rw [Int.toNat_natCast]; exact Prod.ext rfl (Eq.symm (by assumption)))).sub (.cons (.tail .head) (.cons .head .refl))⟩)
    )
  clear hf; intro hc7 a hf
  first
  | (first | exact absurd hc7 (by assumption) | exact absurd (by assumption) hc7 | exact absurd hc7 (by decide) | exact absurd (by decide) hc7; done)
  | (
   refine done_l (t_normal ?_)
   refine c_false hf rfl ?_
   refine c_skip (t_normal (c_seq (c_region ?_)))
   refine mN hf hS ?_; clear hf; intro a hf
   refine nC hf hS ?_; clear hf; intro a hf
   refine fA hf hS fb68_0 ?_; clear hf; intro a hf
   refine sR hf hS (rd_ld hf ag28) ?_; clear hf; intro a hf
   refine mN hf hS ?_; clear hf; intro a hf
   refine sR hf hS (rd_sliceH hf rfl rfl rfl Tryz.underlying28 sz5 (by omega) (by omega)) ?_; clear hf; intro a hf
   replace hS := hS.rwNil 5 1
   refine step_l (st_append hf (Wn.none rfl) rfl rfl rfl Tryz.underlying28 tyb5 (by rfl) (by decide) hS (by repeat (first | exact Sel.head | apply Sel.tail)) (by first | exact hS.slOfBlk (by repeat (first | exact Sel.head | apply Sel.tail)) (by rfl) | exact hS.slOfBlkPre (by repeat (first | exact Sel.head | apply Sel.tail)) (bvs_len1 _) | exact hS.slOfRw (by repeat (first | exact Sel.head | apply Sel.tail)) | exact SlAt.nil _ _ _ | exact (by have hv2 := (hS.vwx (by repeat (first | exact Sel.head | apply Sel.tail))).take (k := (rCount most s).1) (by omega); rw [← bvs_take] at hv2; exact hv2)) (by first | rfl | exact bvs_one _ | (simp [Value.oneCell']; done)) (by omega) rfl rfl ?_)
   clear hf hS; intro pA capA a w hf hS hnilA; replace hS := hS.rwCast (xs' := bvs ((rCount most s).2.1.take (rCount most s).1)) (len' := ((rCount most s).2.1.take (rCount most s).1).length) (by simp) (by rw [List.length_take, Int.toNat_natCast, Nat.zero_add, Nat.min_eq_left (by omega)])
   refine aN hf hS ?_; clear hf; intro a hf
   refine done_l (t_normal (c_seq (c_region ?_)))
   iterate 2 (refine mN hf hS ?_; clear hf; intro a hf)
   refine nC hf hS ?_; clear hf; intro a hf
   refine fA hf hS fb68_0 ?_; clear hf; intro a hf
   refine sR hf hS (rd_ld hf ag28) ?_; clear hf; intro a hf
   refine mN hf hS ?_; clear hf; intro a hf
   refine sR hf hS (rd_sliceL hf rfl rfl rfl Tryz.underlying28 sz5 (by omega) (by omega)) ?_; clear hf; intro a hf
   refine nC hf hS ?_; clear hf; intro a hf
   refine fA hf hS fb68_0 ?_; clear hf; intro a hf
   refine sS hf hS sz28 ?_
   clear hf hS; intro a w hf hS
   refine done_l (t_normal (c_seq (c_region ?_)))
   iterate 2 ((first | refine mN hf hS ?_ | refine aN hf hS ?_); clear hf; intro a hf)
   refine done_l (t_normal (c_ret ?_))
   refine eT hf ?_
   first | (rw [rText_a (by assumption)]; exact ⟨none, 0, rfl, (rdx_shut (s := (rCount most s).2) hS rfl rfl rfl hcap).rwNil _ 1⟩) | (rw [rText_b (by assumption) (by omega)]; exact ⟨none, 0, rfl, (rdx_shut (s := ([], 2)) hS rfl rfl rfl hcap).rwNil _ 1⟩) | (rw [rText_c (by assumption) (by omega)]; exact ⟨_, _, by rw [List.length_take, Int.toNat_natCast, Nat.zero_add, Nat.min_eq_left (by omega)], (rdx_shutDrop (bs := (rCount most s).2.1) (hS.sub (.cons .head (.cons (.tail .head) .refl))) rfl (by omega) hcap (by rw [Int.toNat_natCast]; exact Prod.ext rfl (Eq.symm (by assumption)))).sub (.cons (.tail .head) (.cons .head .refl))⟩)
   )
  )

theorem RVEnd_c {X : HP} (p : Nat) (s : RS)  {W : World} {R : List HP} {w : World} (hS : Sat W (RdX X 68 p (s) :: R) w)  : Calls Tryz.prog 29 [.pointer (some ⟨p, 0, none⟩)].toArray w (Ret fun v w' => v = .int .i64 (rEnd s) ∧ Sat W (RdX X 68 p (s) :: R) w') := by
 refine fn_start 20 Tryz.func29 rfl rfl rfl ?_
 intro a hf
 obtain ⟨bs, e⟩ := s; obtain ⟨q, cap, hcap, hS⟩ := rdx_open hS; dsimp only at hS hcap
 refine c_seq (c_region ?_)
 refine aN hf hS ?_; clear hf; intro a hf
 refine done_l (t_normal (c_seq (c_seq (c_region ?_))))
 refine mN hf hS ?_; clear hf; intro a hf
 refine nC hf hS ?_; clear hf; intro a hf
 refine fA hf hS fb68_1 ?_; clear hf; intro a hf
 refine sR hf hS (rd_ld hf ag31) ?_; clear hf; intro a hf
 refine sB hf hS (rd_eql hf rfl rfl rfl) ?_ ?_
 ·
  clear hf; intro hc1 a hf
  iterate 2 ((first | refine mN hf hS ?_ | refine step_l (st_rd hf (Wn.some hf rfl rfl rfl rfl) (rd_move hf rfl rfl) hS rfl rfl ?_)); clear hf; intro a hf)
  refine sG hf hS (rd_nilCheck hf rfl rfl) ?_; clear hf; intro a hf
  refine fG hf hS fb68_0 ?_; clear hf; intro a hf
  refine sG hf hS (rd_ld hf ag28) ?_; clear hf; intro a hf
  refine sG hf hS (rd_len hf rfl rfl Tryz.underlying28) ?_; clear hf; intro a hf
  refine step_l (st_rdB hf (Wn.some hf rfl rfl rfl rfl) (rd_gtr hf rfl rfl rfl) hS rfl rfl ?_ ?_)
  ·
   clear hf; intro hc2 a hf
   refine pT hf hS ?_; clear hf; intro a hf
   refine done_l (t_normal ?_)
   refine c_true hf rfl ?_
   refine c_seq (c_region ?_)
   refine aN hf hS ?_; clear hf; intro a hf
   refine done_l (t_normal (c_ret (t_ret ?_)))
   refine eT hf ?_
   exact ⟨int_eq (by unfold rEnd; dsimp only; omega), rdx_shut (s := (bs, e)) hS rfl rfl rfl hcap⟩
  clear hf; intro hc2 a hf
  refine pT hf hS ?_; clear hf; intro a hf
  refine done_l (t_normal ?_)
  refine c_false hf rfl ?_
  refine c_skip (t_normal (c_seq (c_region ?_)))
  refine mN hf hS ?_; clear hf; intro a hf
  refine nC hf hS ?_; clear hf; intro a hf
  refine fA hf hS fb68_1 ?_; clear hf; intro a hf
  refine sR hf hS (rd_ld hf ag31) ?_; clear hf; intro a hf
  refine aN hf hS ?_; clear hf; intro a hf
  refine done_l (t_normal (c_ret ?_))
  refine eT hf ?_
  exact ⟨int_eq (by unfold rEnd; dsimp only; omega), rdx_shut (s := (bs, e)) hS rfl rfl rfl hcap⟩
 clear hf; intro hc1 a hf
 iterate 8 ((first | refine kS hf ?_ | refine mN hf hS ?_ | refine pF hf hS ?_); clear hf; intro a hf)
 refine done_l (t_normal ?_)
 refine c_false hf rfl ?_
 refine c_skip (t_normal (c_seq (c_region ?_)))
 refine mN hf hS ?_; clear hf; intro a hf
 refine nC hf hS ?_; clear hf; intro a hf
 refine fA hf hS fb68_1 ?_; clear hf; intro a hf
 refine sR hf hS (rd_ld hf ag31) ?_; clear hf; intro a hf
 refine aN hf hS ?_; clear hf; intro a hf
 refine done_l (t_normal (c_ret ?_))
 refine eT hf ?_
 exact ⟨int_eq (by unfold rEnd; dsimp only; omega), rdx_shut (s := (bs, e)) hS rfl rfl rfl hcap⟩

theorem RVEnd2_c (p : Nat) (q : Option Addr) (n cap : Nat) (e : Int) {W : World} {R : List HP} {w : World} (hS : Sat W (Blk p [.slice q n cap, .int .i64 e] 68 :: R) w)  : Calls Tryz.prog 29 [.pointer (some ⟨p, 0, none⟩)].toArray w (Ret fun v w' => v = .int .i64 (if e = 0 ∧ 0 < n then 3 else e) ∧ Sat W (Blk p [.slice q n cap, .int .i64 e] 68 :: R) w') := by
 refine fn_start 20 Tryz.func29 rfl rfl rfl ?_
 intro a hf
 refine c_seq (c_region ?_)
 refine aN hf hS ?_; clear hf; intro a hf
 refine done_l (t_normal (c_seq (c_seq (c_region ?_))))
 refine mN hf hS ?_; clear hf; intro a hf
 refine nC hf hS ?_; clear hf; intro a hf
 refine fA hf hS fb68_1 ?_; clear hf; intro a hf
 refine sR hf hS (rd_ld hf ag31) ?_; clear hf; intro a hf
 refine sB hf hS (rd_eql hf rfl rfl rfl) ?_ ?_
 ·
  clear hf; intro hc1 a hf
  iterate 2 ((first | refine mN hf hS ?_ | refine step_l (st_rd hf (Wn.some hf rfl rfl rfl rfl) (rd_move hf rfl rfl) hS rfl rfl ?_)); clear hf; intro a hf)
  refine sG hf hS (rd_nilCheck hf rfl rfl) ?_; clear hf; intro a hf
  refine fG hf hS fb68_0 ?_; clear hf; intro a hf
  refine sG hf hS (rd_ld hf ag28) ?_; clear hf; intro a hf
  refine sG hf hS (rd_len hf rfl rfl Tryz.underlying28) ?_; clear hf; intro a hf
  refine step_l (st_rdB hf (Wn.some hf rfl rfl rfl rfl) (rd_gtr hf rfl rfl rfl) hS rfl rfl ?_ ?_)
  ·
   clear hf; intro hc2 a hf
   refine pT hf hS ?_; clear hf; intro a hf
   refine done_l (t_normal ?_)
   refine c_true hf rfl ?_
   refine c_seq (c_region ?_)
   refine aN hf hS ?_; clear hf; intro a hf
   refine done_l (t_normal (c_ret (t_ret ?_)))
   refine eT hf ?_
   exact ⟨int_eq (by omega), hS⟩
  clear hf; intro hc2 a hf
  refine pT hf hS ?_; clear hf; intro a hf
  refine done_l (t_normal ?_)
  refine c_false hf rfl ?_
  refine c_skip (t_normal (c_seq (c_region ?_)))
  refine mN hf hS ?_; clear hf; intro a hf
  refine nC hf hS ?_; clear hf; intro a hf
  refine fA hf hS fb68_1 ?_; clear hf; intro a hf
  refine sR hf hS (rd_ld hf ag31) ?_; clear hf; intro a hf
  refine aN hf hS ?_; clear hf; intro a hf
  refine done_l (t_normal (c_ret ?_))
  refine eT hf ?_
  exact ⟨int_eq (by omega), hS⟩
 clear hf; intro hc1 a hf
 iterate 8 ((first | refine kS hf ?_ | refine mN hf hS ?_ | refine pF hf hS ?_); clear hf; intro a hf)
 refine done_l (t_normal ?_)
 refine c_false hf rfl ?_
 refine c_skip (t_normal (c_seq (c_region ?_)))
 refine mN hf hS ?_; clear hf; intro a hf
 refine nC hf hS ?_; clear hf; intro a hf
 refine fA hf hS fb68_1 ?_; clear hf; intro a hf
 refine sR hf hS (rd_ld hf ag31) ?_; clear hf; intro a hf
 refine aN hf hS ?_; clear hf; intro a hf
 refine done_l (t_normal (c_ret ?_))
 refine eT hf ?_
 exact ⟨int_eq (by omega), hS⟩

theorem RVFlag_c {X : HP} (p : Nat) (s : RS)  {W : World} {R : List HP} {w : World} (hS : Sat W (RdX X 68 p (s) :: R) w)  : Calls Tryz.prog 97 [.pointer (some ⟨p, 0, none⟩)].toArray w (Ret fun v w' => v = .bool (rFlag s).1 ∧ Sat W (RdX X 68 p ((rFlag s).2) :: R) w') := by
 refine fn_start 56 Tryz.func97 rfl rfl rfl ?_
 intro a hf
 obtain ⟨bs, e⟩ := s; obtain ⟨q, cap, hcap, hS⟩ := rdx_open hS; dsimp only at hS hcap
 refine c_seq (c_region ?_)
 refine aN hf hS ?_; clear hf; intro a hf
 refine done_l (t_normal (c_seq (c_seq (c_region ?_))))
 refine mN hf hS ?_; clear hf; intro a hf
 refine nC hf hS ?_; clear hf; intro a hf
 refine fA hf hS fb68_1 ?_; clear hf; intro a hf
 refine sR hf hS (rd_ld hf ag31) ?_; clear hf; intro a hf
 refine sB hf hS (rd_eql hf rfl rfl rfl) ?_ ?_
 ·
  clear hf; intro hc1 a hf
  subst hc1
  first
  | (first | exact absurd hc1 (by assumption) | exact absurd (by assumption) hc1 | exact absurd hc1 (by decide) | exact absurd (by decide) hc1; done)
  | (
   iterate 2 ((first | refine mN hf hS ?_ | refine step_l (st_rd hf (Wn.some hf rfl rfl rfl rfl) (rd_move hf rfl rfl) hS rfl rfl ?_)); clear hf; intro a hf)
   refine sG hf hS (rd_nilCheck hf rfl rfl) ?_; clear hf; intro a hf
   refine fG hf hS fb68_0 ?_; clear hf; intro a hf
   refine sG hf hS (rd_ld hf ag28) ?_; clear hf; intro a hf
   refine sG hf hS (rd_len hf rfl rfl Tryz.underlying28) ?_; clear hf; intro a hf
   refine step_l (st_rdB hf (Wn.some hf rfl rfl rfl rfl) (rd_eql hf rfl rfl rfl) hS rfl rfl ?_ ?_)
   ·
    clear hf; intro hc2 a hf
    obtain rfl : bs = [] := List.eq_nil_of_length_eq_zero (by omega)
    first
    | (first | exact absurd hc2 (by assumption) | exact absurd (by assumption) hc2 | exact absurd hc2 (by decide) | exact absurd (by decide) hc2; done)
    | (
     refine pT hf hS ?_; clear hf; intro a hf
     refine done_l (t_normal ?_)
     refine c_true hf rfl ?_
     refine c_region ?_
     refine mN hf hS ?_; clear hf; intro a hf
     replace hS := rdx_shut (s := ([], 0)) hS rfl rfl rfl hcap
     refine step_l (st_call hf (Wn.none rfl) rfl rfl rfl fn65 (RVfail_c _ _ _ (hS.selA)) rfl rfl ?_)
     clear hf hS; rintro v a w ⟨rfl, hS⟩ hf; rw [if_pos (by first | assumption | rfl)] at hS; obtain ⟨q, cap, hcap, hS⟩ := rdx_open hS; (try dsimp only at hS hcap)
     refine done_l (t_normal (c_seq (c_seq (c_region ?_))))
     refine mN hf hS ?_; clear hf; intro a hf
     refine nC hf hS ?_; clear hf; intro a hf
     refine fA hf hS fb68_1 ?_; clear hf; intro a hf
     refine sR hf hS (rd_ld hf ag31) ?_; clear hf; intro a hf
     refine sB hf hS (rd_eql hf rfl rfl rfl) ?_ ?_
     ·
      clear hf; intro hc3 a hf
      first
      | (first | exact absurd hc3 (by assumption) | exact absurd (by assumption) hc3 | exact absurd hc3 (by decide) | exact absurd (by decide) hc3; done)
      | (
       iterate 2 ((first | refine mN hf hS ?_ | refine step_l (st_rd hf (Wn.some hf rfl rfl rfl rfl) (rd_move hf rfl rfl) hS rfl rfl ?_)); clear hf; intro a hf)
       refine sG hf hS (rd_nilCheck hf rfl rfl) ?_; clear hf; intro a hf
       refine fG hf hS fb68_0 ?_; clear hf; intro a hf
       refine sG hf hS (rd_ld hf ag28) ?_; clear hf; intro a hf
       refine sG hf hS ((by first | exact rd_indexAddrN1 hf rfl rfl rfl Tryz.underlying28 sz5 (by omega) | exact rd_indexAddr hf rfl rfl rfl Tryz.underlying28 sz5 (by first | decide | omega) (by omega))) ?_; clear hf; intro a hf
       refine sG hf hS (rd_load1 hf rfl rfl ag5 (by intro _ h; exact (h.vwx (by repeat (first | exact Sel.head | apply Sel.tail))).get (j := 0) rfl)) ?_; clear hf; intro a hf
       refine step_l (st_rdB hf (Wn.some hf rfl rfl rfl rfl) (rd_gtr hf rfl rfl rfl) hS rfl rfl ?_ ?_)
       ·
        clear hf; intro hc4 a hf
        first
        | (first | exact absurd hc4 (by assumption) | exact absurd (by assumption) hc4 | exact absurd hc4 (by decide) | exact absurd (by decide) hc4; done)
        | (
         refine pT hf hS ?_; clear hf; intro a hf
         refine done_l (t_normal ?_)
         refine c_true hf rfl ?_
         refine c_region ?_
         refine mN hf hS ?_; clear hf; intro a hf
         replace hS := rdx_shut (s := (x :: r, 0)) hS rfl rfl rfl hcap
         refine step_l (st_call hf (Wn.none rfl) rfl rfl rfl fn65 (RVfail_c _ _ _ (hS.selA)) rfl rfl ?_)
         clear hf hS; rintro v a w ⟨rfl, hS⟩ hf; rw [if_pos (by first | assumption | rfl)] at hS; obtain ⟨q, cap, hcap, hS⟩ := rdx_open hS; (try dsimp only at hS hcap)
         refine done_l (t_normal (c_seq (c_seq (c_region ?_))))
         refine mN hf hS ?_; clear hf; intro a hf
         refine nC hf hS ?_; clear hf; intro a hf
         refine fA hf hS fb68_1 ?_; clear hf; intro a hf
         refine sR hf hS (rd_ld hf ag31) ?_; clear hf; intro a hf
         refine sB hf hS (rd_neq hf rfl rfl rfl) ?_ ?_
         ·
          clear hf; intro hc5 a hf
          first
          | (first | exact absurd hc5 (by assumption) | exact absurd (by assumption) hc5 | exact absurd hc5 (by decide) | exact absurd (by decide) hc5; done)
          | (
           refine done_l (t_normal ?_)
           refine c_true hf rfl ?_
           refine c_seq (c_region ?_)
           refine aN hf hS ?_; clear hf; intro a hf
           refine done_l (t_normal (c_ret (t_ret ?_)))
           refine eT hf ?_
           first | (rw [show rFlag (bs, e) = (false, (bs, e)) from if_pos (by assumption)]; exact ⟨rfl, rdx_shut (s := (bs, e)) hS rfl rfl rfl hcap⟩) | exact ⟨rfl, rdx_shut (s := ([], 2)) hS rfl rfl rfl hcap⟩ | (rw [rFlag_cons, if_pos (by omega)]; exact ⟨rfl, rdx_shut (s := ([], 3)) hS rfl rfl rfl hcap⟩) | (rw [rFlag_cons, if_neg (by omega)]; exact ⟨congrArg Value.bool (decide_eq_decide.2 (by omega)), rdx_shutDrop (bs := x :: r) hS rfl (by omega) hcap rfl⟩)
           )
         clear hf; intro hc5 a hf
         first
         | (first | exact absurd hc5 (by assumption) | exact absurd (by assumption) hc5 | exact absurd hc5 (by decide) | exact absurd (by decide) hc5; done)
         | (
          refine done_l (t_normal ?_)
          refine c_false hf rfl ?_
          refine c_skip (t_normal (c_seq (c_region ?_)))
          refine mN hf hS ?_; clear hf; intro a hf
          refine nC hf hS ?_; clear hf; intro a hf
          refine fA hf hS fb68_0 ?_; clear hf; intro a hf
          refine sR hf hS (rd_ld hf ag28) ?_; clear hf; intro a hf
          refine sR hf hS ((by first | exact rd_indexAddrN1 hf rfl rfl rfl Tryz.underlying28 sz5 (by omega) | exact rd_indexAddr hf rfl rfl rfl Tryz.underlying28 sz5 (by first | decide | omega) (by omega))) ?_; clear hf; intro a hf
          refine sR hf hS (rd_load1 hf rfl rfl ag5 (by intro _ h; exact (h.vwx (by repeat (first | exact Sel.head | apply Sel.tail))).get (j := 0) rfl)) ?_; clear hf; intro a hf
          refine sR hf hS (rd_eql hf rfl rfl rfl) ?_; clear hf; intro a hf
          refine aN hf hS ?_; clear hf; intro a hf
          refine done_l (t_normal (c_seq (c_region ?_)))
          iterate 2 (refine mN hf hS ?_; clear hf; intro a hf)
          refine nC hf hS ?_; clear hf; intro a hf
          refine fA hf hS fb68_0 ?_; clear hf; intro a hf
          refine sR hf hS (rd_ld hf ag28) ?_; clear hf; intro a hf
          refine sR hf hS (rd_sliceL hf rfl rfl rfl Tryz.underlying28 sz5 (by omega) (by omega)) ?_; clear hf; intro a hf
          refine nC hf hS ?_; clear hf; intro a hf
          refine fA hf hS fb68_0 ?_; clear hf; intro a hf
          refine sS hf hS sz28 ?_
          clear hf hS; intro a w hf hS
          refine done_l (t_normal (c_seq (c_region ?_)))
          iterate 2 ((first | refine mN hf hS ?_ | refine aN hf hS ?_); clear hf; intro a hf)
          refine done_l (t_normal (c_ret ?_))
          refine eT hf ?_
          first | (rw [show rFlag (bs, e) = (false, (bs, e)) from if_pos (by assumption)]; exact ⟨rfl, rdx_shut (s := (bs, e)) hS rfl rfl rfl hcap⟩) | exact ⟨rfl, rdx_shut (s := ([], 2)) hS rfl rfl rfl hcap⟩ | (rw [rFlag_cons, if_pos (by omega)]; exact ⟨rfl, rdx_shut (s := ([], 3)) hS rfl rfl rfl hcap⟩) | (rw [rFlag_cons, if_neg (by omega)]; exact ⟨congrArg Value.bool (decide_eq_decide.2 (by omega)), rdx_shutDrop (bs := x :: r) hS rfl (by omega) hcap rfl⟩)
          )
         )
       clear hf; intro hc4 a hf
       first
       | (first | exact absurd hc4 (by assumption) | exact absurd (by assumption) hc4 | exact absurd hc4 (by decide) | exact absurd (by decide) hc4; done)
       | (
        refine pT hf hS ?_; clear hf; intro a hf
        refine done_l (t_normal ?_)
        refine c_false hf rfl ?_
        refine c_skip (t_normal (c_seq (c_seq (c_region ?_))))
        refine mN hf hS ?_; clear hf; intro a hf
        refine nC hf hS ?_; clear hf; intro a hf
        refine fA hf hS fb68_1 ?_; clear hf; intro a hf
        refine sR hf hS (rd_ld hf ag31) ?_; clear hf; intro a hf
        refine sB hf hS (rd_neq hf rfl rfl rfl) ?_ ?_
        ·
         clear hf; intro hc6 a hf
         first
         | (first | exact absurd hc6 (by assumption) | exact absurd (by assumption) hc6 | exact absurd hc6 (by decide) | exact absurd (by decide) hc6; done)
         | (
          refine done_l (t_normal ?_)
          refine c_true hf rfl ?_
          refine c_seq (c_region ?_)
          refine aN hf hS ?_; clear hf; intro a hf
          refine done_l (t_normal (c_ret (t_ret ?_)))
          refine eT hf ?_
          first | (rw [show rFlag (bs, e) = (false, (bs, e)) from if_pos (by assumption)]; exact ⟨rfl, rdx_shut (s := (bs, e)) hS rfl rfl rfl hcap⟩) | exact ⟨rfl, rdx_shut (s := ([], 2)) hS rfl rfl rfl hcap⟩ | (rw [rFlag_cons, if_pos (by omega)]; exact ⟨rfl, rdx_shut (s := ([], 3)) hS rfl rfl rfl hcap⟩) | (rw [rFlag_cons, if_neg (by omega)]; exact ⟨congrArg Value.bool (decide_eq_decide.2 (by omega)), rdx_shutDrop (bs := x :: r) hS rfl (by omega) hcap rfl⟩)
          )
        clear hf; intro hc6 a hf
        first
        | (first | exact absurd hc6 (by assumption) | exact absurd (by assumption) hc6 | exact absurd hc6 (by decide) | exact absurd (by decide) hc6; done)
        | (
         refine done_l (t_normal ?_)
         refine c_false hf rfl ?_
         refine c_skip (t_normal (c_seq (c_region ?_)))
         refine mN hf hS ?_; clear hf; intro a hf
         refine nC hf hS ?_; clear hf; intro a hf
         refine fA hf hS fb68_0 ?_; clear hf; intro a hf
         refine sR hf hS (rd_ld hf ag28) ?_; clear hf; intro a hf
         refine sR hf hS ((by first | exact rd_indexAddrN1 hf rfl rfl rfl Tryz.underlying28 sz5 (by omega) | exact rd_indexAddr hf rfl rfl rfl Tryz.underlying28 sz5 (by first | decide | omega) (by omega))) ?_; clear hf; intro a hf
         refine sR hf hS (rd_load1 hf rfl rfl ag5 (by intro _ h; exact (h.vwx (by repeat (first | exact Sel.head | apply Sel.tail))).get (j := 0) rfl)) ?_; clear hf; intro a hf
         refine sR hf hS (rd_eql hf rfl rfl rfl) ?_; clear hf; intro a hf
         refine aN hf hS ?_; clear hf; intro a hf
         refine done_l (t_normal (c_seq (c_region ?_)))
         iterate 2 (refine mN hf hS ?_; clear hf; intro a hf)
         refine nC hf hS ?_; clear hf; intro a hf
         refine fA hf hS fb68_0 ?_; clear hf; intro a hf
         refine sR hf hS (rd_ld hf ag28) ?_; clear hf; intro a hf
         refine sR hf hS (rd_sliceL hf rfl rfl rfl Tryz.underlying28 sz5 (by omega) (by omega)) ?_; clear hf; intro a hf
         refine nC hf hS ?_; clear hf; intro a hf
         refine fA hf hS fb68_0 ?_; clear hf; intro a hf
         refine sS hf hS sz28 ?_
         clear hf hS; intro a w hf hS
         refine done_l (t_normal (c_seq (c_region ?_)))
         iterate 2 ((first | refine mN hf hS ?_ | refine aN hf hS ?_); clear hf; intro a hf)
         refine done_l (t_normal (c_ret ?_))
         refine eT hf ?_
         first | (rw [show rFlag (bs, e) = (false, (bs, e)) from if_pos (by assumption)]; exact ⟨rfl, rdx_shut (s := (bs, e)) hS rfl rfl rfl hcap⟩) | exact ⟨rfl, rdx_shut (s := ([], 2)) hS rfl rfl rfl hcap⟩ | (rw [rFlag_cons, if_pos (by omega)]; exact ⟨rfl, rdx_shut (s := ([], 3)) hS rfl rfl rfl hcap⟩) | (rw [rFlag_cons, if_neg (by omega)]; exact ⟨congrArg Value.bool (decide_eq_decide.2 (by omega)), rdx_shutDrop (bs := x :: r) hS rfl (by omega) hcap rfl⟩)
         )
        )
       )
     clear hf; intro hc3 a hf
     first
     | (first | exact absurd hc3 (by assumption) | exact absurd (by assumption) hc3 | exact absurd hc3 (by decide) | exact absurd (by decide) hc3; done)
     | (
      iterate 9 ((first | refine kS hf ?_ | refine mN hf hS ?_ | refine pF hf hS ?_); clear hf; intro a hf)
      refine done_l (t_normal ?_)
      refine c_false hf rfl ?_
      refine c_skip (t_normal (c_seq (c_seq (c_region ?_))))
      refine mN hf hS ?_; clear hf; intro a hf
      refine nC hf hS ?_; clear hf; intro a hf
      refine fA hf hS fb68_1 ?_; clear hf; intro a hf
      refine sR hf hS (rd_ld hf ag31) ?_; clear hf; intro a hf
      refine sB hf hS (rd_neq hf rfl rfl rfl) ?_ ?_
      ·
       clear hf; intro hc7 a hf
       first
       | (first | exact absurd hc7 (by assumption) | exact absurd (by assumption) hc7 | exact absurd hc7 (by decide) | exact absurd (by decide) hc7; done)
       | (
        refine done_l (t_normal ?_)
        refine c_true hf rfl ?_
        refine c_seq (c_region ?_)
        refine aN hf hS ?_; clear hf; intro a hf
        refine done_l (t_normal (c_ret (t_ret ?_)))
        refine eT hf ?_
        first | (rw [show rFlag (bs, e) = (false, (bs, e)) from if_pos (by assumption)]; exact ⟨rfl, rdx_shut (s := (bs, e)) hS rfl rfl rfl hcap⟩) | exact ⟨rfl, rdx_shut (s := ([], 2)) hS rfl rfl rfl hcap⟩ | (rw [rFlag_cons, if_pos (by omega)]; exact ⟨rfl, rdx_shut (s := ([], 3)) hS rfl rfl rfl hcap⟩) | (rw [rFlag_cons, if_neg (by omega)]; exact ⟨congrArg Value.bool (decide_eq_decide.2 (by omega)), rdx_shutDrop (bs := x :: r) hS rfl (by omega) hcap rfl⟩)
        )
      clear hf; intro hc7 a hf
      first
      | (first | exact absurd hc7 (by assumption) | exact absurd (by assumption) hc7 | exact absurd hc7 (by decide) | exact absurd (by decide) hc7; done)
      | (
       refine done_l (t_normal ?_)
       refine c_false hf rfl ?_
       refine c_skip (t_normal (c_seq (c_region ?_)))
       refine mN hf hS ?_; clear hf; intro a hf
       refine nC hf hS ?_; clear hf; intro a hf
       refine fA hf hS fb68_0 ?_; clear hf; intro a hf
       refine sR hf hS (rd_ld hf ag28) ?_; clear hf; intro a hf
       refine sR hf hS ((by first | exact rd_indexAddrN1 hf rfl rfl rfl Tryz.underlying28 sz5 (by omega) | exact rd_indexAddr hf rfl rfl rfl Tryz.underlying28 sz5 (by first | decide | omega) (by omega))) ?_; clear hf; intro a hf
       refine sR hf hS (rd_load1 hf rfl rfl ag5 (by intro _ h; exact (h.vwx (by repeat (first | exact Sel.head | apply Sel.tail))).get (j := 0) rfl)) ?_; clear hf; intro a hf
       refine sR hf hS (rd_eql hf rfl rfl rfl) ?_; clear hf; intro a hf
       refine aN hf hS ?_; clear hf; intro a hf
       refine done_l (t_normal (c_seq (c_region ?_)))
       iterate 2 (refine mN hf hS ?_; clear hf; intro a hf)
       refine nC hf hS ?_; clear hf; intro a hf
       refine fA hf hS fb68_0 ?_; clear hf; intro a hf
       refine sR hf hS (rd_ld hf ag28) ?_; clear hf; intro a hf
       refine sR hf hS (rd_sliceL hf rfl rfl rfl Tryz.underlying28 sz5 (by omega) (by omega)) ?_; clear hf; intro a hf
       refine nC hf hS ?_; clear hf; intro a hf
       refine fA hf hS fb68_0 ?_; clear hf; intro a hf
       refine sS hf hS sz28 ?_
       clear hf hS; intro a w hf hS
       refine done_l (t_normal (c_seq (c_region ?_)))
       iterate 2 ((first | refine mN hf hS ?_ | refine aN hf hS ?_); clear hf; intro a hf)
       refine done_l (t_normal (c_ret ?_))
       refine eT hf ?_
       first | (rw [show rFlag (bs, e) = (false, (bs, e)) from if_pos (by assumption)]; exact ⟨rfl, rdx_shut (s := (bs, e)) hS rfl rfl rfl hcap⟩) | exact ⟨rfl, rdx_shut (s := ([], 2)) hS rfl rfl rfl hcap⟩ | (rw [rFlag_cons, if_pos (by omega)]; exact ⟨rfl, rdx_shut (s := ([], 3)) hS rfl rfl rfl hcap⟩) | (rw [rFlag_cons, if_neg (by omega)]; exact ⟨congrArg Value.bool (decide_eq_decide.2 (by omega)), rdx_shutDrop (bs := x :: r) hS rfl (by omega) hcap rfl⟩)
       )
      )
     )
   clear hf; intro hc2 a hf
   obtain ⟨x, r, rfl⟩ := List.exists_cons_of_ne_nil (l := bs) (by rintro rfl; exact hc2 rfl); have hxl : (x :: r).length = r.length + 1 := rfl; obtain ⟨ad, rfl⟩ := (hS.vwx (.tail .head)).some (by omega)
   first
   | (first | exact absurd hc2 (by assumption) | exact absurd (by assumption) hc2 | exact absurd hc2 (by decide) | exact absurd (by decide) hc2; done)
   | (
    refine pT hf hS ?_; clear hf; intro a hf
    refine done_l (t_normal ?_)
    refine c_false hf rfl ?_
    refine c_skip (t_normal (c_seq (c_seq (c_region ?_))))
    refine mN hf hS ?_; clear hf; intro a hf
    refine nC hf hS ?_; clear hf; intro a hf
    refine fA hf hS fb68_1 ?_; clear hf; intro a hf
    refine sR hf hS (rd_ld hf ag31) ?_; clear hf; intro a hf
    refine sB hf hS (rd_eql hf rfl rfl rfl) ?_ ?_
    ·
     clear hf; intro hc8 a hf
     first
     | (first | exact absurd hc8 (by assumption) | exact absurd (by assumption) hc8 | exact absurd hc8 (by decide) | exact absurd (by decide) hc8; done)
     | (
      iterate 2 ((first | refine mN hf hS ?_ | refine step_l (st_rd hf (Wn.some hf rfl rfl rfl rfl) (rd_move hf rfl rfl) hS rfl rfl ?_)); clear hf; intro a hf)
      refine sG hf hS (rd_nilCheck hf rfl rfl) ?_; clear hf; intro a hf
      refine fG hf hS fb68_0 ?_; clear hf; intro a hf
      refine sG hf hS (rd_ld hf ag28) ?_; clear hf; intro a hf
      refine sG hf hS ((by first | exact rd_indexAddrN1 hf rfl rfl rfl Tryz.underlying28 sz5 (by omega) | exact rd_indexAddr hf rfl rfl rfl Tryz.underlying28 sz5 (by first | decide | omega) (by omega))) ?_; clear hf; intro a hf
      refine sG hf hS (rd_load1 hf rfl rfl ag5 (by intro _ h; exact (h.vwx (by repeat (first | exact Sel.head | apply Sel.tail))).get (j := 0) rfl)) ?_; clear hf; intro a hf
      refine step_l (st_rdB hf (Wn.some hf rfl rfl rfl rfl) (rd_gtr hf rfl rfl rfl) hS rfl rfl ?_ ?_)
      ·
       clear hf; intro hc9 a hf
       first
       | (first | exact absurd hc9 (by assumption) | exact absurd (by assumption) hc9 | exact absurd hc9 (by decide) | exact absurd (by decide) hc9; done)
       | (
        refine pT hf hS ?_; clear hf; intro a hf
        refine done_l (t_normal ?_)
        refine c_true hf rfl ?_
        refine c_region ?_
        refine mN hf hS ?_; clear hf; intro a hf
        replace hS := rdx_shut (s := (x :: r, 0)) hS rfl rfl rfl hcap
        refine step_l (st_call hf (Wn.none rfl) rfl rfl rfl fn65 (RVfail_c _ _ _ (hS.selA)) rfl rfl ?_)
        clear hf hS; rintro v a w ⟨rfl, hS⟩ hf; rw [if_pos (by first | assumption | rfl)] at hS; obtain ⟨q, cap, hcap, hS⟩ := rdx_open hS; (try dsimp only at hS hcap)
        refine done_l (t_normal (c_seq (c_seq (c_region ?_))))
        refine mN hf hS ?_; clear hf; intro a hf
        refine nC hf hS ?_; clear hf; intro a hf
        refine fA hf hS fb68_1 ?_; clear hf; intro a hf
        refine sR hf hS (rd_ld hf ag31) ?_; clear hf; intro a hf
        refine sB hf hS (rd_neq hf rfl rfl rfl) ?_ ?_
        ·
         clear hf; intro hc10 a hf
         first
         | (first | exact absurd hc10 (by assumption) | exact absurd (by assumption) hc10 | exact absurd hc10 (by decide) | exact absurd (by decide) hc10; done)
         | (
          refine done_l (t_normal ?_)
          refine c_true hf rfl ?_
          refine c_seq (c_region ?_)
          refine aN hf hS ?_; clear hf; intro a hf
          refine done_l (t_normal (c_ret (t_ret ?_)))
          refine eT hf ?_
          first | (rw [show rFlag (bs, e) = (false, (bs, e)) from if_pos (by assumption)]; exact ⟨rfl, rdx_shut (s := (bs, e)) hS rfl rfl rfl hcap⟩) | exact ⟨rfl, rdx_shut (s := ([], 2)) hS rfl rfl rfl hcap⟩ | (rw [rFlag_cons, if_pos (by omega)]; exact ⟨rfl, rdx_shut (s := ([], 3)) hS rfl rfl rfl hcap⟩) | (rw [rFlag_cons, if_neg (by omega)]; exact ⟨congrArg Value.bool (decide_eq_decide.2 (by omega)), rdx_shutDrop (bs := x :: r) hS rfl (by omega) hcap rfl⟩)
          )
        clear hf; intro hc10 a hf
        first
        | (first | exact absurd hc10 (by assumption) | exact absurd (by assumption) hc10 | exact absurd hc10 (by decide) | exact absurd (by decide) hc10; done)
        | (
         refine done_l (t_normal ?_)
         refine c_false hf rfl ?_
         refine c_skip (t_normal (c_seq (c_region ?_)))
         refine mN hf hS ?_; clear hf; intro a hf
         refine nC hf hS ?_; clear hf; intro a hf
         refine fA hf hS fb68_0 ?_; clear hf; intro a hf
         refine sR hf hS (rd_ld hf ag28) ?_; clear hf; intro a hf
         refine sR hf hS ((by first | exact rd_indexAddrN1 hf rfl rfl rfl Tryz.underlying28 sz5 (by omega) | exact rd_indexAddr hf rfl rfl rfl Tryz.underlying28 sz5 (by first | decide | omega) (by omega))) ?_; clear hf; intro a hf
         refine sR hf hS (rd_load1 hf rfl rfl ag5 (by intro _ h; exact (h.vwx (by repeat (first | exact Sel.head | apply Sel.tail))).get (j := 0) rfl)) ?_; clear hf; intro a hf
         refine sR hf hS (rd_eql hf rfl rfl rfl) ?_; clear hf; intro a hf
         refine aN hf hS ?_; clear hf; intro a hf
         refine done_l (t_normal (c_seq (c_region ?_)))
         iterate 2 (refine mN hf hS ?_; clear hf; intro a hf)
         refine nC hf hS ?_; clear hf; intro a hf
         refine fA hf hS fb68_0 ?_; clear hf; intro a hf
         refine sR hf hS (rd_ld hf ag28) ?_; clear hf; intro a hf
         refine sR hf hS (rd_sliceL hf rfl rfl rfl Tryz.underlying28 sz5 (by omega) (by omega)) ?_; clear hf; intro a hf
         refine nC hf hS ?_; clear hf; intro a hf
         refine fA hf hS fb68_0 ?_; clear hf; intro a hf
         refine sS hf hS sz28 ?_
         clear hf hS; intro a w hf hS
         refine done_l (t_normal (c_seq (c_region ?_)))
         iterate 2 ((first | refine mN hf hS ?_ | refine aN hf hS ?_); clear hf; intro a hf)
         refine done_l (t_normal (c_ret ?_))
         refine eT hf ?_
         first | (rw [show rFlag (bs, e) = (false, (bs, e)) from if_pos (by assumption)]; exact ⟨rfl, rdx_shut (s := (bs, e)) hS rfl rfl rfl hcap⟩) | exact ⟨rfl, rdx_shut (s := ([], 2)) hS rfl rfl rfl hcap⟩ | (rw [rFlag_cons, if_pos (by omega)]; exact ⟨rfl, rdx_shut (s := ([], 3)) hS rfl rfl rfl hcap⟩) | (rw [rFlag_cons, if_neg (by omega)]; exact ⟨congrArg Value.bool (decide_eq_decide.2 (by omega)), rdx_shutDrop (bs := x :: r) hS rfl (by omega) hcap rfl⟩)
         )
        )
      clear hf; intro hc9 a hf
      first
      | (first | exact absurd hc9 (by assumption) | exact absurd (by assumption) hc9 | exact absurd hc9 (by decide) | exact absurd (by decide) hc9; done)
      | (
       refine pT hf hS ?_; clear hf; intro a hf
       refine done_l (t_normal ?_)
       refine c_false hf rfl ?_
       refine c_skip (t_normal (c_seq (c_seq (c_region ?_))))
       refine mN hf hS ?_; clear hf; intro a hf
       refine nC hf hS ?_; clear hf; intro a hf
       refine fA hf hS fb68_1 ?_; clear hf; intro a hf
       refine sR hf hS (rd_ld hf ag31) ?_; clear hf; intro a hf
       refine sB hf hS (rd_neq hf rfl rfl rfl) ?_ ?_
       ·
        clear hf; intro hc11 a hf
        first
        | (first | exact absurd hc11 (by assumption) | exact absurd (by assumption) hc11 | exact absurd hc11 (by decide) | exact absurd (by decide) hc11; done)
        | (
         refine done_l (t_normal ?_)
         refine c_true hf rfl ?_
         refine c_seq (c_region ?_)
         refine aN hf hS ?_; clear hf; intro a hf
         refine done_l (t_normal (c_ret (t_ret ?_)))
         refine eT hf ?_
         first | (rw [show rFlag (bs, e) = (false, (bs, e)) from if_pos (by assumption)]; exact ⟨rfl, rdx_shut (s := (bs, e)) hS rfl rfl rfl hcap⟩) | exact ⟨rfl, rdx_shut (s := ([], 2)) hS rfl rfl rfl hcap⟩ | (rw [rFlag_cons, if_pos (by omega)]; exact ⟨rfl, rdx_shut (s := ([], 3)) hS rfl rfl rfl hcap⟩) | (rw [rFlag_cons, if_neg (by omega)]; exact ⟨congrArg Value.bool (decide_eq_decide.2 (by omega)), rdx_shutDrop (bs := x :: r) hS rfl (by omega) hcap rfl⟩)
         )
       clear hf; intro hc11 a hf
       first
       | (first | exact absurd hc11 (by assumption) | exact absurd (by assumption) hc11 | exact absurd hc11 (by decide) | exact absurd (by decide) hc11; done)
       | (
        refine done_l (t_normal ?_)
        refine c_false hf rfl ?_
        refine c_skip (t_normal (c_seq (c_region ?_)))
        refine mN hf hS ?_; clear hf; intro a hf
        refine nC hf hS ?_; clear hf; intro a hf
        refine fA hf hS fb68_0 ?_; clear hf; intro a hf
        refine sR hf hS (rd_ld hf ag28) ?_; clear hf; intro a hf
        refine sR hf hS ((by first | exact rd_indexAddrN1 hf rfl rfl rfl Tryz.underlying28 sz5 (by omega) | exact rd_indexAddr hf rfl rfl rfl Tryz.underlying28 sz5 (by first | decide | omega) (by omega))) ?_; clear hf; intro a hf
        refine sR hf hS (rd_load1 hf rfl rfl ag5 (by intro _ h; exact (h.vwx (by repeat (first | exact Sel.head | apply Sel.tail))).get (j := 0) rfl)) ?_; clear hf; intro a hf
        refine sR hf hS (rd_eql hf rfl rfl rfl) ?_; clear hf; intro a hf
        refine aN hf hS ?_; clear hf; intro a hf
        refine done_l (t_normal (c_seq (c_region ?_)))
        iterate 2 (refine mN hf hS ?_; clear hf; intro a hf)
        refine nC hf hS ?_; clear hf; intro a hf
        refine fA hf hS fb68_0 ?_; clear hf; intro a hf
        refine sR hf hS (rd_ld hf ag28) ?_; clear hf; intro a hf
        refine sR hf hS (rd_sliceL hf rfl rfl rfl Tryz.underlying28 sz5 (by omega) (by omega)) ?_; clear hf; intro a hf
        refine nC hf hS ?_; clear hf; intro a hf
        refine fA hf hS fb68_0 ?_; clear hf; intro a hf
        refine sS hf hS sz28 ?_
        clear hf hS; intro a w hf hS
        refine done_l (t_normal (c_seq (c_region ?_)))
        iterate 2 ((first | refine mN hf hS ?_ | refine aN hf hS ?_); clear hf; intro a hf)
        refine done_l (t_normal (c_ret ?_))
        refine eT hf ?_
        first | (rw [show rFlag (bs, e) = (false, (bs, e)) from if_pos (by assumption)]; exact ⟨rfl, rdx_shut (s := (bs, e)) hS rfl rfl rfl hcap⟩) | exact ⟨rfl, rdx_shut (s := ([], 2)) hS rfl rfl rfl hcap⟩ | (rw [rFlag_cons, if_pos (by omega)]; exact ⟨rfl, rdx_shut (s := ([], 3)) hS rfl rfl rfl hcap⟩) | (rw [rFlag_cons, if_neg (by omega)]; exact ⟨congrArg Value.bool (decide_eq_decide.2 (by omega)), rdx_shutDrop (bs := x :: r) hS rfl (by omega) hcap rfl⟩)
        )
       )
      )
    clear hf; intro hc8 a hf
    first
    | (first | exact absurd hc8 (by assumption) | exact absurd (by assumption) hc8 | exact absurd hc8 (by decide) | exact absurd (by decide) hc8; done)
    | (
     iterate 9 ((first | refine kS hf ?_ | refine mN hf hS ?_ | refine pF hf hS ?_); clear hf; intro a hf)
     refine done_l (t_normal ?_)
     refine c_false hf rfl ?_
     refine c_skip (t_normal (c_seq (c_seq (c_region ?_))))
     refine mN hf hS ?_; clear hf; intro a hf
     refine nC hf hS ?_; clear hf; intro a hf
     refine fA hf hS fb68_1 ?_; clear hf; intro a hf
     refine sR hf hS (rd_ld hf ag31) ?_; clear hf; intro a hf
     refine sB hf hS (rd_neq hf rfl rfl rfl) ?_ ?_
     ·
      clear hf; intro hc12 a hf
      first
      | (first | exact absurd hc12 (by assumption) | exact absurd (by assumption) hc12 | exact absurd hc12 (by decide) | exact absurd (by decide) hc12; done)
      | (
       refine done_l (t_normal ?_)
       refine c_true hf rfl ?_
       refine c_seq (c_region ?_)
       refine aN hf hS ?_; clear hf; intro a hf
       refine done_l (t_normal (c_ret (t_ret ?_)))
       refine eT hf ?_
       first | (rw [show rFlag (bs, e) = (false, (bs, e)) from if_pos (by assumption)]; exact ⟨rfl, rdx_shut (s := (bs, e)) hS rfl rfl rfl hcap⟩) | exact ⟨rfl, rdx_shut (s := ([], 2)) hS rfl rfl rfl hcap⟩ | (rw [rFlag_cons, if_pos (by omega)]; exact ⟨rfl, rdx_shut (s := ([], 3)) hS rfl rfl rfl hcap⟩) | (rw [rFlag_cons, if_neg (by omega)]; exact ⟨congrArg Value.bool (decide_eq_decide.2 (by omega)), rdx_shutDrop (bs := x :: r) hS rfl (by omega) hcap rfl⟩)
       )
     clear hf; intro hc12 a hf
     first
     | (first | exact absurd hc12 (by assumption) | exact absurd (by assumption) hc12 | exact absurd hc12 (by decide) | exact absurd (by decide) hc12; done)
     | (
      refine done_l (t_normal ?_)
      refine c_false hf rfl ?_
      refine c_skip (t_normal (c_seq (c_region ?_)))
      refine mN hf hS ?_; clear hf; intro a hf
      refine nC hf hS ?_; clear hf; intro a hf
      refine fA hf hS fb68_0 ?_; clear hf; intro a hf
      refine sR hf hS (rd_ld hf ag28) ?_; clear hf; intro a hf
      refine sR hf hS ((by first | exact rd_indexAddrN1 hf rfl rfl rfl Tryz.underlying28 sz5 (by omega) | exact rd_indexAddr hf rfl rfl rfl Tryz.underlying28 sz5 (by first | decide | omega) (by omega))) ?_; clear hf; intro a hf
      refine sR hf hS (rd_load1 hf rfl rfl ag5 (by intro _ h; exact (h.vwx (by repeat (first | exact Sel.head | apply Sel.tail))).get (j := 0) rfl)) ?_; clear hf; intro a hf
      refine sR hf hS (rd_eql hf rfl rfl rfl) ?_; clear hf; intro a hf
      refine aN hf hS ?_; clear hf; intro a hf
      refine done_l (t_normal (c_seq (c_region ?_)))
      iterate 2 (refine mN hf hS ?_; clear hf; intro a hf)
      refine nC hf hS ?_; clear hf; intro a hf
      refine fA hf hS fb68_0 ?_; clear hf; intro a hf
      refine sR hf hS (rd_ld hf ag28) ?_; clear hf; intro a hf
      refine sR hf hS (rd_sliceL hf rfl rfl rfl Tryz.underlying28 sz5 (by omega) (by omega)) ?_; clear hf; intro a hf
      refine nC hf hS ?_; clear hf; intro a hf
      refine fA hf hS fb68_0 ?_; clear hf; intro a hf
      refine sS hf hS sz28 ?_
      clear hf hS; intro a w hf hS
      refine done_l (t_normal (c_seq (c_region ?_)))
      iterate 2 ((first | refine mN hf hS ?_ | refine aN hf hS ?_); clear hf; intro a hf)
      refine done_l (t_normal (c_ret ?_))
      refine eT hf ?_
      first | (rw [show rFlag (bs, e) = (false, (bs, e)) from if_pos (by assumption)]; exact ⟨rfl, rdx_shut (s := (bs, e)) hS rfl rfl rfl hcap⟩) | exact ⟨rfl, rdx_shut (s := ([], 2)) hS rfl rfl rfl hcap⟩ | (rw [rFlag_cons, if_pos (by omega)]; exact ⟨rfl, rdx_shut (s := ([], 3)) hS rfl rfl rfl hcap⟩) | (rw [rFlag_cons, if_neg (by omega)]; exact ⟨congrArg Value.bool (decide_eq_decide.2 (by omega)), rdx_shutDrop (bs := x :: r) hS rfl (by omega) hcap rfl⟩)
      )
     )
    )
   )
 clear hf; intro hc1 a hf
 first
 | (first | exact absurd hc1 (by assumption) | exact absurd (by assumption) hc1 | exact absurd hc1 (by decide) | exact absurd (by decide) hc1; done)
 | (
  iterate 8 ((first | refine kS hf ?_ | refine mN hf hS ?_ | refine pF hf hS ?_); clear hf; intro a hf)
  refine done_l (t_normal ?_)
  refine c_false hf rfl ?_
  refine c_skip (t_normal (c_seq (c_seq (c_region ?_))))
  refine mN hf hS ?_; clear hf; intro a hf
  refine nC hf hS ?_; clear hf; intro a hf
  refine fA hf hS fb68_1 ?_; clear hf; intro a hf
  refine sR hf hS (rd_ld hf ag31) ?_; clear hf; intro a hf
  refine sB hf hS (rd_eql hf rfl rfl rfl) ?_ ?_
  ·
   clear hf; intro hc13 a hf
   first
   | (first | exact absurd hc13 (by assumption) | exact absurd (by assumption) hc13 | exact absurd hc13 (by decide) | exact absurd (by decide) hc13; done)
   | (
    iterate 2 ((first | refine mN hf hS ?_ | refine step_l (st_rd hf (Wn.some hf rfl rfl rfl rfl) (rd_move hf rfl rfl) hS rfl rfl ?_)); clear hf; intro a hf)
    refine sG hf hS (rd_nilCheck hf rfl rfl) ?_; clear hf; intro a hf
    refine fG hf hS fb68_0 ?_; clear hf; intro a hf
    refine sG hf hS (rd_ld hf ag28) ?_; clear hf; intro a hf
    refine sG hf hS ((by first | exact rd_indexAddrN1 hf rfl rfl rfl Tryz.underlying28 sz5 (by omega) | exact rd_indexAddr hf rfl rfl rfl Tryz.underlying28 sz5 (by first | decide | omega) (by omega))) ?_; clear hf; intro a hf
    refine sG hf hS (rd_load1 hf rfl rfl ag5 (by intro _ h; exact (h.vwx (by repeat (first | exact Sel.head | apply Sel.tail))).get (j := 0) rfl)) ?_; clear hf; intro a hf
    refine step_l (st_rdB hf (Wn.some hf rfl rfl rfl rfl) (rd_gtr hf rfl rfl rfl) hS rfl rfl ?_ ?_)
    ·
     clear hf; intro hc14 a hf
     first
     | (first | exact absurd hc14 (by assumption) | exact absurd (by assumption) hc14 | exact absurd hc14 (by decide) | exact absurd (by decide) hc14; done)
     | (
      refine pT hf hS ?_; clear hf; intro a hf
      refine done_l (t_normal ?_)
      refine c_true hf rfl ?_
      refine c_region ?_
      refine mN hf hS ?_; clear hf; intro a hf
      replace hS := rdx_shut (s := (x :: r, 0)) hS rfl rfl rfl hcap
      refine step_l (st_call hf (Wn.none rfl) rfl rfl rfl fn65 (RVfail_c _ _ _ (hS.selA)) rfl rfl ?_)
      clear hf hS; rintro v a w ⟨rfl, hS⟩ hf; rw [if_pos (by first | assumption | rfl)] at hS; obtain ⟨q, cap, hcap, hS⟩ := rdx_open hS; (try dsimp only at hS hcap)
      refine done_l (t_normal (c_seq (c_seq (c_region ?_))))
      refine mN hf hS ?_; clear hf; intro a hf
      refine nC hf hS ?_; clear hf; intro a hf
      refine fA hf hS fb68_1 ?_; clear hf; intro a hf
      refine sR hf hS (rd_ld hf ag31) ?_; clear hf; intro a hf
      refine sB hf hS (rd_neq hf rfl rfl rfl) ?_ ?_
      ·
       clear hf; intro hc15 a hf
       first
       | (first | exact absurd hc15 (by assumption) | exact absurd (by assumption) hc15 | exact absurd hc15 (by decide) | exact absurd (by decide) hc15; done)
       | (
        refine done_l (t_normal ?_)
        refine c_true hf rfl ?_
        refine c_seq (c_region ?_)
        refine aN hf hS ?_; clear hf; intro a hf
        refine done_l (t_normal (c_ret (t_ret ?_)))
        refine eT hf ?_
        first | (rw [show rFlag (bs, e) = (false, (bs, e)) from if_pos (by assumption)]; exact ⟨rfl, rdx_shut (s := (bs, e)) hS rfl rfl rfl hcap⟩) | exact ⟨rfl, rdx_shut (s := ([], 2)) hS rfl rfl rfl hcap⟩ | (rw [rFlag_cons, if_pos (by omega)]; exact ⟨rfl, rdx_shut (s := ([], 3)) hS rfl rfl rfl hcap⟩) | (rw [rFlag_cons, if_neg (by omega)]; exact ⟨congrArg Value.bool (decide_eq_decide.2 (by omega)), rdx_shutDrop (bs := x :: r) hS rfl (by omega) hcap rfl⟩)
        )
      clear hf; intro hc15 a hf
      first
      | (first | exact absurd hc15 (by assumption) | exact absurd (by assumption) hc15 | exact absurd hc15 (by decide) | exact absurd (by decide) hc15; done)
      | (
       refine done_l (t_normal ?_)
       refine c_false hf rfl ?_
       refine c_skip (t_normal (c_seq (c_region ?_)))
       refine mN hf hS ?_; clear hf; intro a hf
       refine nC hf hS ?_; clear hf; intro a hf
       refine fA hf hS fb68_0 ?_; clear hf; intro a hf
       refine sR hf hS (rd_ld hf ag28) ?_; clear hf; intro a hf
       refine sR hf hS ((by first | exact rd_indexAddrN1 hf rfl rfl rfl Tryz.underlying28 sz5 (by omega) | exact rd_indexAddr hf rfl rfl rfl Tryz.underlying28 sz5 (by first | decide | omega) (by omega))) ?_; clear hf; intro a hf
       refine sR hf hS (rd_load1 hf rfl rfl ag5 (by intro _ h; exact (h.vwx (by repeat (first | exact Sel.head | apply Sel.tail))).get (j := 0) rfl)) ?_; clear hf; intro a hf
       refine sR hf hS (rd_eql hf rfl rfl rfl) ?_; clear hf; intro a hf
       refine aN hf hS ?_; clear hf; intro a hf
       refine done_l (t_normal (c_seq (c_region ?_)))
       iterate 2 (refine mN hf hS ?_; clear hf; intro a hf)
       refine nC hf hS ?_; clear hf; intro a hf
       refine fA hf hS fb68_0 ?_; clear hf; intro a hf
       refine sR hf hS (rd_ld hf ag28) ?_; clear hf; intro a hf
       refine sR hf hS (rd_sliceL hf rfl rfl rfl Tryz.underlying28 sz5 (by omega) (by omega)) ?_; clear hf; intro a hf
       refine nC hf hS ?_; clear hf; intro a hf
       refine fA hf hS fb68_0 ?_; clear hf; intro a hf
       refine sS hf hS sz28 ?_
       clear hf hS; intro a w hf hS
       refine done_l (t_normal (c_seq (c_region ?_)))
       iterate 2 ((first | refine mN hf hS ?_ | refine aN hf hS ?_); clear hf; intro a hf)
       refine done_l (t_normal (c_ret ?_))
       refine eT hf ?_
       first | (rw [show rFlag (bs, e) = (false, (bs, e)) from if_pos (by assumption)]; exact ⟨rfl, rdx_shut (s := (bs, e)) hS rfl rfl rfl hcap⟩) | exact ⟨rfl, rdx_shut (s := ([], 2)) hS rfl rfl rfl hcap⟩ | (rw [rFlag_cons, if_pos (by omega)]; exact ⟨rfl, rdx_shut (s := ([], 3)) hS rfl rfl rfl hcap⟩) | (rw [rFlag_cons, if_neg (by omega)]; exact ⟨congrArg Value.bool (decide_eq_decide.2 (by omega)), rdx_shutDrop (bs := x :: r) hS rfl (by omega) hcap rfl⟩)
       )
      )
    clear hf; intro hc14 a hf
    first
    | (first | exact absurd hc14 (by assumption) | exact absurd (by assumption) hc14 | exact absurd hc14 (by decide) | exact absurd (by decide) hc14; done)
    | (
     refine pT hf hS ?_; clear hf; intro a hf
     refine done_l (t_normal ?_)
     refine c_false hf rfl ?_
     refine c_skip (t_normal (c_seq (c_seq (c_region ?_))))
     refine mN hf hS ?_; clear hf; intro a hf
     refine nC hf hS ?_; clear hf; intro a hf
     refine fA hf hS fb68_1 ?_; clear hf; intro a hf
     refine sR hf hS (rd_ld hf ag31) ?_; clear hf; intro a hf
     refine sB hf hS (rd_neq hf rfl rfl rfl) ?_ ?_
     ·
      clear hf; intro hc16 a hf
      first
      | (first | exact absurd hc16 (by assumption) | exact absurd (by assumption) hc16 | exact absurd hc16 (by decide) | exact absurd (by decide) hc16; done)
      | (
       refine done_l (t_normal ?_)
       refine c_true hf rfl ?_
       refine c_seq (c_region ?_)
       refine aN hf hS ?_; clear hf; intro a hf
       refine done_l (t_normal (c_ret (t_ret ?_)))
       refine eT hf ?_
       first | (rw [show rFlag (bs, e) = (false, (bs, e)) from if_pos (by assumption)]; exact ⟨rfl, rdx_shut (s := (bs, e)) hS rfl rfl rfl hcap⟩) | exact ⟨rfl, rdx_shut (s := ([], 2)) hS rfl rfl rfl hcap⟩ | (rw [rFlag_cons, if_pos (by omega)]; exact ⟨rfl, rdx_shut (s := ([], 3)) hS rfl rfl rfl hcap⟩) | (rw [rFlag_cons, if_neg (by omega)]; exact ⟨congrArg Value.bool (decide_eq_decide.2 (by omega)), rdx_shutDrop (bs := x :: r) hS rfl (by omega) hcap rfl⟩)
       )
     clear hf; intro hc16 a hf
     first
     | (first | exact absurd hc16 (by assumption) | exact absurd (by assumption) hc16 | exact absurd hc16 (by decide) | exact absurd (by decide) hc16; done)
     | (
      refine done_l (t_normal ?_)
      refine c_false hf rfl ?_
      refine c_skip (t_normal (c_seq (c_region ?_)))
      refine mN hf hS ?_; clear hf; intro a hf
      refine nC hf hS ?_; clear hf; intro a hf
      refine fA hf hS fb68_0 ?_; clear hf; intro a hf
      refine sR hf hS (rd_ld hf ag28) ?_; clear hf; intro a hf
      refine sR hf hS ((by first | exact rd_indexAddrN1 hf rfl rfl rfl Tryz.underlying28 sz5 (by omega) | exact rd_indexAddr hf rfl rfl rfl Tryz.underlying28 sz5 (by first | decide | omega) (by omega))) ?_; clear hf; intro a hf
      refine sR hf hS (rd_load1 hf rfl rfl ag5 (by intro _ h; exact (h.vwx (by repeat (first | exact Sel.head | apply Sel.tail))).get (j := 0) rfl)) ?_; clear hf; intro a hf
      refine sR hf hS (rd_eql hf rfl rfl rfl) ?_; clear hf; intro a hf
      refine aN hf hS ?_; clear hf; intro a hf
      refine done_l (t_normal (c_seq (c_region ?_)))
      iterate 2 (refine mN hf hS ?_; clear hf; intro a hf)
      refine nC hf hS ?_; clear hf; intro a hf
      refine fA hf hS fb68_0 ?_; clear hf; intro a hf
      refine sR hf hS (rd_ld hf ag28) ?_; clear hf; intro a hf
      refine sR hf hS (rd_sliceL hf rfl rfl rfl Tryz.underlying28 sz5 (by omega) (by omega)) ?_; clear hf; intro a hf
      refine nC hf hS ?_; clear hf; intro a hf
      refine fA hf hS fb68_0 ?_; clear hf; intro a hf
      refine sS hf hS sz28 ?_
      clear hf hS; intro a w hf hS
      refine done_l (t_normal (c_seq (c_region ?_)))
      iterate 2 ((first | refine mN hf hS ?_ | refine aN hf hS ?_); clear hf; intro a hf)
      refine done_l (t_normal (c_ret ?_))
      refine eT hf ?_
      first | (rw [show rFlag (bs, e) = (false, (bs, e)) from if_pos (by assumption)]; exact ⟨rfl, rdx_shut (s := (bs, e)) hS rfl rfl rfl hcap⟩) | exact ⟨rfl, rdx_shut (s := ([], 2)) hS rfl rfl rfl hcap⟩ | (rw [rFlag_cons, if_pos (by omega)]; exact ⟨rfl, rdx_shut (s := ([], 3)) hS rfl rfl rfl hcap⟩) | (rw [rFlag_cons, if_neg (by omega)]; exact ⟨congrArg Value.bool (decide_eq_decide.2 (by omega)), rdx_shutDrop (bs := x :: r) hS rfl (by omega) hcap rfl⟩)
      )
     )
    )
  clear hf; intro hc13 a hf
  first
  | (first | exact absurd hc13 (by assumption) | exact absurd (by assumption) hc13 | exact absurd hc13 (by decide) | exact absurd (by decide) hc13; done)
  | (
   iterate 9 ((first | refine kS hf ?_ | refine mN hf hS ?_ | refine pF hf hS ?_); clear hf; intro a hf)
   refine done_l (t_normal ?_)
   refine c_false hf rfl ?_
   refine c_skip (t_normal (c_seq (c_seq (c_region ?_))))
   refine mN hf hS ?_; clear hf; intro a hf
   refine nC hf hS ?_; clear hf; intro a hf
   refine fA hf hS fb68_1 ?_; clear hf; intro a hf
   refine sR hf hS (rd_ld hf ag31) ?_; clear hf; intro a hf
   refine sB hf hS (rd_neq hf rfl rfl rfl) ?_ ?_
   ·
    clear hf; intro hc17 a hf
    first
    | (first | exact absurd hc17 (by assumption) | exact absurd (by assumption) hc17 | exact absurd hc17 (by decide) | exact absurd (by decide) hc17; done)
    | (
     refine done_l (t_normal ?_)
     refine c_true hf rfl ?_
     refine c_seq (c_region ?_)
     refine aN hf hS ?_; clear hf; intro a hf
     refine done_l (t_normal (c_ret (t_ret ?_)))
     refine eT hf ?_
     first | (rw [show rFlag (bs, e) = (false, (bs, e)) from if_pos (by assumption)]; exact ⟨rfl, rdx_shut (s := (bs, e)) hS rfl rfl rfl hcap⟩) | exact ⟨rfl, rdx_shut (s := ([], 2)) hS rfl rfl rfl hcap⟩ | (rw [rFlag_cons, if_pos (by omega)]; exact ⟨rfl, rdx_shut (s := ([], 3)) hS rfl rfl rfl hcap⟩) | (rw [rFlag_cons, if_neg (by omega)]; exact ⟨congrArg Value.bool (decide_eq_decide.2 (by omega)), rdx_shutDrop (bs := x :: r) hS rfl (by omega) hcap rfl⟩)
     )
   clear hf; intro hc17 a hf
   first
   | (first | exact absurd hc17 (by assumption) | exact absurd (by assumption) hc17 | exact absurd hc17 (by decide) | exact absurd (by decide) hc17; done)
   | (
    refine done_l (t_normal ?_)
    refine c_false hf rfl ?_
    refine c_skip (t_normal (c_seq (c_region ?_)))
    refine mN hf hS ?_; clear hf; intro a hf
    refine nC hf hS ?_; clear hf; intro a hf
    refine fA hf hS fb68_0 ?_; clear hf; intro a hf
    refine sR hf hS (rd_ld hf ag28) ?_; clear hf; intro a hf
    refine sR hf hS ((by first | exact rd_indexAddrN1 hf rfl rfl rfl Tryz.underlying28 sz5 (by omega) | exact rd_indexAddr hf rfl rfl rfl Tryz.underlying28 sz5 (by first | decide | omega) (by omega))) ?_; clear hf; intro a hf
    refine sR hf hS (rd_load1 hf rfl rfl ag5 (by intro _ h; exact (h.vwx (by repeat (first | exact Sel.head | apply Sel.tail))).get (j := 0) rfl)) ?_; clear hf; intro a hf
    refine sR hf hS (rd_eql hf rfl rfl rfl) ?_; clear hf; intro a hf
    refine aN hf hS ?_; clear hf; intro a hf
    refine done_l (t_normal (c_seq (c_region ?_)))
    iterate 2 (refine mN hf hS ?_; clear hf; intro a hf)
    refine nC hf hS ?_; clear hf; intro a hf
    refine fA hf hS fb68_0 ?_; clear hf; intro a hf
    refine sR hf hS (rd_ld hf ag28) ?_; clear hf; intro a hf
    refine sR hf hS (rd_sliceL hf rfl rfl rfl Tryz.underlying28 sz5 (by omega) (by omega)) ?_; clear hf; intro a hf
    refine nC hf hS ?_; clear hf; intro a hf
    refine fA hf hS fb68_0 ?_; clear hf; intro a hf
    refine sS hf hS sz28 ?_
    clear hf hS; intro a w hf hS
    refine done_l (t_normal (c_seq (c_region ?_)))
    iterate 2 ((first | refine mN hf hS ?_ | refine aN hf hS ?_); clear hf; intro a hf)
    refine done_l (t_normal (c_ret ?_))
    refine eT hf ?_
    first | (rw [show rFlag (bs, e) = (false, (bs, e)) from if_pos (by assumption)]; exact ⟨rfl, rdx_shut (s := (bs, e)) hS rfl rfl rfl hcap⟩) | exact ⟨rfl, rdx_shut (s := ([], 2)) hS rfl rfl rfl hcap⟩ | (rw [rFlag_cons, if_pos (by omega)]; exact ⟨rfl, rdx_shut (s := ([], 3)) hS rfl rfl rfl hcap⟩) | (rw [rFlag_cons, if_neg (by omega)]; exact ⟨congrArg Value.bool (decide_eq_decide.2 (by omega)), rdx_shutDrop (bs := x :: r) hS rfl (by omega) hcap rfl⟩)
    )
   )
  )

end Go.Proofs.YtglmimbfelakbaaGreat
