/-
  Walked: Rea.
  Conditions: none.
-/
import Derived.Test.YtcflbdpjoanbgaaGreatEnc1
namespace Go.Proofs.YtcflbdpjoanbgaaGreat
open Go Go.Sl
set_option linter.unusedVariables false
set_option linter.unusedSimpArgs false

theorem NewReader_c (bs : List UInt8) (q0 : Option Addr) (n0 cap0 : Nat) {W : World} {R : List HP} {w : World} (hS : Sat W (R) w) (hn0 : n0 = bs.length) (hb : bs.length ≤ 140737488355328) (hv : ∀ w, Sat W R w → SlAt w q0 bs.length 1 (bvs bs)) : Calls Tryz.prog 43 [.slice q0 n0 cap0].toArray w (Ret fun v w' => ∃ p, v = .pointer (some ⟨p, 0, none⟩) ∧ Sat W (RdP 122 p (bs, 0) :: R) w') := by
 refine fn_start 7 Tryz.func43 rfl rfl rfl ?_
 intro a hf
 refine c_seq (c_region ?_)
 refine aN hf hS ?_; clear hf; intro a hf
 refine done_l (t_normal (c_seq (c_region ?_)))
 refine mN hf hS ?_; clear hf; intro a hf
 refine step_l (st_call hf (Wn.none rfl) rfl rfl rfl fn76 (Clone_c bs _ _ _ hS hn0 (by omega) (fun _ h => hv _ h)) rfl rfl ?_)
 clear hf hS; rintro v a w ⟨qc_1, capc_1, rfl, hS⟩ hf
 refine sR hf hS (rd_build hf rfl rfl zr122 (by rfl) pl122 (.cons rfl (by first | rfl) (by rfl) (by repeat (first | exact Put.nil | apply Put.cons | apply Put.succ)) .nil)) ?_; clear hf; intro a hf
 refine step_l (st_box hf (Wn.none rfl) hS rfl rfl (by rfl) rfl rfl ?_)
 clear hf hS; intro b_2 a w hf hS
 refine aN hf hS ?_; clear hf; intro a hf
 refine done_l (t_normal (c_ret ?_))
 refine eT hf ?_
 have hL := (hS.rwLen (.tail .head)).2.1
 exact ⟨b_2, rfl, rd_shut (s := (bs, 0)) (q := qc_1) (cap := capc_1) ((Sat.vwOfRw (hS.sub (.cons (.tail .head) (.cons .head .refl)))).sub (.cons (.tail .head) (.cons .head .refl))) rfl rfl rfl hL⟩

theorem RWok_c (p : Nat) (s : RS)  {W : World} {R : List HP} {w : World} (hS : Sat W (RdP 122 p (s) :: R) w)  : Calls Tryz.prog 97 [.pointer (some ⟨p, 0, none⟩)].toArray w (Ret fun v w' => v = .bool (decide (s.2 = 0)) ∧ Sat W (RdP 122 p (s) :: R) w') := by
 refine fn_start 12 Tryz.func97 rfl rfl rfl ?_
 intro a hf
 obtain ⟨bs, e⟩ := s; obtain ⟨q, cap, hcap, hS⟩ := rd_open hS; dsimp only at hS hcap
 refine c_seq (c_region ?_)
 refine aN hf hS ?_; clear hf; intro a hf
 refine done_l (t_normal (c_seq (c_region ?_)))
 refine mN hf hS ?_; clear hf; intro a hf
 refine step_l (st_rdb hf (Wn.none rfl) (rd_neqNilP hf rfl rfl rfl Tryz.underlying92) hS rfl rfl ?_ ?_)
 ·
  clear hf; intro hc1 a hf
  iterate 2 ((first | refine mN hf hS ?_ | refine step_l (st_rd hf (Wn.some hf rfl rfl rfl rfl) (rd_move hf rfl rfl) hS rfl rfl ?_)); clear hf; intro a hf)
  refine sG hf hS (rd_nilCheck hf rfl rfl) ?_; clear hf; intro a hf
  refine fG hf hS fb122_1 ?_; clear hf; intro a hf
  refine sG hf hS (rd_ld hf ag35) ?_; clear hf; intro a hf
  refine sG hf hS (rd_eql hf rfl rfl rfl) ?_; clear hf; intro a hf
  iterate 2 ((first | refine aN hf hS ?_ | refine pT hf hS ?_); clear hf; intro a hf)
  refine done_l (t_normal (c_ret ?_))
  refine eT hf ?_
  exact ⟨rfl, rd_shut (s := (bs, e)) hS rfl rfl rfl hcap⟩
 clear hf; intro hc1 a hf
 exact Bool.noConfusion hc1

theorem RWfail_c (p : Nat) (s : RS) (f : Int) {W : World} {R : List HP} {w : World} (hS : Sat W (RdP 122 p (s) :: R) w)  : Calls Tryz.prog 98 [.pointer (some ⟨p, 0, none⟩), .int .i64 f].toArray w (Ret fun v w' => v = .tuple #[] ∧ Sat W (RdP 122 p ((([], f) : RS)) :: R) w') := by
 refine fn_start 11 Tryz.func98 rfl rfl rfl ?_
 intro a hf
 obtain ⟨bs, e⟩ := s; obtain ⟨q, cap, hcap, hS⟩ := rd_open hS; dsimp only at hS hcap
 refine c_region ?_
 iterate 3 (refine mN hf hS ?_; clear hf; intro a hf)
 refine nC hf hS ?_; clear hf; intro a hf
 refine fA hf hS fb122_1 ?_; clear hf; intro a hf
 refine sS hf hS sz35 ?_
 clear hf hS; intro a w hf hS
 refine nC hf hS ?_; clear hf; intro a hf
 refine fA hf hS fb122_0 ?_; clear hf; intro a hf
 refine sS hf hS sz34 ?_
 clear hf hS; intro a w hf hS
 refine done_l ?_
 refine e_none' hf rfl ?_
 exact ⟨rfl, rd_shutNil hS rfl⟩

theorem RWbyte_c (p : Nat) (s : RS)  {W : World} {R : List HP} {w : World} (hS : Sat W (RdP 122 p (s) :: R) w)  : Calls Tryz.prog 108 [.pointer (some ⟨p, 0, none⟩)].toArray w (Ret fun v w' => v = .tuple #[.int .u8 ((bX s).toNat : Nat), .bool (bOk s)] ∧ Sat W (RdP 122 p (bS s) :: R) w') := by
 refine fn_start 31 Tryz.func108 rfl rfl rfl ?_
 intro a hf
 refine c_seq (c_region ?_)
 iterate 2 (refine aN hf hS ?_; clear hf; intro a hf)
 refine done_l (t_normal (c_seq (c_seq (c_region ?_))))
 refine mN hf hS ?_; clear hf; intro a hf
 refine step_l (st_call hf (Wn.none rfl) rfl rfl rfl fn97 (RWok_c _ _ (hS.selA)) rfl rfl ?_)
 clear hf hS; rintro v a w ⟨rfl, hS⟩ hf
 first | refine split_dec (d := 6) hf rfl ?_ ?_ | refine split_bool (d := 6) hf rfl ?_ ?_
 ·
  clear hf; intro hc1 hf
  obtain ⟨bs, e⟩ := s; obtain rfl : e = 0 := hc1; obtain ⟨q, cap, hcap, hS⟩ := rd_open hS; dsimp only at hS hcap
  refine nT hf hS ?_; clear hf; intro a hf
  refine done_l (t_normal ?_)
  refine c_false hf rfl ?_
  refine c_skip (t_normal (c_seq (c_seq (c_region ?_))))
  refine mN hf hS ?_; clear hf; intro a hf
  refine nC hf hS ?_; clear hf; intro a hf
  refine fA hf hS fb122_0 ?_; clear hf; intro a hf
  refine sR hf hS (rd_ld hf ag34) ?_; clear hf; intro a hf
  refine sR hf hS (rd_len hf rfl rfl Tryz.underlying34) ?_; clear hf; intro a hf
  refine sB hf hS (rd_eql hf rfl rfl rfl) ?_ ?_
  ·
   clear hf; intro hc2 a hf
   obtain rfl : bs = [] := List.eq_nil_of_length_eq_zero (by omega); replace hS := rd_shut (s := ([], 0)) hS rfl rfl rfl hcap
   refine done_l (t_normal ?_)
   refine c_true hf rfl ?_
   refine c_seq (c_region ?_)
   refine mN hf hS ?_; clear hf; intro a hf
   refine step_l (st_call hf (Wn.none rfl) rfl rfl rfl fn98 (RWfail_c _ _ _ (hS.selA)) rfl rfl ?_)
   clear hf hS; rintro v a w ⟨rfl, hS⟩ hf
   refine done_l (t_normal (c_seq (c_region ?_)))
   iterate 2 (refine aN hf hS ?_; clear hf; intro a hf)
   refine done_l (t_normal (c_ret (t_ret ?_)))
   refine e_resN hf.defers rfl (res_tmp hf rfl (res_tmp hf rfl .nil)) ?_
   exact ⟨rfl, hS⟩
  clear hf; intro hc2 a hf
  obtain ⟨x, r, rfl⟩ := List.exists_cons_of_ne_nil (l := bs) (by rintro rfl; exact hc2 rfl); have hxl : (x :: r).length = r.length + 1 := rfl; obtain ⟨ad, rfl⟩ := (hS.vw (.tail .head)).some (by omega)
  refine done_l (t_normal ?_)
  refine c_false hf rfl ?_
  refine c_skip (t_normal (c_seq (c_region ?_)))
  refine mN hf hS ?_; clear hf; intro a hf
  refine nC hf hS ?_; clear hf; intro a hf
  refine fA hf hS fb122_0 ?_; clear hf; intro a hf
  refine sR hf hS (rd_ld hf ag34) ?_; clear hf; intro a hf
  refine sR hf hS ((by first | exact rd_indexAddrN1 hf rfl rfl rfl Tryz.underlying34 sz5 (by omega) | exact rd_indexAddr hf rfl rfl rfl Tryz.underlying34 sz5 (by first | decide | omega) (by omega))) ?_; clear hf; intro a hf
  refine sR hf hS (rd_load1 hf rfl rfl ag5 (by intro _ h; exact (h.vw (by repeat (first | exact Sel.head | apply Sel.tail))).get (j := 0) rfl)) ?_; clear hf; intro a hf
  refine aN hf hS ?_; clear hf; intro a hf
  refine done_l (t_normal (c_seq (c_region ?_)))
  iterate 2 (refine mN hf hS ?_; clear hf; intro a hf)
  refine nC hf hS ?_; clear hf; intro a hf
  refine fA hf hS fb122_0 ?_; clear hf; intro a hf
  refine sR hf hS (rd_ld hf ag34) ?_; clear hf; intro a hf
  refine sR hf hS (rd_sliceL hf rfl rfl rfl Tryz.underlying34 sz5 (by omega) (by omega)) ?_; clear hf; intro a hf
  refine nC hf hS ?_; clear hf; intro a hf
  refine fA hf hS fb122_0 ?_; clear hf; intro a hf
  refine sS hf hS sz34 ?_
  clear hf hS; intro a w hf hS
  refine done_l (t_normal (c_seq (c_region ?_)))
  iterate 3 ((first | refine mN hf hS ?_ | refine aN hf hS ?_); clear hf; intro a hf)
  refine done_l (t_normal (c_ret ?_))
  refine e_resN hf.defers rfl (res_tmp hf rfl (res_tmp hf rfl .nil)) ?_
  exact ⟨rfl, rd_shutDrop (bs := x :: r) hS rfl (by omega) hcap rfl⟩
 clear hf; intro hc1 hf
 refine nT hf hS ?_; clear hf; intro a hf
 refine done_l (t_normal ?_)
 refine c_true hf rfl ?_
 refine c_seq (c_region ?_)
 iterate 2 (refine aN hf hS ?_; clear hf; intro a hf)
 refine done_l (t_normal (c_ret (t_ret ?_)))
 refine e_resN hf.defers rfl (res_tmp hf rfl (res_tmp hf rfl .nil)) ?_
 exact ⟨by rw [(b_bad (by assumption)).1, (b_bad (by assumption)).2.1]; rfl, by rw [(b_bad (by assumption)).2.2]; exact hS⟩

theorem RWLeft_c (p : Nat) (s : RS)  {W : World} {R : List HP} {w : World} (hS : Sat W (RdP 122 p (s) :: R) w)  : Calls Tryz.prog 101 [.pointer (some ⟨p, 0, none⟩)].toArray w (Ret fun v w' => v = .int .i64 (s.1.length : Nat) ∧ Sat W (RdP 122 p (s) :: R) w') := by
 refine fn_start 10 Tryz.func101 rfl rfl rfl ?_
 intro a hf
 obtain ⟨bs, e⟩ := s; obtain ⟨q, cap, hcap, hS⟩ := rd_open hS; dsimp only at hS hcap
 refine c_seq (c_region ?_)
 refine aN hf hS ?_; clear hf; intro a hf
 refine done_l (t_normal (c_seq (c_seq (c_region ?_))))
 refine mN hf hS ?_; clear hf; intro a hf
 refine step_l (st_rdb hf (Wn.none rfl) (rd_eqlNilP hf rfl rfl rfl Tryz.underlying92) hS rfl rfl ?_ ?_)
 ·
  clear hf; intro hc1 a hf
  exact Bool.noConfusion hc1
 clear hf; intro hc1 a hf
 refine done_l (t_normal ?_)
 refine c_false hf rfl ?_
 refine c_skip (t_normal (c_seq (c_region ?_)))
 refine mN hf hS ?_; clear hf; intro a hf
 refine nC hf hS ?_; clear hf; intro a hf
 refine fA hf hS fb122_0 ?_; clear hf; intro a hf
 refine sR hf hS (rd_ld hf ag34) ?_; clear hf; intro a hf
 refine sR hf hS (rd_len hf rfl rfl Tryz.underlying34) ?_; clear hf; intro a hf
 refine aN hf hS ?_; clear hf; intro a hf
 refine done_l (t_normal (c_ret ?_))
 refine eT hf ?_
 exact ⟨rfl, rd_shut (s := (bs, e)) hS rfl rfl rfl hcap⟩

theorem RWNum_c (p : Nat) (s : RS)  {W : World} {R : List HP} {w : World} (hS : Sat W (RdP 122 p (s) :: R) w)  : Calls Tryz.prog 96 [.pointer (some ⟨p, 0, none⟩)].toArray w (Ret fun v w' => v = .int .u64 ((rNum s).1 : Nat) ∧ Sat W (RdP 122 p ((rNum s).2) :: R) w') := by
 refine fn_start 45 Tryz.func96 rfl rfl rfl ?_
 intro a hf
 refine c_seq (c_region ?_)
 refine aN hf hS ?_; clear hf; intro a hf
 refine done_l (t_normal (c_seq (c_region ?_)))
 refine aN hf hS ?_; clear hf; intro a hf
 refine done_l (t_normal (c_seq (c_seq (c_region ?_))))
 refine mN hf hS ?_; clear hf; intro a hf
 refine done_l (t_normal (c_block ?_))
 refine c_loop (α := Nat × Nat × RS) (fun ⟨i, acc, t⟩ a w => Fits 45 a [(0, .pointer (some ⟨p, 0, none⟩)), (3, .int .u64 (acc : Nat)), (7, .int .i64 (i : Nat))] ∧ Sat W (RdP 122 p t :: R) w ∧ rNum s = rNumI i acc t ∧ i ≤ 9 ∧ acc < 2 ^ (7 * i)) (fun ⟨i, acc, t⟩ => 10 - i) (0, 0, s) ?_ ?_
 ·
  exact ⟨(((hf.k0.kb hf 7 rfl (by rfl)).kb hf 3 rfl (by rfl)).kb hf 0 rfl (by rfl)), hS.subA, ⟨rfl, by omega, by simp⟩⟩
 ·
  clear hf hS; rintro ⟨i, acc, t⟩ a w ⟨hf, hS, ⟨hrec, hi, hacc⟩⟩
  refine c_seq (c_region ?_)
  refine sB hf hS (rd_lss hf rfl rfl rfl) ?_ ?_
  ·
   clear hf; intro hc1 a hf
   refine done_l (t_normal (c_seq ?_))
   refine c_true hf rfl ?_
   refine c_skip (t_normal (c_seq (c_block (c_seq (c_region ?_)))))
   iterate 2 ((first | refine mN hf hS ?_ | refine aN hf hS ?_); clear hf; intro a hf)
   refine done_l (t_normal (c_seq (c_region ?_)))
   refine mN hf hS ?_; clear hf; intro a hf
   refine step_l (st_call hf (Wn.none rfl) rfl rfl rfl fn108 (RWbyte_c _ _ (hS.selA)) rfl rfl ?_)
   clear hf hS; rintro v a w ⟨rfl, hS⟩ hf
   refine mN hf hS ?_; clear hf; intro a hf
   refine sR hf hS (rd_extract hf rfl rfl rfl) ?_; clear hf; intro a hf
   refine step_l (st_rdb hf (Wn.none rfl) (rd_extract hf rfl rfl rfl) hS rfl rfl ?_ ?_)
   ·
    clear hf; intro hc2 a hf
    obtain ⟨hstep, hz⟩ := bOk_yes i acc hc2; have hx8 := (bX t).toNat_lt
    iterate 2 (refine aN hf hS ?_; clear hf; intro a hf)
    refine done_l (t_normal (c_seq (c_seq (c_region ?_))))
    refine mN hf hS ?_; clear hf; intro a hf
    refine nT hf hS ?_; clear hf; intro a hf
    refine done_l (t_normal ?_)
    refine c_false hf rfl ?_
    refine c_skip (t_normal (c_seq (c_seq (c_region ?_))))
    refine mN hf hS ?_; clear hf; intro a hf
    refine sB hf hS (rd_eql hf rfl rfl rfl) ?_ ?_
    ·
     clear hf; intro hc3 a hf
     iterate 2 ((first | refine mN hf hS ?_ | refine step_l (st_rd hf (Wn.some hf rfl rfl rfl rfl) (rd_move hf rfl rfl) hS rfl rfl ?_)); clear hf; intro a hf)
     refine step_l (st_rdB hf (Wn.some hf rfl rfl rfl rfl) (rd_gtr hf rfl rfl rfl) hS rfl rfl ?_ ?_)
     ·
      clear hf; intro hc4 a hf
      iterate 9 ((first | refine kS hf ?_ | refine kU hf ?_ | refine mN hf hS ?_ | refine pT hf hS ?_); clear hf; intro a hf)
      refine done_l (t_normal ?_)
      refine c_true hf rfl ?_
      refine c_seq (c_region ?_)
      refine mN hf hS ?_; clear hf; intro a hf
      refine step_l (st_call hf (Wn.none rfl) rfl rfl rfl fn98 (RWfail_c _ _ _ (hS.selA)) rfl rfl ?_)
      clear hf hS; rintro v a w ⟨rfl, hS⟩ hf
      refine done_l (t_normal (c_seq (c_region ?_)))
      refine aN hf hS ?_; clear hf; intro a hf
      refine done_l (t_normal (c_ret (t_ret (b_ret (t_ret (t_ret (b_ret (t_ret ?_))))))))
      refine eT hf ?_
      first | (rw [hrec, hstep, if_pos (by omega)]; exact ⟨rfl, hS⟩) | (rw [hrec, hstep, if_neg (by omega), if_pos (by omega)]; exact ⟨rfl, hS⟩) | (rw [hrec, hstep]; exact ⟨rfl, hS⟩)
     clear hf; intro hc4 a hf
     iterate 3 ((first | refine mN hf hS ?_ | refine step_l (st_rd hf (Wn.some hf rfl rfl rfl rfl) (rd_move hf rfl rfl) hS rfl rfl ?_) | refine pT hf hS ?_); clear hf; intro a hf)
     refine step_l (st_rdB hf (Wn.some hf rfl rfl rfl rfl) (rd_gtr hf rfl rfl rfl) hS rfl rfl ?_ ?_)
     ·
      clear hf; intro hc5 a hf
      iterate 2 (refine step_l (st_rd hf (Wn.some hf rfl rfl rfl rfl) (rd_move hf rfl rfl) hS rfl rfl ?_); clear hf; intro a hf)
      refine step_l (st_rdB hf (Wn.some hf rfl rfl rfl rfl) (rd_eql hf rfl rfl rfl) hS rfl rfl ?_ ?_)
      ·
       clear hf; intro hc6 a hf
       iterate 2 ((first | refine step_l (st_rd hf (Wn.some hf rfl rfl rfl rfl) (rd_pick_t hf rfl rfl rfl) hS rfl rfl ?_) | refine pF hf hS ?_); clear hf; intro a hf)
       refine done_l (t_normal ?_)
       refine c_true hf rfl ?_
       refine c_seq (c_region ?_)
       refine mN hf hS ?_; clear hf; intro a hf
       refine step_l (st_call hf (Wn.none rfl) rfl rfl rfl fn98 (RWfail_c _ _ _ (hS.selA)) rfl rfl ?_)
       clear hf hS; rintro v a w ⟨rfl, hS⟩ hf
       refine done_l (t_normal (c_seq (c_region ?_)))
       refine aN hf hS ?_; clear hf; intro a hf
       refine done_l (t_normal (c_ret (t_ret (b_ret (t_ret (t_ret (b_ret (t_ret ?_))))))))
       refine eT hf ?_
       first | (rw [hrec, hstep, if_pos (by omega)]; exact ⟨rfl, hS⟩) | (rw [hrec, hstep, if_neg (by omega), if_pos (by omega)]; exact ⟨rfl, hS⟩) | (rw [hrec, hstep]; exact ⟨rfl, hS⟩)
      clear hf; intro hc6 a hf
      iterate 2 ((first | refine step_l (st_rd hf (Wn.some hf rfl rfl rfl rfl) (rd_pick_t hf rfl rfl rfl) hS rfl rfl ?_) | refine pF hf hS ?_); clear hf; intro a hf)
      refine done_l (t_normal ?_)
      refine c_false hf rfl ?_
      refine c_skip (t_normal (c_seq (c_region ?_)))
      iterate 2 (refine mN hf hS ?_; clear hf; intro a hf)
      refine sR hf hS (rd_andNot hf rfl rfl rfl (n8_andNot128 _)) ?_; clear hf; intro a hf
      refine sR hf hS (rd_convInt hf rfl rfl Tryz.underlying5 Tryz.underlying67 (wrap64 (by omega))) ?_; clear hf; intro a hf
      refine mN hf hS ?_; clear hf; intro a hf
      refine sR hf hS (rd_mul hf rfl rfl rfl (by first | exact Go.IntWalk.i64_in _ (by omega) | exact rfl)) ?_; clear hf; intro a hf
      refine sR hf hS (rd_shl hf rfl rfl rfl (by first | decide | omega) (n64_shl (7 * i) (by omega) (by omega) (shl_bound (by omega) (by omega) (by omega)))) ?_; clear hf; intro a hf
      refine sR hf hS (rd_or hf rfl rfl rfl (n64_acc (by omega) (by omega) (by omega) hacc)) ?_; clear hf; intro a hf
      refine aN hf hS ?_; clear hf; intro a hf
      refine done_l (t_normal (c_seq (c_region ?_)))
      refine mN hf hS ?_; clear hf; intro a hf
      refine sB hf hS (rd_lss hf rfl rfl rfl) ?_ ?_
      ·
       clear hf; intro hc7 a hf
       refine done_l (t_normal ?_)
       refine c_true hf rfl ?_
       refine c_exit ?_
       refine b_exit' (by decide) ?_
       refine t_exit (t_exit (b_exit (t_normal (c_seq (c_region ?_)))))
       iterate 2 ((first | refine mN hf hS ?_ | refine aN hf hS ?_); clear hf; intro a hf)
       refine done_l (t_normal (c_ret ?_))
       refine eT hf ?_
       first | (rw [hrec, hstep, if_pos (by omega)]; exact ⟨rfl, hS⟩) | (rw [hrec, hstep, if_neg (by omega), if_pos (by omega)]; exact ⟨rfl, hS⟩) | (rw [hrec, hstep]; exact ⟨rfl, hS⟩)
      clear hf; intro hc7 a hf
      refine done_l (t_normal ?_)
      refine c_false hf rfl ?_
      refine c_skip (b_normal (t_normal (c_region ?_)))
      refine sP hf hS ?_; clear hf; intro a hf
      refine mN hf hS ?_; clear hf; intro a hf
      refine done_l ?_
      refine t_normal ⟨(i + 1, acc + (bX t).toNat % 128 * 2 ^ (7 * i), bS t), ⟨(((hf.k0.kb hf 7 rfl (by exact int_eq (by omega))).kb hf 3 rfl (by rfl)).kb hf 0 rfl (by rfl)), hS.subA, ⟨by rw [hrec, hstep, if_neg (by omega), if_neg (by omega)], by omega, acc_step (by omega) hacc⟩⟩, by first | omega | (simp only []; omega)⟩
     clear hf; intro hc5 a hf
     iterate 5 ((first | refine kS hf ?_ | refine step_l (st_rd hf (Wn.some hf rfl rfl rfl rfl) (rd_move hf rfl rfl) hS rfl rfl ?_) | refine pF hf hS ?_ | refine step_l (st_rd hf (Wn.some hf rfl rfl rfl rfl) (rd_pick_f hf rfl rfl rfl) hS rfl rfl ?_)); clear hf; intro a hf)
     refine done_l (t_normal ?_)
     refine c_false hf rfl ?_
     refine c_skip (t_normal (c_seq (c_region ?_)))
     iterate 2 (refine mN hf hS ?_; clear hf; intro a hf)
     refine sR hf hS (rd_andNot hf rfl rfl rfl (n8_andNot128 _)) ?_; clear hf; intro a hf
     refine sR hf hS (rd_convInt hf rfl rfl Tryz.underlying5 Tryz.underlying67 (wrap64 (by omega))) ?_; clear hf; intro a hf
     refine mN hf hS ?_; clear hf; intro a hf
     refine sR hf hS (rd_mul hf rfl rfl rfl (by first | exact Go.IntWalk.i64_in _ (by omega) | exact rfl)) ?_; clear hf; intro a hf
     refine sR hf hS (rd_shl hf rfl rfl rfl (by first | decide | omega) (n64_shl (7 * i) (by omega) (by omega) (shl_bound (by omega) (by omega) (by omega)))) ?_; clear hf; intro a hf
     refine sR hf hS (rd_or hf rfl rfl rfl (n64_acc (by omega) (by omega) (by omega) hacc)) ?_; clear hf; intro a hf
     refine aN hf hS ?_; clear hf; intro a hf
     refine done_l (t_normal (c_seq (c_region ?_)))
     refine mN hf hS ?_; clear hf; intro a hf
     refine sB hf hS (rd_lss hf rfl rfl rfl) ?_ ?_
     ·
      clear hf; intro hc8 a hf
      refine done_l (t_normal ?_)
      refine c_true hf rfl ?_
      refine c_exit ?_
      refine b_exit' (by decide) ?_
      refine t_exit (t_exit (b_exit (t_normal (c_seq (c_region ?_)))))
      iterate 2 ((first | refine mN hf hS ?_ | refine aN hf hS ?_); clear hf; intro a hf)
      refine done_l (t_normal (c_ret ?_))
      refine eT hf ?_
      first | (rw [hrec, hstep, if_pos (by omega)]; exact ⟨rfl, hS⟩) | (rw [hrec, hstep, if_neg (by omega), if_pos (by omega)]; exact ⟨rfl, hS⟩) | (rw [hrec, hstep]; exact ⟨rfl, hS⟩)
     clear hf; intro hc8 a hf
     refine done_l (t_normal ?_)
     refine c_false hf rfl ?_
     refine c_skip (b_normal (t_normal (c_region ?_)))
     refine sP hf hS ?_; clear hf; intro a hf
     refine mN hf hS ?_; clear hf; intro a hf
     refine done_l ?_
     refine t_normal ⟨(i + 1, acc + (bX t).toNat % 128 * 2 ^ (7 * i), bS t), ⟨(((hf.k0.kb hf 7 rfl (by exact int_eq (by omega))).kb hf 3 rfl (by rfl)).kb hf 0 rfl (by rfl)), hS.subA, ⟨by rw [hrec, hstep, if_neg (by omega), if_neg (by omega)], by omega, acc_step (by omega) hacc⟩⟩, by first | omega | (simp only []; omega)⟩
    clear hf; intro hc3 a hf
    iterate 6 ((first | refine kS hf ?_ | refine mN hf hS ?_ | refine step_l (st_rd hf (Wn.some hf rfl rfl rfl rfl) (rd_move hf rfl rfl) hS rfl rfl ?_) | refine pF hf hS ?_); clear hf; intro a hf)
    refine step_l (st_rdB hf (Wn.some hf rfl rfl rfl rfl) (rd_gtr hf rfl rfl rfl) hS rfl rfl ?_ ?_)
    ·
     clear hf; intro hc9 a hf
     iterate 2 (refine step_l (st_rd hf (Wn.some hf rfl rfl rfl rfl) (rd_move hf rfl rfl) hS rfl rfl ?_); clear hf; intro a hf)
     refine step_l (st_rdB hf (Wn.some hf rfl rfl rfl rfl) (rd_eql hf rfl rfl rfl) hS rfl rfl ?_ ?_)
     ·
      clear hf; intro hc10 a hf
      iterate 2 ((first | refine step_l (st_rd hf (Wn.some hf rfl rfl rfl rfl) (rd_pick_t hf rfl rfl rfl) hS rfl rfl ?_) | refine pF hf hS ?_); clear hf; intro a hf)
      refine done_l (t_normal ?_)
      refine c_true hf rfl ?_
      refine c_seq (c_region ?_)
      refine mN hf hS ?_; clear hf; intro a hf
      refine step_l (st_call hf (Wn.none rfl) rfl rfl rfl fn98 (RWfail_c _ _ _ (hS.selA)) rfl rfl ?_)
      clear hf hS; rintro v a w ⟨rfl, hS⟩ hf
      refine done_l (t_normal (c_seq (c_region ?_)))
      refine aN hf hS ?_; clear hf; intro a hf
      refine done_l (t_normal (c_ret (t_ret (b_ret (t_ret (t_ret (b_ret (t_ret ?_))))))))
      refine eT hf ?_
      first | (rw [hrec, hstep, if_pos (by omega)]; exact ⟨rfl, hS⟩) | (rw [hrec, hstep, if_neg (by omega), if_pos (by omega)]; exact ⟨rfl, hS⟩) | (rw [hrec, hstep]; exact ⟨rfl, hS⟩)
     clear hf; intro hc10 a hf
     iterate 2 ((first | refine step_l (st_rd hf (Wn.some hf rfl rfl rfl rfl) (rd_pick_t hf rfl rfl rfl) hS rfl rfl ?_) | refine pF hf hS ?_); clear hf; intro a hf)
     refine done_l (t_normal ?_)
     refine c_false hf rfl ?_
     refine c_skip (t_normal (c_seq (c_region ?_)))
     iterate 2 (refine mN hf hS ?_; clear hf; intro a hf)
     refine sR hf hS (rd_andNot hf rfl rfl rfl (n8_andNot128 _)) ?_; clear hf; intro a hf
     refine sR hf hS (rd_convInt hf rfl rfl Tryz.underlying5 Tryz.underlying67 (wrap64 (by omega))) ?_; clear hf; intro a hf
     refine mN hf hS ?_; clear hf; intro a hf
     refine sR hf hS (rd_mul hf rfl rfl rfl (by first | exact Go.IntWalk.i64_in _ (by omega) | exact rfl)) ?_; clear hf; intro a hf
     refine sR hf hS (rd_shl hf rfl rfl rfl (by first | decide | omega) (n64_shl (7 * i) (by omega) (by omega) (shl_bound (by omega) (by omega) (by omega)))) ?_; clear hf; intro a hf
     refine sR hf hS (rd_or hf rfl rfl rfl (n64_acc (by omega) (by omega) (by omega) hacc)) ?_; clear hf; intro a hf
     refine aN hf hS ?_; clear hf; intro a hf
     refine done_l (t_normal (c_seq (c_region ?_)))
     refine mN hf hS ?_; clear hf; intro a hf
     refine sB hf hS (rd_lss hf rfl rfl rfl) ?_ ?_
     ·
      clear hf; intro hc11 a hf
      refine done_l (t_normal ?_)
      refine c_true hf rfl ?_
      refine c_exit ?_
      refine b_exit' (by decide) ?_
      refine t_exit (t_exit (b_exit (t_normal (c_seq (c_region ?_)))))
      iterate 2 ((first | refine mN hf hS ?_ | refine aN hf hS ?_); clear hf; intro a hf)
      refine done_l (t_normal (c_ret ?_))
      refine eT hf ?_
      first | (rw [hrec, hstep, if_pos (by omega)]; exact ⟨rfl, hS⟩) | (rw [hrec, hstep, if_neg (by omega), if_pos (by omega)]; exact ⟨rfl, hS⟩) | (rw [hrec, hstep]; exact ⟨rfl, hS⟩)
     clear hf; intro hc11 a hf
     refine done_l (t_normal ?_)
     refine c_false hf rfl ?_
     refine c_skip (b_normal (t_normal (c_region ?_)))
     refine sP hf hS ?_; clear hf; intro a hf
     refine mN hf hS ?_; clear hf; intro a hf
     refine done_l ?_
     refine t_normal ⟨(i + 1, acc + (bX t).toNat % 128 * 2 ^ (7 * i), bS t), ⟨(((hf.k0.kb hf 7 rfl (by exact int_eq (by omega))).kb hf 3 rfl (by rfl)).kb hf 0 rfl (by rfl)), hS.subA, ⟨by rw [hrec, hstep, if_neg (by omega), if_neg (by omega)], by omega, acc_step (by omega) hacc⟩⟩, by first | omega | (simp only []; omega)⟩
    clear hf; intro hc9 a hf
    iterate 5 ((first | refine kS hf ?_ | refine step_l (st_rd hf (Wn.some hf rfl rfl rfl rfl) (rd_move hf rfl rfl) hS rfl rfl ?_) | refine pF hf hS ?_ | refine step_l (st_rd hf (Wn.some hf rfl rfl rfl rfl) (rd_pick_f hf rfl rfl rfl) hS rfl rfl ?_)); clear hf; intro a hf)
    refine done_l (t_normal ?_)
    refine c_false hf rfl ?_
    refine c_skip (t_normal (c_seq (c_region ?_)))
    iterate 2 (refine mN hf hS ?_; clear hf; intro a hf)
    refine sR hf hS (rd_andNot hf rfl rfl rfl (n8_andNot128 _)) ?_; clear hf; intro a hf
    refine sR hf hS (rd_convInt hf rfl rfl Tryz.underlying5 Tryz.underlying67 (wrap64 (by omega))) ?_; clear hf; intro a hf
    refine mN hf hS ?_; clear hf; intro a hf
    refine sR hf hS (rd_mul hf rfl rfl rfl (by first | exact Go.IntWalk.i64_in _ (by omega) | exact rfl)) ?_; clear hf; intro a hf
    refine sR hf hS (rd_shl hf rfl rfl rfl (by first | decide | omega) (n64_shl (7 * i) (by omega) (by omega) (shl_bound (by omega) (by omega) (by omega)))) ?_; clear hf; intro a hf
    refine sR hf hS (rd_or hf rfl rfl rfl (n64_acc (by omega) (by omega) (by omega) hacc)) ?_; clear hf; intro a hf
    refine aN hf hS ?_; clear hf; intro a hf
    refine done_l (t_normal (c_seq (c_region ?_)))
    refine mN hf hS ?_; clear hf; intro a hf
    refine sB hf hS (rd_lss hf rfl rfl rfl) ?_ ?_
    ·
     clear hf; intro hc12 a hf
     refine done_l (t_normal ?_)
     refine c_true hf rfl ?_
     refine c_exit ?_
     refine b_exit' (by decide) ?_
     refine t_exit (t_exit (b_exit (t_normal (c_seq (c_region ?_)))))
     iterate 2 ((first | refine mN hf hS ?_ | refine aN hf hS ?_); clear hf; intro a hf)
     refine done_l (t_normal (c_ret ?_))
     refine eT hf ?_
     first | (rw [hrec, hstep, if_pos (by omega)]; exact ⟨rfl, hS⟩) | (rw [hrec, hstep, if_neg (by omega), if_pos (by omega)]; exact ⟨rfl, hS⟩) | (rw [hrec, hstep]; exact ⟨rfl, hS⟩)
    clear hf; intro hc12 a hf
    refine done_l (t_normal ?_)
    refine c_false hf rfl ?_
    refine c_skip (b_normal (t_normal (c_region ?_)))
    refine sP hf hS ?_; clear hf; intro a hf
    refine mN hf hS ?_; clear hf; intro a hf
    refine done_l ?_
    refine t_normal ⟨(i + 1, acc + (bX t).toNat % 128 * 2 ^ (7 * i), bS t), ⟨(((hf.k0.kb hf 7 rfl (by exact int_eq (by omega))).kb hf 3 rfl (by rfl)).kb hf 0 rfl (by rfl)), hS.subA, ⟨by rw [hrec, hstep, if_neg (by omega), if_neg (by omega)], by omega, acc_step (by omega) hacc⟩⟩, by first | omega | (simp only []; omega)⟩
   clear hf; intro hc2 a hf
   have hstep := bOk_no (i := i) (acc := acc) hc2
   iterate 2 (refine aN hf hS ?_; clear hf; intro a hf)
   refine done_l (t_normal (c_seq (c_seq (c_region ?_))))
   refine mN hf hS ?_; clear hf; intro a hf
   refine nT hf hS ?_; clear hf; intro a hf
   refine done_l (t_normal ?_)
   refine c_true hf rfl ?_
   refine c_seq (c_region ?_)
   refine aN hf hS ?_; clear hf; intro a hf
   refine done_l (t_normal (c_ret (t_ret (b_ret (t_ret (t_ret (b_ret (t_ret ?_))))))))
   refine eT hf ?_
   first | (rw [hrec, hstep, if_pos (by omega)]; exact ⟨rfl, hS⟩) | (rw [hrec, hstep, if_neg (by omega), if_pos (by omega)]; exact ⟨rfl, hS⟩) | (rw [hrec, hstep]; exact ⟨rfl, hS⟩)
  clear hf; intro hc1 a hf
  exact absurd hc1 (by omega)

theorem RWInt_c (p : Nat) (s : RS)  {W : World} {R : List HP} {w : World} (hS : Sat W (RdP 122 p (s) :: R) w)  : Calls Tryz.prog 78 [.pointer (some ⟨p, 0, none⟩)].toArray w (Ret fun v w' => v = .int .i64 (rInt s).1 ∧ Sat W (RdP 122 p ((rInt s).2) :: R) w') := by
 refine fn_start 14 Tryz.func78 rfl rfl rfl ?_
 intro a hf
 refine c_seq (c_region ?_)
 refine aN hf hS ?_; clear hf; intro a hf
 refine done_l (t_normal (c_seq (c_region ?_)))
 refine mN hf hS ?_; clear hf; intro a hf
 refine step_l (st_call hf (Wn.none rfl) rfl rfl rfl fn96 (RWNum_c _ _ (hS.selA)) rfl rfl ?_)
 clear hf hS; rintro v a w ⟨rfl, hS⟩ hf
 refine aN hf hS ?_; clear hf; intro a hf
 refine done_l (t_normal (c_seq (c_region ?_)))
 refine mN hf hS ?_; clear hf; intro a hf
 refine sR hf hS (rd_shr hf rfl rfl rfl (by first | decide | omega) (n64_shr 1 rfl (by decide))) ?_; clear hf; intro a hf
 refine sR hf hS (rd_convInt hf rfl rfl Tryz.underlying67 Tryz.underlying2 rfl) ?_; clear hf; intro a hf
 refine mN hf hS ?_; clear hf; intro a hf
 refine sR hf hS (rd_and hf rfl rfl rfl (n64_and (q := 1) (rNum_lt s) (by decide))) ?_; clear hf; intro a hf
 refine sR hf hS (rd_convInt hf rfl rfl Tryz.underlying67 Tryz.underlying2 rfl) ?_; clear hf; intro a hf
 refine sR hf hS (rd_neg hf rfl rfl (by first | exact Go.IntWalk.i64_in _ (by omega) | exact rfl)) ?_; clear hf; intro a hf
 refine sR hf hS (rd_xor hf rfl rfl rfl (unzz_val (rNum_lt s))) ?_; clear hf; intro a hf
 refine aN hf hS ?_; clear hf; intro a hf
 refine done_l (t_normal (c_ret ?_))
 refine eT hf ?_
 exact ⟨rfl, hS⟩

theorem RWFlag_c (p : Nat) (s : RS)  {W : World} {R : List HP} {w : World} (hS : Sat W (RdP 122 p (s) :: R) w)  : Calls Tryz.prog 109 [.pointer (some ⟨p, 0, none⟩)].toArray w (Ret fun v w' => v = .bool (rFlag s).1 ∧ Sat W (RdP 122 p ((rFlag s).2) :: R) w') := by
 refine fn_start 19 Tryz.func109 rfl rfl rfl ?_
 intro a hf
 refine c_seq (c_region ?_)
 refine aN hf hS ?_; clear hf; intro a hf
 refine done_l (t_normal (c_seq (c_region ?_)))
 refine mN hf hS ?_; clear hf; intro a hf
 refine step_l (st_call hf (Wn.none rfl) rfl rfl rfl fn108 (RWbyte_c _ _ (hS.selA)) rfl rfl ?_)
 clear hf hS; rintro v a w ⟨rfl, hS⟩ hf
 refine mN hf hS ?_; clear hf; intro a hf
 refine sR hf hS (rd_extract hf rfl rfl rfl) ?_; clear hf; intro a hf
 refine step_l (st_rdb hf (Wn.none rfl) (rd_extract hf rfl rfl rfl) hS rfl rfl ?_ ?_)
 ·
  clear hf; intro hc1 a hf
  have hfl := rFlag_yes hc1
  iterate 2 (refine aN hf hS ?_; clear hf; intro a hf)
  refine done_l (t_normal (c_seq (c_seq (c_region ?_))))
  iterate 3 ((first | refine mN hf hS ?_ | refine step_l (st_rd hf (Wn.some hf rfl rfl rfl rfl) (rd_move hf rfl rfl) hS rfl rfl ?_)); clear hf; intro a hf)
  refine step_l (st_rdB hf (Wn.some hf rfl rfl rfl rfl) (rd_gtr hf rfl rfl rfl) hS rfl rfl ?_ ?_)
  ·
   clear hf; intro hc2 a hf
   refine pT hf hS ?_; clear hf; intro a hf
   refine done_l (t_normal ?_)
   refine c_true hf rfl ?_
   refine c_seq (c_region ?_)
   refine mN hf hS ?_; clear hf; intro a hf
   refine step_l (st_call hf (Wn.none rfl) rfl rfl rfl fn98 (RWfail_c _ _ _ (hS.selA)) rfl rfl ?_)
   clear hf hS; rintro v a w ⟨rfl, hS⟩ hf
   refine done_l (t_normal (c_seq (c_region ?_)))
   refine aN hf hS ?_; clear hf; intro a hf
   refine done_l (t_normal (c_ret (t_ret ?_)))
   refine eT hf ?_
   first | (rw [hfl, if_pos (by omega)]; exact ⟨rfl, hS⟩) | (rw [hfl, if_neg (by omega)]; exact ⟨congrArg Value.bool (decide_eq_decide.2 (by omega)), hS⟩) | (rw [hfl]; exact ⟨congrArg Value.bool (decide_eq_false (by omega)), hS⟩)
  clear hf; intro hc2 a hf
  refine pT hf hS ?_; clear hf; intro a hf
  refine done_l (t_normal ?_)
  refine c_false hf rfl ?_
  refine c_skip (t_normal (c_seq (c_region ?_)))
  refine mN hf hS ?_; clear hf; intro a hf
  refine sR hf hS (rd_eql hf rfl rfl rfl) ?_; clear hf; intro a hf
  refine aN hf hS ?_; clear hf; intro a hf
  refine done_l (t_normal (c_ret ?_))
  refine eT hf ?_
  first | (rw [hfl, if_pos (by omega)]; exact ⟨rfl, hS⟩) | (rw [hfl, if_neg (by omega)]; exact ⟨congrArg Value.bool (decide_eq_decide.2 (by omega)), hS⟩) | (rw [hfl]; exact ⟨congrArg Value.bool (decide_eq_false (by omega)), hS⟩)
 clear hf; intro hc1 a hf
 obtain ⟨hfl, hfx⟩ := rFlag_no hc1
 iterate 2 (refine aN hf hS ?_; clear hf; intro a hf)
 refine done_l (t_normal (c_seq (c_seq (c_region ?_))))
 iterate 5 ((first | refine kS hf ?_ | refine mN hf hS ?_ | refine pF hf hS ?_); clear hf; intro a hf)
 refine done_l (t_normal ?_)
 refine c_false hf rfl ?_
 refine c_skip (t_normal (c_seq (c_region ?_)))
 refine mN hf hS ?_; clear hf; intro a hf
 refine sR hf hS (rd_eql hf rfl rfl rfl) ?_; clear hf; intro a hf
 refine aN hf hS ?_; clear hf; intro a hf
 refine done_l (t_normal (c_ret ?_))
 refine eT hf ?_
 first | (rw [hfl, if_pos (by omega)]; exact ⟨rfl, hS⟩) | (rw [hfl, if_neg (by omega)]; exact ⟨congrArg Value.bool (decide_eq_decide.2 (by omega)), hS⟩) | (rw [hfl]; exact ⟨congrArg Value.bool (decide_eq_false (by omega)), hS⟩)

theorem RWCount_c (p : Nat) (s : RS) (most : Int) {W : World} {R : List HP} {w : World} (hS : Sat W (RdP 122 p (s) :: R) w) (hm : -9223372036854775808 ≤ most ∧ most ≤ 9223372036854775807) : Calls Tryz.prog 80 [.pointer (some ⟨p, 0, none⟩), .int .i64 most].toArray w (Ret fun v w' => v = .int .i64 ((rCount most s).1 : Nat) ∧ Sat W (RdP 122 p ((rCount most s).2) :: R) w') := by
 refine fn_start 24 Tryz.func80 rfl rfl rfl ?_
 intro a hf
 refine c_seq (c_region ?_)
 refine aN hf hS ?_; clear hf; intro a hf
 refine done_l (t_normal (c_seq (c_region ?_)))
 refine mN hf hS ?_; clear hf; intro a hf
 refine step_l (st_call hf (Wn.none rfl) rfl rfl rfl fn96 (RWNum_c _ _ (hS.selA)) rfl rfl ?_)
 clear hf hS; rintro v a w ⟨rfl, hS⟩ hf
 refine aN hf hS ?_; clear hf; intro a hf
 refine done_l (t_normal (c_seq (c_seq (c_region ?_))))
 refine mN hf hS ?_; clear hf; intro a hf
 refine step_l (st_call hf (Wn.none rfl) rfl rfl rfl fn97 (RWok_c _ _ (hS.selA)) rfl rfl ?_)
 clear hf hS; rintro v a w ⟨rfl, hS⟩ hf
 first | refine split_dec (d := 9) hf rfl ?_ ?_ | refine split_bool (d := 9) hf rfl ?_ ?_
 ·
  clear hf; intro hc1 hf
  first
  | (first | exact absurd hc1 (by assumption) | exact absurd (by assumption) hc1 | exact absurd hc1 (by decide) | exact absurd (by decide) hc1; done)
  | (
   iterate 3 ((first | refine mN hf hS ?_ | refine step_l (st_rd hf (Wn.some hf rfl rfl rfl rfl) (rd_move hf rfl rfl) hS rfl rfl ?_)); clear hf; intro a hf)
   refine sG hf hS (rd_max hf rfl rfl rfl) ?_; clear hf; intro a hf
   refine sG hf hS (rd_convInt hf rfl rfl Tryz.underlying3 Tryz.underlying67 (Go.IntWalk.u64_in _ (by omega))) ?_; clear hf; intro a hf
   refine step_l (st_rdB hf (Wn.some hf rfl rfl rfl rfl) (rd_gtr hf rfl rfl rfl) hS rfl rfl ?_ ?_)
   ·
    clear hf; intro hc2 a hf
    first
    | (first | exact absurd hc2 (by assumption) | exact absurd (by assumption) hc2 | exact absurd hc2 (by decide) | exact absurd (by decide) hc2; done)
    | (
     refine pT hf hS ?_; clear hf; intro a hf
     refine done_l (t_normal ?_)
     refine c_true hf rfl ?_
     refine c_region ?_
     refine mN hf hS ?_; clear hf; intro a hf
     refine step_l (st_call hf (Wn.none rfl) rfl rfl rfl fn98 (RWfail_c _ _ _ (hS.selA)) rfl rfl ?_)
     clear hf hS; rintro v a w ⟨rfl, hS⟩ hf
     refine done_l (t_normal (c_seq (c_seq (c_region ?_))))
     refine mN hf hS ?_; clear hf; intro a hf
     refine step_l (st_call hf (Wn.none rfl) rfl rfl rfl fn97 (RWok_c _ _ (hS.selA)) rfl rfl ?_)
     clear hf hS; rintro v a w ⟨rfl, hS⟩ hf
     first | refine split_dec (d := 20) hf rfl ?_ ?_ | refine split_bool (d := 20) hf rfl ?_ ?_
     ·
      clear hf; intro hc3 hf
      first
      | (first | exact absurd hc3 (by assumption) | exact absurd (by assumption) hc3 | exact absurd hc3 (by decide) | exact absurd (by decide) hc3; done)
      | (
       refine nT hf hS ?_; clear hf; intro a hf
       refine done_l (t_normal ?_)
       refine c_false hf rfl ?_
       refine c_skip (t_normal (c_seq (c_region ?_)))
       refine mN hf hS ?_; clear hf; intro a hf
       refine sR hf hS (rd_convInt hf rfl rfl Tryz.underlying67 Tryz.underlying3 (by first | exact Go.IntWalk.i64_in _ (by omega) | exact rfl)) ?_; clear hf; intro a hf
       refine aN hf hS ?_; clear hf; intro a hf
       refine done_l (t_normal (c_ret ?_))
       refine eT hf ?_
       first | (rw [rCount_a (by assumption)]; exact ⟨rfl, hS⟩) | (rw [rCount_b (by assumption) (by omega)]; exact ⟨rfl, hS⟩) | (rw [rCount_c (by assumption) (by omega)]; exact ⟨rfl, hS⟩)
       )
     clear hf; intro hc3 hf
     first
     | (first | exact absurd hc3 (by assumption) | exact absurd (by assumption) hc3 | exact absurd hc3 (by decide) | exact absurd (by decide) hc3; done)
     | (
      refine nT hf hS ?_; clear hf; intro a hf
      refine done_l (t_normal ?_)
      refine c_true hf rfl ?_
      refine c_seq (c_region ?_)
      refine aN hf hS ?_; clear hf; intro a hf
      refine done_l (t_normal (c_ret (t_ret ?_)))
      refine eT hf ?_
      first | (rw [rCount_a (by assumption)]; exact ⟨rfl, hS⟩) | (rw [rCount_b (by assumption) (by omega)]; exact ⟨rfl, hS⟩) | (rw [rCount_c (by assumption) (by omega)]; exact ⟨rfl, hS⟩)
      )
     )
   clear hf; intro hc2 a hf
   first
   | (first | exact absurd hc2 (by assumption) | exact absurd (by assumption) hc2 | exact absurd hc2 (by decide) | exact absurd (by decide) hc2; done)
   | (
    refine pT hf hS ?_; clear hf; intro a hf
    refine done_l (t_normal ?_)
    refine c_false hf rfl ?_
    refine c_skip (t_normal (c_seq (c_seq (c_region ?_))))
    refine mN hf hS ?_; clear hf; intro a hf
    refine step_l (st_call hf (Wn.none rfl) rfl rfl rfl fn97 (RWok_c _ _ (hS.selA)) rfl rfl ?_)
    clear hf hS; rintro v a w ⟨rfl, hS⟩ hf
    first | refine split_dec (d := 20) hf rfl ?_ ?_ | refine split_bool (d := 20) hf rfl ?_ ?_
    ·
     clear hf; intro hc4 hf
     first
     | (first | exact absurd hc4 (by assumption) | exact absurd (by assumption) hc4 | exact absurd hc4 (by decide) | exact absurd (by decide) hc4; done)
     | (
      refine nT hf hS ?_; clear hf; intro a hf
      refine done_l (t_normal ?_)
      refine c_false hf rfl ?_
      refine c_skip (t_normal (c_seq (c_region ?_)))
      refine mN hf hS ?_; clear hf; intro a hf
      refine sR hf hS (rd_convInt hf rfl rfl Tryz.underlying67 Tryz.underlying3 (by first | exact Go.IntWalk.i64_in _ (by omega) | exact rfl)) ?_; clear hf; intro a hf
      refine aN hf hS ?_; clear hf; intro a hf
      refine done_l (t_normal (c_ret ?_))
      refine eT hf ?_
      first | (rw [rCount_a (by assumption)]; exact ⟨rfl, hS⟩) | (rw [rCount_b (by assumption) (by omega)]; exact ⟨rfl, hS⟩) | (rw [rCount_c (by assumption) (by omega)]; exact ⟨rfl, hS⟩)
      )
    clear hf; intro hc4 hf
    first
    | (first | exact absurd hc4 (by assumption) | exact absurd (by assumption) hc4 | exact absurd hc4 (by decide) | exact absurd (by decide) hc4; done)
    | (
     refine nT hf hS ?_; clear hf; intro a hf
     refine done_l (t_normal ?_)
     refine c_true hf rfl ?_
     refine c_seq (c_region ?_)
     refine aN hf hS ?_; clear hf; intro a hf
     refine done_l (t_normal (c_ret (t_ret ?_)))
     refine eT hf ?_
     first | (rw [rCount_a (by assumption)]; exact ⟨rfl, hS⟩) | (rw [rCount_b (by assumption) (by omega)]; exact ⟨rfl, hS⟩) | (rw [rCount_c (by assumption) (by omega)]; exact ⟨rfl, hS⟩)
     )
    )
   )
 clear hf; intro hc1 hf
 first
 | (first | exact absurd hc1 (by assumption) | exact absurd (by assumption) hc1 | exact absurd hc1 (by decide) | exact absurd (by decide) hc1; done)
 | (
  iterate 7 ((first | refine kS hf ?_ | refine mN hf hS ?_ | refine pF hf hS ?_); clear hf; intro a hf)
  refine done_l (t_normal ?_)
  refine c_false hf rfl ?_
  refine c_skip (t_normal (c_seq (c_seq (c_region ?_))))
  refine mN hf hS ?_; clear hf; intro a hf
  refine step_l (st_call hf (Wn.none rfl) rfl rfl rfl fn97 (RWok_c _ _ (hS.selA)) rfl rfl ?_)
  clear hf hS; rintro v a w ⟨rfl, hS⟩ hf
  first | refine split_dec (d := 20) hf rfl ?_ ?_ | refine split_bool (d := 20) hf rfl ?_ ?_
  ·
   clear hf; intro hc5 hf
   first
   | (first | exact absurd hc5 (by assumption) | exact absurd (by assumption) hc5 | exact absurd hc5 (by decide) | exact absurd (by decide) hc5; done)
   | (
    refine nT hf hS ?_; clear hf; intro a hf
    refine done_l (t_normal ?_)
    refine c_false hf rfl ?_
    refine c_skip (t_normal (c_seq (c_region ?_)))
    refine mN hf hS ?_; clear hf; intro a hf
    refine sR hf hS (rd_convInt hf rfl rfl Tryz.underlying67 Tryz.underlying3 (by first | exact Go.IntWalk.i64_in _ (by omega) | exact rfl)) ?_; clear hf; intro a hf
    refine aN hf hS ?_; clear hf; intro a hf
    refine done_l (t_normal (c_ret ?_))
    refine eT hf ?_
    first | (rw [rCount_a (by assumption)]; exact ⟨rfl, hS⟩) | (rw [rCount_b (by assumption) (by omega)]; exact ⟨rfl, hS⟩) | (rw [rCount_c (by assumption) (by omega)]; exact ⟨rfl, hS⟩)
    )
  clear hf; intro hc5 hf
  first
  | (first | exact absurd hc5 (by assumption) | exact absurd (by assumption) hc5 | exact absurd hc5 (by decide) | exact absurd (by decide) hc5; done)
  | (
   refine nT hf hS ?_; clear hf; intro a hf
   refine done_l (t_normal ?_)
   refine c_true hf rfl ?_
   refine c_seq (c_region ?_)
   refine aN hf hS ?_; clear hf; intro a hf
   refine done_l (t_normal (c_ret (t_ret ?_)))
   refine eT hf ?_
   first | (rw [rCount_a (by assumption)]; exact ⟨rfl, hS⟩) | (rw [rCount_b (by assumption) (by omega)]; exact ⟨rfl, hS⟩) | (rw [rCount_c (by assumption) (by omega)]; exact ⟨rfl, hS⟩)
   )
  )

theorem RWText_c (p : Nat) (s : RS) (most : Int) {W : World} {R : List HP} {w : World} (hS : Sat W (RdP 122 p (s) :: R) w) (hm : -9223372036854775808 ≤ most ∧ most ≤ 9223372036854775807) (hb : s.1.length ≤ 140737488355328) : Calls Tryz.prog 79 [.pointer (some ⟨p, 0, none⟩), .int .i64 most].toArray w (Ret fun v w' => ∃ q cap, v = .slice q (rText most s).1.length cap ∧ Sat W (Rw 5 1 q (rText most s).1.length cap (bvs (rText most s).1) :: RdP 122 p (rText most s).2 :: R) w') := by
 refine fn_start 43 Tryz.func79 rfl rfl rfl ?_
 intro a hf
 have hrl := rCount_rest most s
 refine c_seq (c_region ?_)
 refine aN hf hS ?_; clear hf; intro a hf
 refine done_l (t_normal (c_seq (c_region ?_)))
 iterate 2 (refine mN hf hS ?_; clear hf; intro a hf)
 refine step_l (st_call hf (Wn.none rfl) rfl rfl rfl fn80 (RWCount_c _ _ _ (hS.selA) (by first | assumption | exact ⟨by omega, by omega⟩)) rfl rfl ?_)
 clear hf hS; rintro v a w ⟨rfl, hS⟩ hf
 refine aN hf hS ?_; clear hf; intro a hf
 refine done_l (t_normal (c_seq (c_seq (c_region ?_))))
 refine mN hf hS ?_; clear hf; intro a hf
 refine step_l (st_call hf (Wn.none rfl) rfl rfl rfl fn97 (RWok_c _ _ (hS.selA)) rfl rfl ?_)
 clear hf hS; rintro v a w ⟨rfl, hS⟩ hf
 first | refine split_dec (d := 11) hf rfl ?_ ?_ | refine split_bool (d := 11) hf rfl ?_ ?_
 ·
  clear hf; intro hc1 hf
  obtain ⟨q, cap, hcap, hS⟩ := rd_open hS; (try dsimp only at hS hcap)
  first
  | (first | exact absurd hc1 (by assumption) | exact absurd (by assumption) hc1 | exact absurd hc1 (by decide) | exact absurd (by decide) hc1; done)
  | (
   iterate 3 ((first | refine mN hf hS ?_ | refine step_l (st_rd hf (Wn.some hf rfl rfl rfl rfl) (rd_move hf rfl rfl) hS rfl rfl ?_)); clear hf; intro a hf)
   refine sG hf hS (rd_nilCheck hf rfl rfl) ?_; clear hf; intro a hf
   refine fG hf hS fb122_0 ?_; clear hf; intro a hf
   refine sG hf hS (rd_ld hf ag34) ?_; clear hf; intro a hf
   refine sG hf hS (rd_len hf rfl rfl Tryz.underlying34) ?_; clear hf; intro a hf
   refine step_l (st_rdB hf (Wn.some hf rfl rfl rfl rfl) (rd_gtr hf rfl rfl rfl) hS rfl rfl ?_ ?_)
   ·
    clear hf; intro hc2 a hf
    replace hS := rd_shut (s := (rCount most s).2) hS rfl rfl rfl hcap
    first
    | (first | exact absurd hc2 (by assumption) | exact absurd (by assumption) hc2 | exact absurd hc2 (by decide) | exact absurd (by decide) hc2; done)
    | (
     refine pT hf hS ?_; clear hf; intro a hf
     refine done_l (t_normal ?_)
     refine c_true hf rfl ?_
     refine c_region ?_
     refine mN hf hS ?_; clear hf; intro a hf
     refine step_l (st_call hf (Wn.none rfl) rfl rfl rfl fn98 (RWfail_c _ _ _ (hS.selA)) rfl rfl ?_)
     clear hf hS; rintro v a w ⟨rfl, hS⟩ hf
     refine done_l (t_normal (c_seq (c_seq (c_region ?_))))
     refine mN hf hS ?_; clear hf; intro a hf
     refine step_l (st_call hf (Wn.none rfl) rfl rfl rfl fn97 (RWok_c _ _ (hS.selA)) rfl rfl ?_)
     clear hf hS; rintro v a w ⟨rfl, hS⟩ hf
     first | refine split_dec (d := 24) hf rfl ?_ ?_ | refine split_bool (d := 24) hf rfl ?_ ?_
     ·
      clear hf; intro hc3 hf
      obtain ⟨q, cap, hcap, hS⟩ := rd_open hS; (try dsimp only at hS hcap)
      first
      | (first | exact absurd hc3 (by assumption) | exact absurd (by assumption) hc3 | exact absurd hc3 (by decide) | exact absurd (by decide) hc3; done)
      | (
       refine nT hf hS ?_; clear hf; intro a hf
       refine done_l (t_normal ?_)
       refine c_false hf rfl ?_
       refine c_skip (t_normal (c_seq (c_region ?_)))
       refine mN hf hS ?_; clear hf; intro a hf
       refine nC hf hS ?_; clear hf; intro a hf
       refine fA hf hS fb122_0 ?_; clear hf; intro a hf
       refine sR hf hS (rd_ld hf ag34) ?_; clear hf; intro a hf
       refine mN hf hS ?_; clear hf; intro a hf
       refine sR hf hS (rd_sliceH hf rfl rfl rfl Tryz.underlying34 sz5 (by omega) (by omega)) ?_; clear hf; intro a hf
       refine step_l (st_call hf (Wn.none rfl) rfl rfl rfl fn76 (Clone_c ((rCount most s).2.1.take (rCount most s).1) _ _ _ hS (by rw [List.length_take, Int.toNat_natCast]; omega) (by rw [List.length_take]; omega) (fun _ h => (by rw [bvs_take, List.length_take, Nat.min_eq_left (by omega)]; exact (h.vw (by repeat (first | exact Sel.head | apply Sel.tail))).take (by omega)))) rfl rfl ?_)
       clear hf hS; rintro v a w ⟨qc_4, capc_4, rfl, hS⟩ hf
       refine aN hf hS ?_; clear hf; intro a hf
       refine done_l (t_normal (c_seq (c_region ?_)))
       iterate 2 (refine mN hf hS ?_; clear hf; intro a hf)
       refine nC hf hS ?_; clear hf; intro a hf
       refine fA hf hS fb122_0 ?_; clear hf; intro a hf
       refine sR hf hS (rd_ld hf ag34) ?_; clear hf; intro a hf
       refine mN hf hS ?_; clear hf; intro a hf
       refine sR hf hS (rd_sliceL hf rfl rfl rfl Tryz.underlying34 sz5 (by omega) (by omega)) ?_; clear hf; intro a hf
       refine nC hf hS ?_; clear hf; intro a hf
       refine fA hf hS fb122_0 ?_; clear hf; intro a hf
       refine sS hf hS sz34 ?_
       clear hf hS; intro a w hf hS
       refine done_l (t_normal (c_seq (c_region ?_)))
       iterate 2 ((first | refine mN hf hS ?_ | refine aN hf hS ?_); clear hf; intro a hf)
       refine done_l (t_normal (c_ret ?_))
       refine eT hf ?_
       first | (rw [rText_a (by assumption)]; exact ⟨none, 0, rfl, hS.rwNil _ 1⟩) | (rw [rText_b (by assumption) (by omega)]; exact ⟨none, 0, rfl, hS.rwNil _ 1⟩) | (rw [rText_c (by assumption) (by omega)]; exact ⟨_, _, rfl, (rd_shutDrop (bs := (rCount most s).2.1) (hS.sub (.cons .head (.cons (.tail .head) .refl))) rfl (by omega) hcap (by rw [Int.toNat_natCast]; exact Prod.ext rfl (Eq.symm (by assumption)))).sub (.cons (.tail .head) (.cons .head .refl))⟩)
       )
     clear hf; intro hc3 hf
     first
     | (first | exact absurd hc3 (by assumption) | exact absurd (by assumption) hc3 | exact absurd hc3 (by decide) | exact absurd (by decide) hc3; done)
     | (
      refine nT hf hS ?_; clear hf; intro a hf
      refine done_l (t_normal ?_)
      refine c_true hf rfl ?_
      refine c_seq (c_region ?_)
      refine aN hf hS ?_; clear hf; intro a hf
      refine done_l (t_normal (c_ret (t_ret ?_)))
      refine eT hf ?_
      first | (rw [rText_a (by assumption)]; exact ⟨none, 0, rfl, hS.rwNil _ 1⟩) | (rw [rText_b (by assumption) (by omega)]; exact ⟨none, 0, rfl, hS.rwNil _ 1⟩) | (rw [rText_c (by assumption) (by omega)]; exact ⟨_, _, rfl, (rd_shutDrop (bs := (rCount most s).2.1) (hS.sub (.cons .head (.cons (.tail .head) .refl))) rfl (by omega) hcap (by rw [Int.toNat_natCast]; exact Prod.ext rfl (Eq.symm (by assumption)))).sub (.cons (.tail .head) (.cons .head .refl))⟩)
      )
     )
   clear hf; intro hc2 a hf
   replace hS := rd_shut (s := (rCount most s).2) hS rfl rfl rfl hcap
   first
   | (first | exact absurd hc2 (by assumption) | exact absurd (by assumption) hc2 | exact absurd hc2 (by decide) | exact absurd (by decide) hc2; done)
   | (
    refine pT hf hS ?_; clear hf; intro a hf
    refine done_l (t_normal ?_)
    refine c_false hf rfl ?_
    refine c_skip (t_normal (c_seq (c_seq (c_region ?_))))
    refine mN hf hS ?_; clear hf; intro a hf
    refine step_l (st_call hf (Wn.none rfl) rfl rfl rfl fn97 (RWok_c _ _ (hS.selA)) rfl rfl ?_)
    clear hf hS; rintro v a w ⟨rfl, hS⟩ hf
    first | refine split_dec (d := 24) hf rfl ?_ ?_ | refine split_bool (d := 24) hf rfl ?_ ?_
    ·
     clear hf; intro hc5 hf
     obtain ⟨q, cap, hcap, hS⟩ := rd_open hS; (try dsimp only at hS hcap)
     first
     | (first | exact absurd hc5 (by assumption) | exact absurd (by assumption) hc5 | exact absurd hc5 (by decide) | exact absurd (by decide) hc5; done)
     | (
      refine nT hf hS ?_; clear hf; intro a hf
      refine done_l (t_normal ?_)
      refine c_false hf rfl ?_
      refine c_skip (t_normal (c_seq (c_region ?_)))
      refine mN hf hS ?_; clear hf; intro a hf
      refine nC hf hS ?_; clear hf; intro a hf
      refine fA hf hS fb122_0 ?_; clear hf; intro a hf
      refine sR hf hS (rd_ld hf ag34) ?_; clear hf; intro a hf
      refine mN hf hS ?_; clear hf; intro a hf
      refine sR hf hS (rd_sliceH hf rfl rfl rfl Tryz.underlying34 sz5 (by omega) (by omega)) ?_; clear hf; intro a hf
      refine step_l (st_call hf (Wn.none rfl) rfl rfl rfl fn76 (Clone_c ((rCount most s).2.1.take (rCount most s).1) _ _ _ hS (by rw [List.length_take, Int.toNat_natCast]; omega) (by rw [List.length_take]; omega) (fun _ h => (by rw [bvs_take, List.length_take, Nat.min_eq_left (by omega)]; exact (h.vw (by repeat (first | exact Sel.head | apply Sel.tail))).take (by omega)))) rfl rfl ?_)
      clear hf hS; rintro v a w ⟨qc_6, capc_6, rfl, hS⟩ hf
      refine aN hf hS ?_; clear hf; intro a hf
      refine done_l (t_normal (c_seq (c_region ?_)))
      iterate 2 (refine mN hf hS ?_; clear hf; intro a hf)
      refine nC hf hS ?_; clear hf; intro a hf
      refine fA hf hS fb122_0 ?_; clear hf; intro a hf
      refine sR hf hS (rd_ld hf ag34) ?_; clear hf; intro a hf
      refine mN hf hS ?_; clear hf; intro a hf
      refine sR hf hS (rd_sliceL hf rfl rfl rfl Tryz.underlying34 sz5 (by omega) (by omega)) ?_; clear hf; intro a hf
      refine nC hf hS ?_; clear hf; intro a hf
      refine fA hf hS fb122_0 ?_; clear hf; intro a hf
      refine sS hf hS sz34 ?_
      clear hf hS; intro a w hf hS
      refine done_l (t_normal (c_seq (c_region ?_)))
      iterate 2 ((first | refine mN hf hS ?_ | refine aN hf hS ?_); clear hf; intro a hf)
      refine done_l (t_normal (c_ret ?_))
      refine eT hf ?_
      first | (rw [rText_a (by assumption)]; exact ⟨none, 0, rfl, hS.rwNil _ 1⟩) | (rw [rText_b (by assumption) (by omega)]; exact ⟨none, 0, rfl, hS.rwNil _ 1⟩) | (rw [rText_c (by assumption) (by omega)]; exact ⟨_, _, rfl, (rd_shutDrop (bs := (rCount most s).2.1) (hS.sub (.cons .head (.cons (.tail .head) .refl))) rfl (by omega) hcap (by rw [Int.toNat_natCast]; exact Prod.ext rfl (Eq.symm (by assumption)))).sub (.cons (.tail .head) (.cons .head .refl))⟩)
      )
    clear hf; intro hc5 hf
    first
    | (first | exact absurd hc5 (by assumption) | exact absurd (by assumption) hc5 | exact absurd hc5 (by decide) | exact absurd (by decide) hc5; done)
    | (
     refine nT hf hS ?_; clear hf; intro a hf
     refine done_l (t_normal ?_)
     refine c_true hf rfl ?_
     refine c_seq (c_region ?_)
     refine aN hf hS ?_; clear hf; intro a hf
     refine done_l (t_normal (c_ret (t_ret ?_)))
     refine eT hf ?_
     first | (rw [rText_a (by assumption)]; exact ⟨none, 0, rfl, hS.rwNil _ 1⟩) | (rw [rText_b (by assumption) (by omega)]; exact ⟨none, 0, rfl, hS.rwNil _ 1⟩) | (rw [rText_c (by assumption) (by omega)]; exact ⟨_, _, rfl, (rd_shutDrop (bs := (rCount most s).2.1) (hS.sub (.cons .head (.cons (.tail .head) .refl))) rfl (by omega) hcap (by rw [Int.toNat_natCast]; exact Prod.ext rfl (Eq.symm (by assumption)))).sub (.cons (.tail .head) (.cons .head .refl))⟩)
     )
    )
   )
 clear hf; intro hc1 hf
 first
 | (first | exact absurd hc1 (by assumption) | exact absurd (by assumption) hc1 | exact absurd hc1 (by decide) | exact absurd (by decide) hc1; done)
 | (
  iterate 9 ((first | refine kS hf ?_ | refine mN hf hS ?_ | refine pF hf hS ?_); clear hf; intro a hf)
  refine done_l (t_normal ?_)
  refine c_false hf rfl ?_
  refine c_skip (t_normal (c_seq (c_seq (c_region ?_))))
  refine mN hf hS ?_; clear hf; intro a hf
  refine step_l (st_call hf (Wn.none rfl) rfl rfl rfl fn97 (RWok_c _ _ (hS.selA)) rfl rfl ?_)
  clear hf hS; rintro v a w ⟨rfl, hS⟩ hf
  first | refine split_dec (d := 24) hf rfl ?_ ?_ | refine split_bool (d := 24) hf rfl ?_ ?_
  ·
   clear hf; intro hc7 hf
   obtain ⟨q, cap, hcap, hS⟩ := rd_open hS; (try dsimp only at hS hcap)
   first
   | (first | exact absurd hc7 (by assumption) | exact absurd (by assumption) hc7 | exact absurd hc7 (by decide) | exact absurd (by decide) hc7; done)
   | (
    refine nT hf hS ?_; clear hf; intro a hf
    refine done_l (t_normal ?_)
    refine c_false hf rfl ?_
    refine c_skip (t_normal (c_seq (c_region ?_)))
    refine mN hf hS ?_; clear hf; intro a hf
    refine nC hf hS ?_; clear hf; intro a hf
    refine fA hf hS fb122_0 ?_; clear hf; intro a hf
    refine sR hf hS (rd_ld hf ag34) ?_; clear hf; intro a hf
    refine mN hf hS ?_; clear hf; intro a hf
    refine sR hf hS (rd_sliceH hf rfl rfl rfl Tryz.underlying34 sz5 (by omega) (by omega)) ?_; clear hf; intro a hf
    refine step_l (st_call hf (Wn.none rfl) rfl rfl rfl fn76 (Clone_c ((rCount most s).2.1.take (rCount most s).1) _ _ _ hS (by rw [List.length_take, Int.toNat_natCast]; omega) (by rw [List.length_take]; omega) (fun _ h => (by rw [bvs_take, List.length_take, Nat.min_eq_left (by omega)]; exact (h.vw (by repeat (first | exact Sel.head | apply Sel.tail))).take (by omega)))) rfl rfl ?_)
    clear hf hS; rintro v a w ⟨qc_8, capc_8, rfl, hS⟩ hf
    refine aN hf hS ?_; clear hf; intro a hf
    refine done_l (t_normal (c_seq (c_region ?_)))
    iterate 2 (refine mN hf hS ?_; clear hf; intro a hf)
    refine nC hf hS ?_; clear hf; intro a hf
    refine fA hf hS fb122_0 ?_; clear hf; intro a hf
    refine sR hf hS (rd_ld hf ag34) ?_; clear hf; intro a hf
    refine mN hf hS ?_; clear hf; intro a hf
    refine sR hf hS (rd_sliceL hf rfl rfl rfl Tryz.underlying34 sz5 (by omega) (by omega)) ?_; clear hf; intro a hf
    refine nC hf hS ?_; clear hf; intro a hf
    refine fA hf hS fb122_0 ?_; clear hf; intro a hf
    refine sS hf hS sz34 ?_
    clear hf hS; intro a w hf hS
    refine done_l (t_normal (c_seq (c_region ?_)))
    iterate 2 ((first | refine mN hf hS ?_ | refine aN hf hS ?_); clear hf; intro a hf)
    refine done_l (t_normal (c_ret ?_))
    refine eT hf ?_
    first | (rw [rText_a (by assumption)]; exact ⟨none, 0, rfl, hS.rwNil _ 1⟩) | (rw [rText_b (by assumption) (by omega)]; exact ⟨none, 0, rfl, hS.rwNil _ 1⟩) | (rw [rText_c (by assumption) (by omega)]; exact ⟨_, _, rfl, (rd_shutDrop (bs := (rCount most s).2.1) (hS.sub (.cons .head (.cons (.tail .head) .refl))) rfl (by omega) hcap (by rw [Int.toNat_natCast]; exact Prod.ext rfl (Eq.symm (by assumption)))).sub (.cons (.tail .head) (.cons .head .refl))⟩)
    )
  clear hf; intro hc7 hf
  first
  | (first | exact absurd hc7 (by assumption) | exact absurd (by assumption) hc7 | exact absurd hc7 (by decide) | exact absurd (by decide) hc7; done)
  | (
   refine nT hf hS ?_; clear hf; intro a hf
   refine done_l (t_normal ?_)
   refine c_true hf rfl ?_
   refine c_seq (c_region ?_)
   refine aN hf hS ?_; clear hf; intro a hf
   refine done_l (t_normal (c_ret (t_ret ?_)))
   refine eT hf ?_
   first | (rw [rText_a (by assumption)]; exact ⟨none, 0, rfl, hS.rwNil _ 1⟩) | (rw [rText_b (by assumption) (by omega)]; exact ⟨none, 0, rfl, hS.rwNil _ 1⟩) | (rw [rText_c (by assumption) (by omega)]; exact ⟨_, _, rfl, (rd_shutDrop (bs := (rCount most s).2.1) (hS.sub (.cons .head (.cons (.tail .head) .refl))) rfl (by omega) hcap (by rw [Int.toNat_natCast]; exact Prod.ext rfl (Eq.symm (by assumption)))).sub (.cons (.tail .head) (.cons .head .refl))⟩)
   )
  )

theorem RWEnd_c (p : Nat) (s : RS)  {W : World} {R : List HP} {w : World} (hS : Sat W (RdP 122 p (s) :: R) w)  : Calls Tryz.prog 45 [.pointer (some ⟨p, 0, none⟩)].toArray w (Ret fun v w' => v = .int .i64 (rEnd s) ∧ Sat W (RdP 122 p (s) :: R) w') := by
 refine fn_start 24 Tryz.func45 rfl rfl rfl ?_
 intro a hf
 obtain ⟨bs, e⟩ := s; obtain ⟨q, cap, hcap, hS⟩ := rd_open hS; dsimp only at hS hcap
 refine c_seq (c_region ?_)
 refine aN hf hS ?_; clear hf; intro a hf
 refine done_l (t_normal (c_seq (c_block (c_seq (c_region ?_)))))
 refine mN hf hS ?_; clear hf; intro a hf
 refine step_l (st_rdb hf (Wn.none rfl) (rd_eqlNilP hf rfl rfl rfl Tryz.underlying92) hS rfl rfl ?_ ?_)
 ·
  clear hf; intro hc1 a hf
  exact Bool.noConfusion hc1
 clear hf; intro hc1 a hf
 refine aN hf hS ?_; clear hf; intro a hf
 refine done_l (t_normal ?_)
 refine c_false hf rfl ?_
 refine c_seq (c_region ?_)
 refine mN hf hS ?_; clear hf; intro a hf
 refine nC hf hS ?_; clear hf; intro a hf
 refine fA hf hS fb122_1 ?_; clear hf; intro a hf
 refine sR hf hS (rd_ld hf ag35) ?_; clear hf; intro a hf
 refine sB hf hS (rd_eql hf rfl rfl rfl) ?_ ?_
 ·
  clear hf; intro hc2 a hf
  iterate 2 ((first | refine mN hf hS ?_ | refine step_l (st_rd hf (Wn.some hf rfl rfl rfl rfl) (rd_move hf rfl rfl) hS rfl rfl ?_)); clear hf; intro a hf)
  refine sG hf hS (rd_nilCheck hf rfl rfl) ?_; clear hf; intro a hf
  refine fG hf hS fb122_0 ?_; clear hf; intro a hf
  refine sG hf hS (rd_ld hf ag34) ?_; clear hf; intro a hf
  refine sG hf hS (rd_len hf rfl rfl Tryz.underlying34) ?_; clear hf; intro a hf
  refine step_l (st_rdB hf (Wn.some hf rfl rfl rfl rfl) (rd_gtr hf rfl rfl rfl) hS rfl rfl ?_ ?_)
  ·
   clear hf; intro hc3 a hf
   iterate 2 ((first | refine aN hf hS ?_ | refine pT hf hS ?_); clear hf; intro a hf)
   refine done_l (t_normal ?_)
   refine c_true hf rfl ?_
   refine c_seq (c_region ?_)
   refine aN hf hS ?_; clear hf; intro a hf
   refine done_l (t_normal (c_ret (b_ret (t_ret ?_))))
   refine eT hf ?_
   exact ⟨int_eq (by unfold rEnd; dsimp only; omega), rd_shut (s := (bs, e)) hS rfl rfl rfl hcap⟩
  clear hf; intro hc3 a hf
  iterate 2 ((first | refine aN hf hS ?_ | refine pT hf hS ?_); clear hf; intro a hf)
  refine done_l (t_normal ?_)
  refine c_false hf rfl ?_
  refine c_skip (b_normal (t_normal (c_seq (c_region ?_))))
  refine mN hf hS ?_; clear hf; intro a hf
  refine nC hf hS ?_; clear hf; intro a hf
  refine fA hf hS fb122_1 ?_; clear hf; intro a hf
  refine sR hf hS (rd_ld hf ag35) ?_; clear hf; intro a hf
  refine aN hf hS ?_; clear hf; intro a hf
  refine done_l (t_normal (c_ret ?_))
  refine eT hf ?_
  exact ⟨int_eq (by unfold rEnd; dsimp only; omega), rd_shut (s := (bs, e)) hS rfl rfl rfl hcap⟩
 clear hf; intro hc2 a hf
 iterate 9 ((first | refine kS hf ?_ | refine mN hf hS ?_ | refine aN hf hS ?_ | refine pF hf hS ?_); clear hf; intro a hf)
 refine done_l (t_normal ?_)
 refine c_false hf rfl ?_
 refine c_skip (b_normal (t_normal (c_seq (c_region ?_))))
 refine mN hf hS ?_; clear hf; intro a hf
 refine nC hf hS ?_; clear hf; intro a hf
 refine fA hf hS fb122_1 ?_; clear hf; intro a hf
 refine sR hf hS (rd_ld hf ag35) ?_; clear hf; intro a hf
 refine aN hf hS ?_; clear hf; intro a hf
 refine done_l (t_normal (c_ret ?_))
 refine eT hf ?_
 exact ⟨int_eq (by unfold rEnd; dsimp only; omega), rd_shut (s := (bs, e)) hS rfl rfl rfl hcap⟩

end Go.Proofs.YtcflbdpjoanbgaaGreat
