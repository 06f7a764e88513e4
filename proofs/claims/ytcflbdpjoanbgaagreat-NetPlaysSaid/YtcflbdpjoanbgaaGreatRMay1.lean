/-
  Walked: May.
  Conditions: none.
-/
import Derived.Test.YtcflbdpjoanbgaaGreatRVec1
namespace Go.Proofs.YtcflbdpjoanbgaaGreat
open Go Go.Sl
set_option linter.unusedVariables false
set_option linter.unusedSimpArgs false

theorem RSMay_c (s0 s1 s2 s3 s4 s5 s6 s7 : Int) (vs : List ValT) (q : Option Addr) (c : Nat) {W : World} {R : List HP} {w : World} (hS : Sat W (R) w) (hv : ∀ w, Sat W R w → ValsAt w (q, c, vs)) : Calls Tryz.prog 53 [.agg #[.int .i64 s0, .int .i64 s1, .int .i64 s2, .int .i64 s3, .int .i64 s4, .int .i64 s5, .int .i64 s6, .int .i64 s7, .slice q vs.length c]].toArray w (Ret fun v w' => v = .bool (maySib ([s0, s1, s2, s3, s4, s5, s6, s7], vs.map pVal)) ∧ Sat W R w') := by
 refine fn_start 63 Tryz.func53 rfl rfl rfl ?_
 intro a hf
 refine c_seq (c_region ?_)
 refine step_l (st_box hf (Wn.none rfl) hS rfl rfl (by rfl) rfl rfl ?_)
 clear hf hS; intro b_s a w hf hS
 refine aN hf hS ?_; clear hf; intro a hf
 refine done_l (t_normal (c_seq (c_seq (c_region ?_))))
 refine fA hf hS fb56_0 ?_; clear hf; intro a hf
 refine sR hf hS (rd_ldN hf ag53 sz53) ?_; clear hf; intro a hf
 refine step_l (st_call hf (Wn.none rfl) rfl rfl rfl fn54 (RVMay_c _ _ _ _ _ _ _ _ hS) rfl rfl ?_)
 clear hf hS; rintro v a w ⟨rfl, hS⟩ hf
 first | refine split_dec (d := 7) hf rfl ?_ ?_ | refine split_bool (d := 7) hf rfl ?_ ?_
 ·
  clear hf; intro hc2 hf
  have hVC := hc2
  refine nT hf hS ?_; clear hf; intro a hf
  refine mN hf hS ?_; clear hf; intro a hf
  refine fG hf hS fb56_1 ?_; clear hf; intro a hf
  refine sG hf hS (rd_ld hf ag54) ?_; clear hf; intro a hf
  refine sG hf hS (rd_len hf rfl rfl Tryz.underlying54) ?_; clear hf; intro a hf
  refine step_l (st_rdB hf (Wn.some hf rfl rfl rfl rfl) (rd_gtr hf rfl rfl rfl) hS rfl rfl ?_ ?_)
  ·
   clear hf; intro hc3 a hf
   refine pF hf hS ?_; clear hf; intro a hf
   refine done_l (t_normal ?_)
   refine c_true hf rfl ?_
   refine c_seq (c_region ?_)
   refine aN hf hS ?_; clear hf; intro a hf
   refine done_l (t_normal (c_ret (t_ret ?_)))
   refine eT hf ?_
   refine ⟨congrArg Value.bool ?_, hS.subA⟩
   clear hf hS
   first | exact (maySib_no1 hVC).symm | exact (maySib_no2 (by rw [List.length_map]; omega)).symm | exact (maySib_no3 (by omega) (okAt_f1 hget hCV)).symm | exact (maySib_no3 (by omega) (okAt_f2 hget hgy hLS)).symm | exact (maySib_no3 (by omega) (okAt_f0 hget (okV_f1 (d := (dn, dc)) (bs := bs) (b := dead) (by omega)))).symm | exact (maySib_no3 (by omega) (okAt_f0 hget (okV_f2 (d := (dn, dc)) (bs := bs) (by omega)))).symm | exact (maySib_yes hVC (by omega) hok).symm
  clear hf; intro hc3 a hf
  refine pF hf hS ?_; clear hf; intro a hf
  refine done_l (t_normal ?_)
  refine c_false hf rfl ?_
  refine c_skip (t_normal (c_seq (c_seq (c_region ?_))))
  refine fA hf hS fb56_1 ?_; clear hf; intro a hf
  refine sR hf hS (rd_ld hf ag54) ?_; clear hf; intro a hf
  refine sR hf hS (rd_len hf rfl rfl Tryz.underlying54) ?_; clear hf; intro a hf
  refine mN hf hS ?_; clear hf; intro a hf
  refine done_l (t_normal (c_block ?_))
  have hk0 := Keep.ofA hf [(2, 4), (18, 62)]
  refine c_loopK hk0 (α := Nat) (fun k => [(18, .int .i64 (k : Nat))]) (fun k w => Sat W (Blk b_s [.int .i64 s0, .int .i64 s1, .int .i64 s2, .int .i64 s3, .int .i64 s4, .int .i64 s5, .int .i64 s6, .int .i64 s7, .slice q vs.length c] 56 :: R) w ∧ k ≤ vs.length ∧ rall k (okAt [s0, s1, s2, s3, s4, s5, s6, s7] (vs.map pVal)) = true) (fun k => vs.length - k) 0 ((hf.keep hk0).kb hf 18 rfl (by first | rfl | exact int_eq (by omega))) ⟨hS.subA, ⟨by omega, rfl⟩⟩ ?_
  clear hf hS; rintro k a w hf ⟨hS, ⟨hk, hok⟩⟩; (try dsimp only [List.cons_append, List.nil_append] at hf)
  refine c_seq (c_region ?_)
  refine sB hf hS (rd_lss hf rfl rfl rfl) ?_ ?_
  ·
   clear hf; intro hc4 a hf
   obtain ⟨x, hget⟩ := get_of_lt (l := vs) (k := k) (by omega) rfl; obtain ⟨ad, rfl⟩ := (hv _ (hS.subA)).some (by omega); obtain ⟨⟨dn, dc, _⟩, ⟨xq, xc, bs⟩, dead, _⟩ := x
   refine done_l (t_normal (c_seq ?_))
   refine c_true hf rfl ?_
   refine c_skip (t_normal (c_seq (c_block (c_seq (c_region ?_)))))
   refine mN hf hS ?_; clear hf; intro a hf
   refine sR hf hS ((by first | exact rd_indexAddrN hf rfl rfl rfl Tryz.underlying54 sz107 (by omega) | exact rd_indexAddr hf rfl rfl rfl Tryz.underlying54 sz107 (by first | decide | omega) (by omega))) ?_; clear hf; intro a hf
   refine sR hf hS (rd_loadN hf rfl rfl ag107 sz107 (by intro _ h; exact (show AggAt _ _ _ [.int .i64 dn, .int .i64 dc, .slice xq bs.length xc, .bool dead] from (hv _ (h.subA)).el hget))) ?_; clear hf; intro a hf
   refine sA hf hS zr107 ?_
   clear hf hS; intro b_v a w hf hS
   refine aN hf hS ?_; clear hf; intro a hf
   refine sS hf hS sz107 ?_
   clear hf hS; intro a w hf hS
   refine done_l (t_normal (c_seq ?_))
   refine any_begin mixed hS.drew ?_
   replace hS := hS.drew
   have hT := hS
   refine any_takeA (i := 0) hf rfl (Wn.none rfl) ((by first | exact rd_fieldAddrB hf rfl rfl fb56_0 rfl | exact rd_fieldAddr hf rfl rfl fb56_0)) hT rfl rfl ?_; clear hf; intro a hf
   refine any_takeA (i := 1) hf rfl (Wn.none rfl) (rd_ldN hf ag53 sz53) hT rfl rfl ?_; clear hf; intro a hf
   refine any_takeA (i := 2) hf rfl (Wn.none rfl) ((by first | exact rd_fieldAddrB hf rfl rfl fb107_0 rfl | exact rd_fieldAddr hf rfl rfl fb107_0)) hT rfl rfl ?_; clear hf; intro a hf
   refine any_takeA (i := 3) hf rfl (Wn.none rfl) (rd_ldN hf ag87 sz87) hT rfl rfl ?_; clear hf; intro a hf
   refine any_one (i := 4) rfl (by kernel_rfl) (st_call hf (Wn.none rfl) rfl rfl rfl fn55 (RVCov_c _ _ _ _ _ _ _ _ _ _ hS) rfl rfl ?_)
   clear hf hS; rintro v a w ⟨rfl, hS⟩ hf
   replace hT := hS.subA' hT
   refine ⟨hT, ?_⟩
   first | refine split_dec (d := 27) hf rfl ?_ ?_ | refine split_bool (d := 27) hf rfl ?_ ?_
   ·
    clear hf; intro hc6 hf
    have hCV : covers [s0, s1, s2, s3, s4, s5, s6, s7] (dn, dc) = true := by first | exact hc6 | exact decide_eq_true hc6
    refine any_takeA (i := 5) hf rfl (Wn.none rfl) (rd_not hf rfl rfl) hT rfl rfl ?_; clear hf; intro a hf
    refine any_takeA (i := 6) hf rfl (Wn.none rfl) (rd_move hf rfl rfl) hT rfl rfl ?_; clear hf; intro a hf
    refine any_takeA (i := 7) hf rfl (Wn.some hf rfl rfl rfl rfl) (rd_move hf rfl rfl) hT rfl rfl ?_; clear hf; intro a hf
    refine any_takeB (i := 8) hf rfl (by kernel_rfl) (by kernel_rfl) (by kernel_rfl) (fun _ _ _ _ h => h) (Wn.some hf rfl rfl rfl rfl) (rd_gtr hf rfl rfl rfl) hT rfl rfl ?_ ?_
    ·
     clear hf; intro hc7 a hf
     obtain ⟨j, rfl⟩ : ∃ j, k = j + 1 := ⟨k - 1, by omega⟩; obtain ⟨y, hgy⟩ := get_of_lt (l := vs) (k := j) (by omega) rfl; obtain ⟨⟨en, ec, _⟩, ⟨yq, yc, cs⟩, edead, _⟩ := y
     refine any_takeA (i := 9) hf rfl (Wn.some hf rfl rfl rfl rfl) (rd_move hf rfl rfl) hT rfl rfl ?_; clear hf; intro a hf
     refine any_takeA (i := 10) hf rfl (Wn.some hf rfl rfl rfl rfl) ((by first | exact rd_fieldAddrB hf rfl rfl fb56_1 rfl | exact rd_fieldAddr hf rfl rfl fb56_1)) hT rfl rfl ?_; clear hf; intro a hf
     refine any_takeA (i := 11) hf rfl (Wn.some hf rfl rfl rfl rfl) (rd_ld hf ag54) hT rfl rfl ?_; clear hf; intro a hf
     refine any_takeA (i := 12) hf rfl (Wn.some hf rfl rfl rfl rfl) (rd_move hf rfl rfl) hT rfl rfl ?_; clear hf; intro a hf
     refine any_takeA (i := 13) hf rfl (Wn.some hf rfl rfl rfl rfl) (rd_sub hf rfl rfl rfl (wrap_pred j (by omega))) hT rfl rfl ?_; clear hf; intro a hf
     refine any_takeA (i := 14) hf rfl (Wn.some hf rfl rfl rfl rfl) ((by first | exact rd_indexAddrN hf rfl rfl rfl Tryz.underlying54 sz107 (by omega) | exact rd_indexAddr hf rfl rfl rfl Tryz.underlying54 sz107 (by first | decide | omega) (by omega))) hT rfl rfl ?_; clear hf; intro a hf
     refine any_takeA (i := 15) hf rfl (Wn.some hf rfl rfl rfl rfl) ((by first | exact rd_fieldAddrB hf rfl rfl fb107_0 rfl | exact rd_fieldAddr hf rfl rfl fb107_0)) hT rfl rfl ?_; clear hf; intro a hf
     refine any_takeA (i := 16) hf rfl (Wn.some hf rfl rfl rfl rfl) (rd_loadN hf rfl rfl ag87 sz87 (by intro _ h; exact ((show AggAt _ _ _ [.int .i64 en, .int .i64 ec, .slice yq cs.length yc, .bool edead] from (hv _ (h.subA)).el hgy).part (k := 0) (m := 2) rfl (by decide)))) hT rfl rfl ?_; clear hf; intro a hf
     refine any_takeA (i := 17) hf rfl (Wn.some hf rfl rfl rfl rfl) ((by first | exact rd_fieldAddrB hf rfl rfl fb107_0 rfl | exact rd_fieldAddr hf rfl rfl fb107_0)) hT rfl rfl ?_; clear hf; intro a hf
     refine any_takeA (i := 18) hf rfl (Wn.some hf rfl rfl rfl rfl) (rd_ldN hf ag87 sz87) hT rfl rfl ?_; clear hf; intro a hf
     refine any_one (i := 19) rfl (by kernel_rfl) (st_call hf (Wn.some hf rfl rfl rfl rfl) rfl rfl rfl fn56 (RLess_c _ _ _ _ hS) rfl rfl ?_)
     clear hf hS; rintro v a w ⟨rfl, hS⟩ hf
     replace hT := hS.subA' hT
     refine ⟨hT, ?_⟩
     first | refine split_dec (d := 42) hf rfl ?_ ?_ | refine split_bool (d := 42) hf rfl ?_ ?_
     ·
      clear hf; intro hc8 hf
      have hLS : dless (en, ec) (dn, dc) = true := by first | exact hc8 | exact decide_eq_true hc8
      refine any_takeA (i := 20) hf rfl (Wn.some hf rfl rfl rfl rfl) (rd_not hf rfl rfl) hT rfl rfl ?_; clear hf; intro a hf
      refine any_takeA (i := 21) hf rfl (Wn.some hf rfl rfl rfl rfl) (rd_pick_t hf rfl rfl rfl) hT rfl rfl ?_; clear hf; intro a hf
      refine any_takeA (i := 22) hf rfl (Wn.none rfl) (rd_pick_f hf rfl rfl rfl) hT rfl rfl ?_; clear hf; intro a hf
      refine any_takeA (i := 23) hf rfl (Wn.none rfl) (rd_move hf rfl rfl) hT rfl rfl ?_; clear hf; intro a hf
      refine any_takeA (i := 24) hf rfl (Wn.some hf rfl rfl rfl rfl) ((by first | exact rd_fieldAddrB hf rfl rfl fb107_1 rfl | exact rd_fieldAddr hf rfl rfl fb107_1)) hT rfl rfl ?_; clear hf; intro a hf
      refine any_takeA (i := 25) hf rfl (Wn.some hf rfl rfl rfl rfl) (rd_ld hf ag34) hT rfl rfl ?_; clear hf; intro a hf
      refine any_takeA (i := 26) hf rfl (Wn.some hf rfl rfl rfl rfl) (rd_len hf rfl rfl Tryz.underlying34) hT rfl rfl ?_; clear hf; intro a hf
      refine any_takeB (i := 27) hf rfl (by kernel_rfl) (by kernel_rfl) (by kernel_rfl) (fun _ _ _ _ h => h) (Wn.some hf rfl rfl rfl rfl) (rd_gtr hf rfl rfl rfl) hT rfl rfl ?_ ?_
      ·
       clear hf; intro hc9 a hf
       refine any_takeA (i := 28) hf rfl (Wn.none rfl) (rd_pick_f hf rfl rfl rfl) hT rfl rfl ?_; clear hf; intro a hf
       refine any_takeA (i := 29) hf rfl (Wn.none rfl) (rd_move hf rfl rfl) hT rfl rfl ?_; clear hf; intro a hf
       refine yS (i := 30) hf hT ?_; clear hf; intro a hf
       refine yS (i := 31) hf hT ?_; clear hf; intro a hf
       refine yS (i := 32) hf hT ?_; clear hf; intro a hf
       refine any_skipA (i := 33) hf rfl (Wn.undef hf rfl rfl rfl) hT rfl rfl ?_; clear hf; intro a hf
       refine any_skipA (i := 34) hf rfl (Wn.undef hf rfl rfl rfl) hT rfl rfl ?_; clear hf; intro a hf
       refine any_skipA (i := 35) hf rfl (Wn.undef hf rfl rfl rfl) hT rfl rfl ?_; clear hf; intro a hf
       refine any_skipA (i := 36) hf rfl (Wn.undef hf rfl rfl rfl) hT rfl rfl ?_; clear hf; intro a hf
       refine yS (i := 37) hf hT ?_; clear hf; intro a hf
       refine any_takeA (i := 38) hf rfl (Wn.none rfl) (rd_pick_t hf rfl rfl rfl) hT rfl rfl ?_; clear hf; intro a hf
       refine any_done (by kernel_rfl) ?_
       refine t_normal ?_
       refine c_true hf rfl ?_
       refine c_seq (c_region ?_)
       refine aN hf hS ?_; clear hf; intro a hf
       refine done_l (t_normal (c_ret (b_ret (t_ret (t_ret (b_ret (t_ret ?_)))))))
       refine eT hf ?_
       refine ⟨congrArg Value.bool ?_, hS.subA⟩
       clear hf hS
       first | exact (maySib_no1 hVC).symm | exact (maySib_no2 (by rw [List.length_map]; omega)).symm | exact (maySib_no3 (by omega) (okAt_f1 hget hCV)).symm | exact (maySib_no3 (by omega) (okAt_f2 hget hgy hLS)).symm | exact (maySib_no3 (by omega) (okAt_f0 hget (okV_f1 (d := (dn, dc)) (bs := bs) (b := dead) (by omega)))).symm | exact (maySib_no3 (by omega) (okAt_f0 hget (okV_f2 (d := (dn, dc)) (bs := bs) (by omega)))).symm | exact (maySib_yes hVC (by omega) hok).symm
      clear hf; intro hc9 a hf
      refine any_takeA (i := 28) hf rfl (Wn.none rfl) (rd_pick_f hf rfl rfl rfl) hT rfl rfl ?_; clear hf; intro a hf
      refine any_takeA (i := 29) hf rfl (Wn.none rfl) (rd_move hf rfl rfl) hT rfl rfl ?_; clear hf; intro a hf
      refine any_takeA (i := 30) hf rfl (Wn.some hf rfl rfl rfl rfl) ((by first | exact rd_fieldAddrB hf rfl rfl fb107_2 rfl | exact rd_fieldAddr hf rfl rfl fb107_2)) hT rfl rfl ?_; clear hf; intro a hf
      refine any_takeb (i := 31) hf rfl (by kernel_rfl) (by kernel_rfl) (by kernel_rfl) (fun _ _ _ _ h => h) (Wn.some hf rfl rfl rfl rfl) (rd_ld hf ag4) hT rfl rfl ?_ ?_
      ·
       clear hf; intro hc10 a hf
       subst hc10
       refine any_takeA (i := 32) hf rfl (Wn.some hf rfl rfl rfl rfl) (rd_move hf rfl rfl) hT rfl rfl ?_; clear hf; intro a hf
       refine any_takeA (i := 33) hf rfl (Wn.some hf rfl rfl rfl rfl) ((by first | exact rd_fieldAddrB hf rfl rfl fb107_1 rfl | exact rd_fieldAddr hf rfl rfl fb107_1)) hT rfl rfl ?_; clear hf; intro a hf
       refine any_takeA (i := 34) hf rfl (Wn.some hf rfl rfl rfl rfl) (rd_ld hf ag34) hT rfl rfl ?_; clear hf; intro a hf
       refine any_takeA (i := 35) hf rfl (Wn.some hf rfl rfl rfl rfl) (rd_len hf rfl rfl Tryz.underlying34) hT rfl rfl ?_; clear hf; intro a hf
       refine any_takeB (i := 36) hf rfl (by kernel_rfl) (by kernel_rfl) (by kernel_rfl) (fun _ _ _ _ h => h) (Wn.some hf rfl rfl rfl rfl) (rd_gtr hf rfl rfl rfl) hT rfl rfl ?_ ?_
       ·
        clear hf; intro hc11 a hf
        refine any_takeA (i := 37) hf rfl (Wn.some hf rfl rfl rfl rfl) (rd_pick_t hf rfl rfl rfl) hT rfl rfl ?_; clear hf; intro a hf
        refine any_takeA (i := 38) hf rfl (Wn.none rfl) (rd_pick_f hf rfl rfl rfl) hT rfl rfl ?_; clear hf; intro a hf
        refine any_done (by kernel_rfl) ?_
        refine t_normal ?_
        refine c_true hf rfl ?_
        refine c_seq (c_region ?_)
        refine aN hf hS ?_; clear hf; intro a hf
        refine done_l (t_normal (c_ret (b_ret (t_ret (t_ret (b_ret (t_ret ?_)))))))
        refine eT hf ?_
        refine ⟨congrArg Value.bool ?_, hS.subA⟩
        clear hf hS
        first | exact (maySib_no1 hVC).symm | exact (maySib_no2 (by rw [List.length_map]; omega)).symm | exact (maySib_no3 (by omega) (okAt_f1 hget hCV)).symm | exact (maySib_no3 (by omega) (okAt_f2 hget hgy hLS)).symm | exact (maySib_no3 (by omega) (okAt_f0 hget (okV_f1 (d := (dn, dc)) (bs := bs) (b := dead) (by omega)))).symm | exact (maySib_no3 (by omega) (okAt_f0 hget (okV_f2 (d := (dn, dc)) (bs := bs) (by omega)))).symm | exact (maySib_yes hVC (by omega) hok).symm
       clear hf; intro hc11 a hf
       refine any_takeA (i := 37) hf rfl (Wn.some hf rfl rfl rfl rfl) (rd_pick_t hf rfl rfl rfl) hT rfl rfl ?_; clear hf; intro a hf
       refine any_takeA (i := 38) hf rfl (Wn.none rfl) (rd_pick_f hf rfl rfl rfl) hT rfl rfl ?_; clear hf; intro a hf
       refine any_done (by kernel_rfl) ?_
       refine t_normal ?_
       refine c_false hf rfl ?_
       refine c_skip (b_normal (t_normal (c_region ?_)))
       refine sP hf hS ?_; clear hf; intro a hf
       refine mN hf hS ?_; clear hf; intro a hf
       refine done_l ?_
       refine t_normal ⟨j + 1 + 1, ((hf.backA hk0).kb hf 18 rfl (by first | rfl | exact int_eq (by omega))), ⟨hS.subA, ⟨by omega, by first | exact rall_step hok (okAt_ts hget hgy (okV_t (d := (dn, dc)) (bs := bs) (b := true) (by omega) (by first | (intro h; exact Bool.noConfusion h) | (intro _; omega))) hCV hLS) | exact rall_step hok (okAt_t0 hget (okV_t (d := (dn, dc)) (bs := bs) (b := true) (by omega) (by first | (intro h; exact Bool.noConfusion h) | (intro _; omega))) hCV) | exact rall_step hok (okAt_ts hget hgy (okV_t (d := (dn, dc)) (bs := bs) (b := false) (by omega) (by first | (intro h; exact Bool.noConfusion h) | (intro _; omega))) hCV hLS) | exact rall_step hok (okAt_t0 hget (okV_t (d := (dn, dc)) (bs := bs) (b := false) (by omega) (by first | (intro h; exact Bool.noConfusion h) | (intro _; omega))) hCV)⟩⟩, by first | omega | (simp only []; omega)⟩
      clear hf; intro hc10 a hf
      subst hc10
      refine any_takeA (i := 32) hf rfl (Wn.some hf rfl rfl rfl rfl) (rd_move hf rfl rfl) hT rfl rfl ?_; clear hf; intro a hf
      refine yS (i := 33) hf hT ?_; clear hf; intro a hf
      refine yS (i := 34) hf hT ?_; clear hf; intro a hf
      refine yS (i := 35) hf hT ?_; clear hf; intro a hf
      refine yS (i := 36) hf hT ?_; clear hf; intro a hf
      refine any_takeA (i := 37) hf rfl (Wn.some hf rfl rfl rfl rfl) (rd_pick_f hf rfl rfl rfl) hT rfl rfl ?_; clear hf; intro a hf
      refine any_takeA (i := 38) hf rfl (Wn.none rfl) (rd_pick_f hf rfl rfl rfl) hT rfl rfl ?_; clear hf; intro a hf
      refine any_done (by kernel_rfl) ?_
      refine t_normal ?_
      refine c_false hf rfl ?_
      refine c_skip (b_normal (t_normal (c_region ?_)))
      refine sP hf hS ?_; clear hf; intro a hf
      refine mN hf hS ?_; clear hf; intro a hf
      refine done_l ?_
      refine t_normal ⟨j + 1 + 1, ((hf.backA hk0).kb hf 18 rfl (by first | rfl | exact int_eq (by omega))), ⟨hS.subA, ⟨by omega, by first | exact rall_step hok (okAt_ts hget hgy (okV_t (d := (dn, dc)) (bs := bs) (b := true) (by omega) (by first | (intro h; exact Bool.noConfusion h) | (intro _; omega))) hCV hLS) | exact rall_step hok (okAt_t0 hget (okV_t (d := (dn, dc)) (bs := bs) (b := true) (by omega) (by first | (intro h; exact Bool.noConfusion h) | (intro _; omega))) hCV) | exact rall_step hok (okAt_ts hget hgy (okV_t (d := (dn, dc)) (bs := bs) (b := false) (by omega) (by first | (intro h; exact Bool.noConfusion h) | (intro _; omega))) hCV hLS) | exact rall_step hok (okAt_t0 hget (okV_t (d := (dn, dc)) (bs := bs) (b := false) (by omega) (by first | (intro h; exact Bool.noConfusion h) | (intro _; omega))) hCV)⟩⟩, by first | omega | (simp only []; omega)⟩
     clear hf; intro hc8 hf
     have hLS : dless (en, ec) (dn, dc) = false := by first | exact hc8 | exact decide_eq_false hc8
     refine any_takeA (i := 20) hf rfl (Wn.some hf rfl rfl rfl rfl) (rd_not hf rfl rfl) hT rfl rfl ?_; clear hf; intro a hf
     refine any_takeA (i := 21) hf rfl (Wn.some hf rfl rfl rfl rfl) (rd_pick_t hf rfl rfl rfl) hT rfl rfl ?_; clear hf; intro a hf
     refine any_takeA (i := 22) hf rfl (Wn.none rfl) (rd_pick_f hf rfl rfl rfl) hT rfl rfl ?_; clear hf; intro a hf
     refine any_takeA (i := 23) hf rfl (Wn.none rfl) (rd_move hf rfl rfl) hT rfl rfl ?_; clear hf; intro a hf
     refine yS (i := 24) hf hT ?_; clear hf; intro a hf
     refine yS (i := 25) hf hT ?_; clear hf; intro a hf
     refine yS (i := 26) hf hT ?_; clear hf; intro a hf
     refine yS (i := 27) hf hT ?_; clear hf; intro a hf
     refine any_takeA (i := 28) hf rfl (Wn.none rfl) (rd_pick_t hf rfl rfl rfl) hT rfl rfl ?_; clear hf; intro a hf
     refine any_takeA (i := 29) hf rfl (Wn.none rfl) (rd_move hf rfl rfl) hT rfl rfl ?_; clear hf; intro a hf
     refine yS (i := 30) hf hT ?_; clear hf; intro a hf
     refine yS (i := 31) hf hT ?_; clear hf; intro a hf
     refine yS (i := 32) hf hT ?_; clear hf; intro a hf
     refine any_skipA (i := 33) hf rfl (Wn.undef hf rfl rfl rfl) hT rfl rfl ?_; clear hf; intro a hf
     refine any_skipA (i := 34) hf rfl (Wn.undef hf rfl rfl rfl) hT rfl rfl ?_; clear hf; intro a hf
     refine any_skipA (i := 35) hf rfl (Wn.undef hf rfl rfl rfl) hT rfl rfl ?_; clear hf; intro a hf
     refine any_skipA (i := 36) hf rfl (Wn.undef hf rfl rfl rfl) hT rfl rfl ?_; clear hf; intro a hf
     refine yS (i := 37) hf hT ?_; clear hf; intro a hf
     refine any_takeA (i := 38) hf rfl (Wn.none rfl) (rd_pick_t hf rfl rfl rfl) hT rfl rfl ?_; clear hf; intro a hf
     refine any_done (by kernel_rfl) ?_
     refine t_normal ?_
     refine c_true hf rfl ?_
     refine c_seq (c_region ?_)
     refine aN hf hS ?_; clear hf; intro a hf
     refine done_l (t_normal (c_ret (b_ret (t_ret (t_ret (b_ret (t_ret ?_)))))))
     refine eT hf ?_
     refine ⟨congrArg Value.bool ?_, hS.subA⟩
     clear hf hS
     first | exact (maySib_no1 hVC).symm | exact (maySib_no2 (by rw [List.length_map]; omega)).symm | exact (maySib_no3 (by omega) (okAt_f1 hget hCV)).symm | exact (maySib_no3 (by omega) (okAt_f2 hget hgy hLS)).symm | exact (maySib_no3 (by omega) (okAt_f0 hget (okV_f1 (d := (dn, dc)) (bs := bs) (b := dead) (by omega)))).symm | exact (maySib_no3 (by omega) (okAt_f0 hget (okV_f2 (d := (dn, dc)) (bs := bs) (by omega)))).symm | exact (maySib_yes hVC (by omega) hok).symm
    clear hf; intro hc7 a hf
    obtain rfl : k = 0 := by omega
    refine any_takeA (i := 9) hf rfl (Wn.some hf rfl rfl rfl rfl) (rd_move hf rfl rfl) hT rfl rfl ?_; clear hf; intro a hf
    refine yS (i := 10) hf hT ?_; clear hf; intro a hf
    refine yS (i := 11) hf hT ?_; clear hf; intro a hf
    refine yS (i := 12) hf hT ?_; clear hf; intro a hf
    refine yS (i := 13) hf hT ?_; clear hf; intro a hf
    refine yS (i := 14) hf hT ?_; clear hf; intro a hf
    refine yS (i := 15) hf hT ?_; clear hf; intro a hf
    refine yS (i := 16) hf hT ?_; clear hf; intro a hf
    refine yS (i := 17) hf hT ?_; clear hf; intro a hf
    refine yS (i := 18) hf hT ?_; clear hf; intro a hf
    refine yS (i := 19) hf hT ?_; clear hf; intro a hf
    refine yS (i := 20) hf hT ?_; clear hf; intro a hf
    refine any_takeA (i := 21) hf rfl (Wn.some hf rfl rfl rfl rfl) (rd_pick_f hf rfl rfl rfl) hT rfl rfl ?_; clear hf; intro a hf
    refine any_takeA (i := 22) hf rfl (Wn.none rfl) (rd_pick_f hf rfl rfl rfl) hT rfl rfl ?_; clear hf; intro a hf
    refine any_takeA (i := 23) hf rfl (Wn.none rfl) (rd_move hf rfl rfl) hT rfl rfl ?_; clear hf; intro a hf
    refine any_takeA (i := 24) hf rfl (Wn.some hf rfl rfl rfl rfl) ((by first | exact rd_fieldAddrB hf rfl rfl fb107_1 rfl | exact rd_fieldAddr hf rfl rfl fb107_1)) hT rfl rfl ?_; clear hf; intro a hf
    refine any_takeA (i := 25) hf rfl (Wn.some hf rfl rfl rfl rfl) (rd_ld hf ag34) hT rfl rfl ?_; clear hf; intro a hf
    refine any_takeA (i := 26) hf rfl (Wn.some hf rfl rfl rfl rfl) (rd_len hf rfl rfl Tryz.underlying34) hT rfl rfl ?_; clear hf; intro a hf
    refine any_takeB (i := 27) hf rfl (by kernel_rfl) (by kernel_rfl) (by kernel_rfl) (fun _ _ _ _ h => h) (Wn.some hf rfl rfl rfl rfl) (rd_gtr hf rfl rfl rfl) hT rfl rfl ?_ ?_
    ·
     clear hf; intro hc12 a hf
     refine any_takeA (i := 28) hf rfl (Wn.none rfl) (rd_pick_f hf rfl rfl rfl) hT rfl rfl ?_; clear hf; intro a hf
     refine any_takeA (i := 29) hf rfl (Wn.none rfl) (rd_move hf rfl rfl) hT rfl rfl ?_; clear hf; intro a hf
     refine yS (i := 30) hf hT ?_; clear hf; intro a hf
     refine yS (i := 31) hf hT ?_; clear hf; intro a hf
     refine yS (i := 32) hf hT ?_; clear hf; intro a hf
     refine any_skipA (i := 33) hf rfl (Wn.undef hf rfl rfl rfl) hT rfl rfl ?_; clear hf; intro a hf
     refine any_skipA (i := 34) hf rfl (Wn.undef hf rfl rfl rfl) hT rfl rfl ?_; clear hf; intro a hf
     refine any_skipA (i := 35) hf rfl (Wn.undef hf rfl rfl rfl) hT rfl rfl ?_; clear hf; intro a hf
     refine any_skipA (i := 36) hf rfl (Wn.undef hf rfl rfl rfl) hT rfl rfl ?_; clear hf; intro a hf
     refine yS (i := 37) hf hT ?_; clear hf; intro a hf
     refine any_takeA (i := 38) hf rfl (Wn.none rfl) (rd_pick_t hf rfl rfl rfl) hT rfl rfl ?_; clear hf; intro a hf
     refine any_done (by kernel_rfl) ?_
     refine t_normal ?_
     refine c_true hf rfl ?_
     refine c_seq (c_region ?_)
     refine aN hf hS ?_; clear hf; intro a hf
     refine done_l (t_normal (c_ret (b_ret (t_ret (t_ret (b_ret (t_ret ?_)))))))
     refine eT hf ?_
     refine ⟨congrArg Value.bool ?_, hS.subA⟩
     clear hf hS
     first | exact (maySib_no1 hVC).symm | exact (maySib_no2 (by rw [List.length_map]; omega)).symm | exact (maySib_no3 (by omega) (okAt_f1 hget hCV)).symm | exact (maySib_no3 (by omega) (okAt_f2 hget hgy hLS)).symm | exact (maySib_no3 (by omega) (okAt_f0 hget (okV_f1 (d := (dn, dc)) (bs := bs) (b := dead) (by omega)))).symm | exact (maySib_no3 (by omega) (okAt_f0 hget (okV_f2 (d := (dn, dc)) (bs := bs) (by omega)))).symm | exact (maySib_yes hVC (by omega) hok).symm
    clear hf; intro hc12 a hf
    refine any_takeA (i := 28) hf rfl (Wn.none rfl) (rd_pick_f hf rfl rfl rfl) hT rfl rfl ?_; clear hf; intro a hf
    refine any_takeA (i := 29) hf rfl (Wn.none rfl) (rd_move hf rfl rfl) hT rfl rfl ?_; clear hf; intro a hf
    refine any_takeA (i := 30) hf rfl (Wn.some hf rfl rfl rfl rfl) ((by first | exact rd_fieldAddrB hf rfl rfl fb107_2 rfl | exact rd_fieldAddr hf rfl rfl fb107_2)) hT rfl rfl ?_; clear hf; intro a hf
    refine any_takeb (i := 31) hf rfl (by kernel_rfl) (by kernel_rfl) (by kernel_rfl) (fun _ _ _ _ h => h) (Wn.some hf rfl rfl rfl rfl) (rd_ld hf ag4) hT rfl rfl ?_ ?_
    ·
     clear hf; intro hc13 a hf
     subst hc13
     refine any_takeA (i := 32) hf rfl (Wn.some hf rfl rfl rfl rfl) (rd_move hf rfl rfl) hT rfl rfl ?_; clear hf; intro a hf
     refine any_takeA (i := 33) hf rfl (Wn.some hf rfl rfl rfl rfl) ((by first | exact rd_fieldAddrB hf rfl rfl fb107_1 rfl | exact rd_fieldAddr hf rfl rfl fb107_1)) hT rfl rfl ?_; clear hf; intro a hf
     refine any_takeA (i := 34) hf rfl (Wn.some hf rfl rfl rfl rfl) (rd_ld hf ag34) hT rfl rfl ?_; clear hf; intro a hf
     refine any_takeA (i := 35) hf rfl (Wn.some hf rfl rfl rfl rfl) (rd_len hf rfl rfl Tryz.underlying34) hT rfl rfl ?_; clear hf; intro a hf
     refine any_takeB (i := 36) hf rfl (by kernel_rfl) (by kernel_rfl) (by kernel_rfl) (fun _ _ _ _ h => h) (Wn.some hf rfl rfl rfl rfl) (rd_gtr hf rfl rfl rfl) hT rfl rfl ?_ ?_
     ·
      clear hf; intro hc14 a hf
      refine any_takeA (i := 37) hf rfl (Wn.some hf rfl rfl rfl rfl) (rd_pick_t hf rfl rfl rfl) hT rfl rfl ?_; clear hf; intro a hf
      refine any_takeA (i := 38) hf rfl (Wn.none rfl) (rd_pick_f hf rfl rfl rfl) hT rfl rfl ?_; clear hf; intro a hf
      refine any_done (by kernel_rfl) ?_
      refine t_normal ?_
      refine c_true hf rfl ?_
      refine c_seq (c_region ?_)
      refine aN hf hS ?_; clear hf; intro a hf
      refine done_l (t_normal (c_ret (b_ret (t_ret (t_ret (b_ret (t_ret ?_)))))))
      refine eT hf ?_
      refine ⟨congrArg Value.bool ?_, hS.subA⟩
      clear hf hS
      first | exact (maySib_no1 hVC).symm | exact (maySib_no2 (by rw [List.length_map]; omega)).symm | exact (maySib_no3 (by omega) (okAt_f1 hget hCV)).symm | exact (maySib_no3 (by omega) (okAt_f2 hget hgy hLS)).symm | exact (maySib_no3 (by omega) (okAt_f0 hget (okV_f1 (d := (dn, dc)) (bs := bs) (b := dead) (by omega)))).symm | exact (maySib_no3 (by omega) (okAt_f0 hget (okV_f2 (d := (dn, dc)) (bs := bs) (by omega)))).symm | exact (maySib_yes hVC (by omega) hok).symm
     clear hf; intro hc14 a hf
     refine any_takeA (i := 37) hf rfl (Wn.some hf rfl rfl rfl rfl) (rd_pick_t hf rfl rfl rfl) hT rfl rfl ?_; clear hf; intro a hf
     refine any_takeA (i := 38) hf rfl (Wn.none rfl) (rd_pick_f hf rfl rfl rfl) hT rfl rfl ?_; clear hf; intro a hf
     refine any_done (by kernel_rfl) ?_
     refine t_normal ?_
     refine c_false hf rfl ?_
     refine c_skip (b_normal (t_normal (c_region ?_)))
     refine sP hf hS ?_; clear hf; intro a hf
     refine mN hf hS ?_; clear hf; intro a hf
     refine done_l ?_
     refine t_normal ⟨0 + 1, ((hf.backA hk0).kb hf 18 rfl (by first | rfl | exact int_eq (by omega))), ⟨hS.subA, ⟨by omega, by first | exact rall_step hok (okAt_ts hget hgy (okV_t (d := (dn, dc)) (bs := bs) (b := true) (by omega) (by first | (intro h; exact Bool.noConfusion h) | (intro _; omega))) hCV hLS) | exact rall_step hok (okAt_t0 hget (okV_t (d := (dn, dc)) (bs := bs) (b := true) (by omega) (by first | (intro h; exact Bool.noConfusion h) | (intro _; omega))) hCV) | exact rall_step hok (okAt_ts hget hgy (okV_t (d := (dn, dc)) (bs := bs) (b := false) (by omega) (by first | (intro h; exact Bool.noConfusion h) | (intro _; omega))) hCV hLS) | exact rall_step hok (okAt_t0 hget (okV_t (d := (dn, dc)) (bs := bs) (b := false) (by omega) (by first | (intro h; exact Bool.noConfusion h) | (intro _; omega))) hCV)⟩⟩, by first | omega | (simp only []; omega)⟩
    clear hf; intro hc13 a hf
    subst hc13
    refine any_takeA (i := 32) hf rfl (Wn.some hf rfl rfl rfl rfl) (rd_move hf rfl rfl) hT rfl rfl ?_; clear hf; intro a hf
    refine yS (i := 33) hf hT ?_; clear hf; intro a hf
    refine yS (i := 34) hf hT ?_; clear hf; intro a hf
    refine yS (i := 35) hf hT ?_; clear hf; intro a hf
    refine yS (i := 36) hf hT ?_; clear hf; intro a hf
    refine any_takeA (i := 37) hf rfl (Wn.some hf rfl rfl rfl rfl) (rd_pick_f hf rfl rfl rfl) hT rfl rfl ?_; clear hf; intro a hf
    refine any_takeA (i := 38) hf rfl (Wn.none rfl) (rd_pick_f hf rfl rfl rfl) hT rfl rfl ?_; clear hf; intro a hf
    refine any_done (by kernel_rfl) ?_
    refine t_normal ?_
    refine c_false hf rfl ?_
    refine c_skip (b_normal (t_normal (c_region ?_)))
    refine sP hf hS ?_; clear hf; intro a hf
    refine mN hf hS ?_; clear hf; intro a hf
    refine done_l ?_
    refine t_normal ⟨0 + 1, ((hf.backA hk0).kb hf 18 rfl (by first | rfl | exact int_eq (by omega))), ⟨hS.subA, ⟨by omega, by first | exact rall_step hok (okAt_ts hget hgy (okV_t (d := (dn, dc)) (bs := bs) (b := true) (by omega) (by first | (intro h; exact Bool.noConfusion h) | (intro _; omega))) hCV hLS) | exact rall_step hok (okAt_t0 hget (okV_t (d := (dn, dc)) (bs := bs) (b := true) (by omega) (by first | (intro h; exact Bool.noConfusion h) | (intro _; omega))) hCV) | exact rall_step hok (okAt_ts hget hgy (okV_t (d := (dn, dc)) (bs := bs) (b := false) (by omega) (by first | (intro h; exact Bool.noConfusion h) | (intro _; omega))) hCV hLS) | exact rall_step hok (okAt_t0 hget (okV_t (d := (dn, dc)) (bs := bs) (b := false) (by omega) (by first | (intro h; exact Bool.noConfusion h) | (intro _; omega))) hCV)⟩⟩, by first | omega | (simp only []; omega)⟩
   clear hf; intro hc6 hf
   have hCV : covers [s0, s1, s2, s3, s4, s5, s6, s7] (dn, dc) = false := by first | exact hc6 | exact decide_eq_false hc6
   refine any_takeA (i := 5) hf rfl (Wn.none rfl) (rd_not hf rfl rfl) hT rfl rfl ?_; clear hf; intro a hf
   refine any_takeA (i := 6) hf rfl (Wn.none rfl) (rd_move hf rfl rfl) hT rfl rfl ?_; clear hf; intro a hf
   refine yS (i := 7) hf hT ?_; clear hf; intro a hf
   refine yS (i := 8) hf hT ?_; clear hf; intro a hf
   refine yS (i := 9) hf hT ?_; clear hf; intro a hf
   refine any_skipA (i := 10) hf rfl (Wn.undef hf rfl rfl rfl) hT rfl rfl ?_; clear hf; intro a hf
   refine any_skipA (i := 11) hf rfl (Wn.undef hf rfl rfl rfl) hT rfl rfl ?_; clear hf; intro a hf
   refine any_skipA (i := 12) hf rfl (Wn.undef hf rfl rfl rfl) hT rfl rfl ?_; clear hf; intro a hf
   refine any_skipA (i := 13) hf rfl (Wn.undef hf rfl rfl rfl) hT rfl rfl ?_; clear hf; intro a hf
   refine any_skipA (i := 14) hf rfl (Wn.undef hf rfl rfl rfl) hT rfl rfl ?_; clear hf; intro a hf
   refine any_skipA (i := 15) hf rfl (Wn.undef hf rfl rfl rfl) hT rfl rfl ?_; clear hf; intro a hf
   refine any_skipA (i := 16) hf rfl (Wn.undef hf rfl rfl rfl) hT rfl rfl ?_; clear hf; intro a hf
   refine any_skipA (i := 17) hf rfl (Wn.undef hf rfl rfl rfl) hT rfl rfl ?_; clear hf; intro a hf
   refine any_skipA (i := 18) hf rfl (Wn.undef hf rfl rfl rfl) hT rfl rfl ?_; clear hf; intro a hf
   refine any_skipA (i := 19) hf rfl (Wn.undef hf rfl rfl rfl) hT rfl rfl ?_; clear hf; intro a hf
   refine any_skipA (i := 20) hf rfl (Wn.undef hf rfl rfl rfl) hT rfl rfl ?_; clear hf; intro a hf
   refine yS (i := 21) hf hT ?_; clear hf; intro a hf
   refine any_takeA (i := 22) hf rfl (Wn.none rfl) (rd_pick_t hf rfl rfl rfl) hT rfl rfl ?_; clear hf; intro a hf
   refine any_takeA (i := 23) hf rfl (Wn.none rfl) (rd_move hf rfl rfl) hT rfl rfl ?_; clear hf; intro a hf
   refine yS (i := 24) hf hT ?_; clear hf; intro a hf
   refine yS (i := 25) hf hT ?_; clear hf; intro a hf
   refine yS (i := 26) hf hT ?_; clear hf; intro a hf
   refine yS (i := 27) hf hT ?_; clear hf; intro a hf
   refine any_takeA (i := 28) hf rfl (Wn.none rfl) (rd_pick_t hf rfl rfl rfl) hT rfl rfl ?_; clear hf; intro a hf
   refine any_takeA (i := 29) hf rfl (Wn.none rfl) (rd_move hf rfl rfl) hT rfl rfl ?_; clear hf; intro a hf
   refine yS (i := 30) hf hT ?_; clear hf; intro a hf
   refine yS (i := 31) hf hT ?_; clear hf; intro a hf
   refine yS (i := 32) hf hT ?_; clear hf; intro a hf
   refine any_skipA (i := 33) hf rfl (Wn.undef hf rfl rfl rfl) hT rfl rfl ?_; clear hf; intro a hf
   refine any_skipA (i := 34) hf rfl (Wn.undef hf rfl rfl rfl) hT rfl rfl ?_; clear hf; intro a hf
   refine any_skipA (i := 35) hf rfl (Wn.undef hf rfl rfl rfl) hT rfl rfl ?_; clear hf; intro a hf
   refine any_skipA (i := 36) hf rfl (Wn.undef hf rfl rfl rfl) hT rfl rfl ?_; clear hf; intro a hf
   refine yS (i := 37) hf hT ?_; clear hf; intro a hf
   refine any_takeA (i := 38) hf rfl (Wn.none rfl) (rd_pick_t hf rfl rfl rfl) hT rfl rfl ?_; clear hf; intro a hf
   refine any_done (by kernel_rfl) ?_
   refine t_normal ?_
   refine c_true hf rfl ?_
   refine c_seq (c_region ?_)
   refine aN hf hS ?_; clear hf; intro a hf
   refine done_l (t_normal (c_ret (b_ret (t_ret (t_ret (b_ret (t_ret ?_)))))))
   refine eT hf ?_
   refine ⟨congrArg Value.bool ?_, hS.subA⟩
   clear hf hS
   first | exact (maySib_no1 hVC).symm | exact (maySib_no2 (by rw [List.length_map]; omega)).symm | exact (maySib_no3 (by omega) (okAt_f1 hget hCV)).symm | exact (maySib_no3 (by omega) (okAt_f2 hget hgy hLS)).symm | exact (maySib_no3 (by omega) (okAt_f0 hget (okV_f1 (d := (dn, dc)) (bs := bs) (b := dead) (by omega)))).symm | exact (maySib_no3 (by omega) (okAt_f0 hget (okV_f2 (d := (dn, dc)) (bs := bs) (by omega)))).symm | exact (maySib_yes hVC (by omega) hok).symm
  clear hf; intro hc4 a hf
  obtain rfl : k = vs.length := by omega
  refine done_l (t_normal (c_seq ?_))
  refine c_false hf rfl ?_
  refine c_exit (t_exit (t_exit (b_exit (t_normal (c_seq (c_region ?_))))))
  refine aN hf hS ?_; clear hf; intro a hf
  refine done_l (t_normal (c_ret ?_))
  refine eT hf ?_
  refine ⟨congrArg Value.bool ?_, hS.subA⟩
  clear hf hS
  first | exact (maySib_no1 hVC).symm | exact (maySib_no2 (by rw [List.length_map]; omega)).symm | exact (maySib_no3 (by omega) (okAt_f1 hget hCV)).symm | exact (maySib_no3 (by omega) (okAt_f2 hget hgy hLS)).symm | exact (maySib_no3 (by omega) (okAt_f0 hget (okV_f1 (d := (dn, dc)) (bs := bs) (b := dead) (by omega)))).symm | exact (maySib_no3 (by omega) (okAt_f0 hget (okV_f2 (d := (dn, dc)) (bs := bs) (by omega)))).symm | exact (maySib_yes hVC (by omega) hok).symm
 clear hf; intro hc2 hf
 have hVC := hc2
 refine nT hf hS ?_; clear hf; intro a hf
 iterate 6 ((first | refine kS hf ?_ | refine mN hf hS ?_ | refine pT hf hS ?_); clear hf; intro a hf)
 refine done_l (t_normal ?_)
 refine c_true hf rfl ?_
 refine c_seq (c_region ?_)
 refine aN hf hS ?_; clear hf; intro a hf
 refine done_l (t_normal (c_ret (t_ret ?_)))
 refine eT hf ?_
 refine ⟨congrArg Value.bool ?_, hS.subA⟩
 clear hf hS
 first | exact (maySib_no1 hVC).symm | exact (maySib_no2 (by rw [List.length_map]; omega)).symm | exact (maySib_no3 (by omega) (okAt_f1 hget hCV)).symm | exact (maySib_no3 (by omega) (okAt_f2 hget hgy hLS)).symm | exact (maySib_no3 (by omega) (okAt_f0 hget (okV_f1 (d := (dn, dc)) (bs := bs) (b := dead) (by omega)))).symm | exact (maySib_no3 (by omega) (okAt_f0 hget (okV_f2 (d := (dn, dc)) (bs := bs) (by omega)))).symm | exact (maySib_yes hVC (by omega) hok).symm

theorem RDMay_c (ky : List UInt8) (s0 s1 s2 s3 s4 s5 s6 s7 : Int) (vs : List DotT) (q : Option Addr) (c : Nat) {W : World} {R : List HP} {w : World} (hS : Sat W (R) w) (hv : ∀ w, Sat W R w → DotsAt w (q, c, vs)) : Calls Tryz.prog 33 [.agg #[.string (str ky), .int .i64 s0, .int .i64 s1, .int .i64 s2, .int .i64 s3, .int .i64 s4, .int .i64 s5, .int .i64 s6, .int .i64 s7, .slice q vs.length c]].toArray w (Ret fun v w' => v = .bool (mayDig (ky, [s0, s1, s2, s3, s4, s5, s6, s7], vs.map pDot)) ∧ Sat W R w') := by
 refine fn_start 50 Tryz.func33 rfl rfl rfl ?_
 intro a hf
 refine c_seq (c_region ?_)
 refine step_l (st_box hf (Wn.none rfl) hS rfl rfl (by rfl) rfl rfl ?_)
 clear hf hS; intro b_s a w hf hS
 refine aN hf hS ?_; clear hf; intro a hf
 refine done_l (t_normal (c_seq (c_seq (c_region ?_))))
 refine fA hf hS fb61_0 ?_; clear hf; intro a hf
 refine sR hf hS (rd_ld hf ag9) ?_; clear hf; intro a hf
 refine step_l (st_call hf (Wn.none rfl) rfl rfl rfl fn52 (RKMay_c _ hS) rfl rfl ?_)
 clear hf hS; rintro v a w ⟨rfl, hS⟩ hf
 first | refine split_dec (d := 7) hf rfl ?_ ?_ | refine split_bool (d := 7) hf rfl ?_ ?_
 ·
  clear hf; intro hc2 hf
  have hKY : mayKey ky = true := by first | exact hc2 | exact decide_eq_true hc2
  refine nT hf hS ?_; clear hf; intro a hf
  refine mN hf hS ?_; clear hf; intro a hf
  refine fG hf hS fb61_1 ?_; clear hf; intro a hf
  refine sG hf hS (rd_ldN hf ag53 sz53) ?_; clear hf; intro a hf
  refine step_l (st_call hf (Wn.some hf rfl rfl rfl rfl) rfl rfl rfl fn54 (RVMay_c _ _ _ _ _ _ _ _ hS) rfl rfl ?_)
  clear hf hS; rintro v a w ⟨rfl, hS⟩ hf
  first | refine split_dec (d := 12) hf rfl ?_ ?_ | refine split_bool (d := 12) hf rfl ?_ ?_
  ·
   clear hf; intro hc3 hf
   have hVC := hc3
   refine sG hf hS (rd_not hf rfl rfl) ?_; clear hf; intro a hf
   iterate 2 ((first | refine mN hf hS ?_ | refine pF hf hS ?_); clear hf; intro a hf)
   refine fG hf hS fb61_2 ?_; clear hf; intro a hf
   refine sG hf hS (rd_ld hf ag59) ?_; clear hf; intro a hf
   refine sG hf hS (rd_len hf rfl rfl Tryz.underlying59) ?_; clear hf; intro a hf
   refine step_l (st_rdB hf (Wn.some hf rfl rfl rfl rfl) (rd_gtr hf rfl rfl rfl) hS rfl rfl ?_ ?_)
   ·
    clear hf; intro hc4 a hf
    refine pF hf hS ?_; clear hf; intro a hf
    refine done_l (t_normal ?_)
    refine c_true hf rfl ?_
    refine c_seq (c_region ?_)
    refine aN hf hS ?_; clear hf; intro a hf
    refine done_l (t_normal (c_ret (t_ret ?_)))
    refine eT hf ?_
    refine ⟨congrArg Value.bool ?_, hS.subA⟩
    clear hf hS
    first | exact (mayDig_no0 hKY).symm | exact (mayDig_no1 hVC).symm | exact (mayDig_no2 (by rw [List.length_map]; omega)).symm | exact (mayDig_no3 (by omega) (dotAt_f1 hget hCV)).symm | exact (mayDig_no3 (by omega) (dotAt_f2 hget hgy hLS)).symm | exact (mayDig_yes hKY hVC (by omega) hok).symm
   clear hf; intro hc4 a hf
   refine pF hf hS ?_; clear hf; intro a hf
   refine done_l (t_normal ?_)
   refine c_false hf rfl ?_
   refine c_skip (t_normal (c_seq (c_seq (c_region ?_))))
   refine fA hf hS fb61_2 ?_; clear hf; intro a hf
   refine sR hf hS (rd_ld hf ag59) ?_; clear hf; intro a hf
   refine sR hf hS (rd_len hf rfl rfl Tryz.underlying59) ?_; clear hf; intro a hf
   refine mN hf hS ?_; clear hf; intro a hf
   refine done_l (t_normal (c_block ?_))
   have hk0 := Keep.ofA hf [(2, 4), (24, 49)]
   refine c_loopK hk0 (α := Nat) (fun k => [(24, .int .i64 (k : Nat))]) (fun k w => Sat W (Blk b_s [.string (str ky), .int .i64 s0, .int .i64 s1, .int .i64 s2, .int .i64 s3, .int .i64 s4, .int .i64 s5, .int .i64 s6, .int .i64 s7, .slice q vs.length c] 61 :: R) w ∧ k ≤ vs.length ∧ rall k (dotAt [s0, s1, s2, s3, s4, s5, s6, s7] (vs.map pDot)) = true) (fun k => vs.length - k) 0 ((hf.keep hk0).kb hf 24 rfl (by first | rfl | exact int_eq (by omega))) ⟨hS.subA, ⟨by omega, rfl⟩⟩ ?_
   clear hf hS; rintro k a w hf ⟨hS, ⟨hk, hok⟩⟩; (try dsimp only [List.cons_append, List.nil_append] at hf)
   refine c_seq (c_region ?_)
   refine sB hf hS (rd_lss hf rfl rfl rfl) ?_ ?_
   ·
    clear hf; intro hc5 a hf
    obtain ⟨x, hget⟩ := get_of_lt (l := vs) (k := k) (by omega) rfl; obtain ⟨ad, rfl⟩ := (hv _ (hS.subA)).some (by omega); obtain ⟨dn, dc, _⟩ := x
    refine done_l (t_normal (c_seq ?_))
    refine c_true hf rfl ?_
    refine c_skip (t_normal (c_seq (c_block (c_seq (c_region ?_)))))
    refine mN hf hS ?_; clear hf; intro a hf
    refine sR hf hS ((by first | exact rd_indexAddrN hf rfl rfl rfl Tryz.underlying59 sz87 (by omega) | exact rd_indexAddr hf rfl rfl rfl Tryz.underlying59 sz87 (by first | decide | omega) (by omega))) ?_; clear hf; intro a hf
    refine sR hf hS (rd_loadN hf rfl rfl ag87 sz87 (by intro _ h; exact (show AggAt _ _ _ [.int .i64 dn, .int .i64 dc] from (hv _ (h.subA)).el hget))) ?_; clear hf; intro a hf
    refine sA hf hS zr87 ?_
    clear hf hS; intro b_v a w hf hS
    refine aN hf hS ?_; clear hf; intro a hf
    refine sS hf hS sz87 ?_
    clear hf hS; intro a w hf hS
    refine done_l (t_normal (c_seq ?_))
    refine any_begin mixed hS.drew ?_
    replace hS := hS.drew
    have hT := hS
    refine any_takeA (i := 0) hf rfl (Wn.none rfl) (rd_fieldAddrB hf rfl rfl fb61_1 rfl) hT rfl rfl ?_; clear hf; intro a hf
    refine any_takeA (i := 1) hf rfl (Wn.none rfl) (rd_ldN hf ag53 sz53) hT rfl rfl ?_; clear hf; intro a hf
    refine any_takeA (i := 2) hf rfl (Wn.none rfl) (rd_ldN hf ag87 sz87) hT rfl rfl ?_; clear hf; intro a hf
    refine any_one (i := 3) rfl (by kernel_rfl) (st_call hf (Wn.none rfl) rfl rfl rfl fn55 (RVCov_c _ _ _ _ _ _ _ _ _ _ hS) rfl rfl ?_)
    clear hf hS; rintro v a w ⟨rfl, hS⟩ hf
    replace hT := hS.subA' hT
    refine ⟨hT, ?_⟩
    first | refine split_dec (d := 32) hf rfl ?_ ?_ | refine split_bool (d := 32) hf rfl ?_ ?_
    ·
     clear hf; intro hc7 hf
     have hCV : covers [s0, s1, s2, s3, s4, s5, s6, s7] (dn, dc) = true := by first | exact hc7 | exact decide_eq_true hc7
     refine any_takeA (i := 4) hf rfl (Wn.none rfl) (rd_not hf rfl rfl) hT rfl rfl ?_; clear hf; intro a hf
     refine any_takeA (i := 5) hf rfl (Wn.none rfl) (rd_move hf rfl rfl) hT rfl rfl ?_; clear hf; intro a hf
     refine any_takeA (i := 6) hf rfl (Wn.some hf rfl rfl rfl rfl) (rd_move hf rfl rfl) hT rfl rfl ?_; clear hf; intro a hf
     refine any_takeB (i := 7) hf rfl (by kernel_rfl) (by kernel_rfl) (by kernel_rfl) (fun _ _ _ _ h => h) (Wn.some hf rfl rfl rfl rfl) (rd_gtr hf rfl rfl rfl) hT rfl rfl ?_ ?_
     ·
      clear hf; intro hc8 a hf
      obtain ⟨j, rfl⟩ : ∃ j, k = j + 1 := ⟨k - 1, by omega⟩; obtain ⟨y, hgy⟩ := get_of_lt (l := vs) (k := j) (by omega) rfl; obtain ⟨en, ec, _⟩ := y
      refine any_takeA (i := 8) hf rfl (Wn.some hf rfl rfl rfl rfl) (rd_move hf rfl rfl) hT rfl rfl ?_; clear hf; intro a hf
      refine any_takeA (i := 9) hf rfl (Wn.some hf rfl rfl rfl rfl) (rd_fieldAddrB hf rfl rfl fb61_2 rfl) hT rfl rfl ?_; clear hf; intro a hf
      refine any_takeA (i := 10) hf rfl (Wn.some hf rfl rfl rfl rfl) (rd_ld hf ag59) hT rfl rfl ?_; clear hf; intro a hf
      refine any_takeA (i := 11) hf rfl (Wn.some hf rfl rfl rfl rfl) (rd_move hf rfl rfl) hT rfl rfl ?_; clear hf; intro a hf
      refine any_takeA (i := 12) hf rfl (Wn.some hf rfl rfl rfl rfl) (rd_sub hf rfl rfl rfl (wrap_pred j (by omega))) hT rfl rfl ?_; clear hf; intro a hf
      refine any_takeA (i := 13) hf rfl (Wn.some hf rfl rfl rfl rfl) ((by first | exact rd_indexAddrN hf rfl rfl rfl Tryz.underlying59 sz87 (by omega) | exact rd_indexAddr hf rfl rfl rfl Tryz.underlying59 sz87 (by first | decide | omega) (by omega))) hT rfl rfl ?_; clear hf; intro a hf
      refine any_takeA (i := 14) hf rfl (Wn.some hf rfl rfl rfl rfl) (rd_loadN hf rfl rfl ag87 sz87 (by intro _ h; exact (show AggAt _ _ _ [.int .i64 en, .int .i64 ec] from (hv _ (h.subA)).el hgy))) hT rfl rfl ?_; clear hf; intro a hf
      refine any_takeA (i := 15) hf rfl (Wn.some hf rfl rfl rfl rfl) (rd_ldN hf ag87 sz87) hT rfl rfl ?_; clear hf; intro a hf
      refine any_one (i := 16) rfl (by kernel_rfl) (st_call hf (Wn.some hf rfl rfl rfl rfl) rfl rfl rfl fn56 (RLess_c _ _ _ _ hS) rfl rfl ?_)
      clear hf hS; rintro v a w ⟨rfl, hS⟩ hf
      replace hT := hS.subA' hT
      refine ⟨hT, ?_⟩
      first | refine split_dec (d := 45) hf rfl ?_ ?_ | refine split_bool (d := 45) hf rfl ?_ ?_
      ·
       clear hf; intro hc9 hf
       have hLS : dless (en, ec) (dn, dc) = true := by first | exact hc9 | exact decide_eq_true hc9
       refine any_takeA (i := 17) hf rfl (Wn.some hf rfl rfl rfl rfl) (rd_not hf rfl rfl) hT rfl rfl ?_; clear hf; intro a hf
       refine any_takeA (i := 18) hf rfl (Wn.some hf rfl rfl rfl rfl) (rd_pick_t hf rfl rfl rfl) hT rfl rfl ?_; clear hf; intro a hf
       refine any_takeA (i := 19) hf rfl (Wn.none rfl) (rd_pick_f hf rfl rfl rfl) hT rfl rfl ?_; clear hf; intro a hf
       refine any_done (by kernel_rfl) ?_
       refine t_normal ?_
       refine c_false hf rfl ?_
       refine c_skip (b_normal (t_normal (c_region ?_)))
       refine sP hf hS ?_; clear hf; intro a hf
       refine mN hf hS ?_; clear hf; intro a hf
       refine done_l ?_
       refine t_normal ⟨j + 1 + 1, ((hf.backA hk0).kb hf 24 rfl (by first | rfl | exact int_eq (by omega))), ⟨hS.subA, ⟨by omega, by first | exact rall_step hok (dotAt_ts hget hgy hCV hLS) | exact rall_step hok (dotAt_t0 hget hCV)⟩⟩, by first | omega | (simp only []; omega)⟩
      clear hf; intro hc9 hf
      have hLS : dless (en, ec) (dn, dc) = false := by first | exact hc9 | exact decide_eq_false hc9
      refine any_takeA (i := 17) hf rfl (Wn.some hf rfl rfl rfl rfl) (rd_not hf rfl rfl) hT rfl rfl ?_; clear hf; intro a hf
      refine any_takeA (i := 18) hf rfl (Wn.some hf rfl rfl rfl rfl) (rd_pick_t hf rfl rfl rfl) hT rfl rfl ?_; clear hf; intro a hf
      refine any_takeA (i := 19) hf rfl (Wn.none rfl) (rd_pick_f hf rfl rfl rfl) hT rfl rfl ?_; clear hf; intro a hf
      refine any_done (by kernel_rfl) ?_
      refine t_normal ?_
      refine c_true hf rfl ?_
      refine c_seq (c_region ?_)
      refine aN hf hS ?_; clear hf; intro a hf
      refine done_l (t_normal (c_ret (b_ret (t_ret (t_ret (b_ret (t_ret ?_)))))))
      refine eT hf ?_
      refine ⟨congrArg Value.bool ?_, hS.subA⟩
      clear hf hS
      first | exact (mayDig_no0 hKY).symm | exact (mayDig_no1 hVC).symm | exact (mayDig_no2 (by rw [List.length_map]; omega)).symm | exact (mayDig_no3 (by omega) (dotAt_f1 hget hCV)).symm | exact (mayDig_no3 (by omega) (dotAt_f2 hget hgy hLS)).symm | exact (mayDig_yes hKY hVC (by omega) hok).symm
     clear hf; intro hc8 a hf
     obtain rfl : k = 0 := by omega
     refine any_takeA (i := 8) hf rfl (Wn.some hf rfl rfl rfl rfl) (rd_move hf rfl rfl) hT rfl rfl ?_; clear hf; intro a hf
     refine yS (i := 9) hf hT ?_; clear hf; intro a hf
     refine yS (i := 10) hf hT ?_; clear hf; intro a hf
     refine yS (i := 11) hf hT ?_; clear hf; intro a hf
     refine yS (i := 12) hf hT ?_; clear hf; intro a hf
     refine yS (i := 13) hf hT ?_; clear hf; intro a hf
     refine yS (i := 14) hf hT ?_; clear hf; intro a hf
     refine yS (i := 15) hf hT ?_; clear hf; intro a hf
     refine yS (i := 16) hf hT ?_; clear hf; intro a hf
     refine yS (i := 17) hf hT ?_; clear hf; intro a hf
     refine any_takeA (i := 18) hf rfl (Wn.some hf rfl rfl rfl rfl) (rd_pick_f hf rfl rfl rfl) hT rfl rfl ?_; clear hf; intro a hf
     refine any_takeA (i := 19) hf rfl (Wn.none rfl) (rd_pick_f hf rfl rfl rfl) hT rfl rfl ?_; clear hf; intro a hf
     refine any_done (by kernel_rfl) ?_
     refine t_normal ?_
     refine c_false hf rfl ?_
     refine c_skip (b_normal (t_normal (c_region ?_)))
     refine sP hf hS ?_; clear hf; intro a hf
     refine mN hf hS ?_; clear hf; intro a hf
     refine done_l ?_
     refine t_normal ⟨0 + 1, ((hf.backA hk0).kb hf 24 rfl (by first | rfl | exact int_eq (by omega))), ⟨hS.subA, ⟨by omega, by first | exact rall_step hok (dotAt_ts hget hgy hCV hLS) | exact rall_step hok (dotAt_t0 hget hCV)⟩⟩, by first | omega | (simp only []; omega)⟩
    clear hf; intro hc7 hf
    have hCV : covers [s0, s1, s2, s3, s4, s5, s6, s7] (dn, dc) = false := by first | exact hc7 | exact decide_eq_false hc7
    refine any_takeA (i := 4) hf rfl (Wn.none rfl) (rd_not hf rfl rfl) hT rfl rfl ?_; clear hf; intro a hf
    refine any_takeA (i := 5) hf rfl (Wn.none rfl) (rd_move hf rfl rfl) hT rfl rfl ?_; clear hf; intro a hf
    refine yS (i := 6) hf hT ?_; clear hf; intro a hf
    refine yS (i := 7) hf hT ?_; clear hf; intro a hf
    refine yS (i := 8) hf hT ?_; clear hf; intro a hf
    refine any_skipA (i := 9) hf rfl (Wn.undef hf rfl rfl rfl) hT rfl rfl ?_; clear hf; intro a hf
    refine any_skipA (i := 10) hf rfl (Wn.undef hf rfl rfl rfl) hT rfl rfl ?_; clear hf; intro a hf
    refine any_skipA (i := 11) hf rfl (Wn.undef hf rfl rfl rfl) hT rfl rfl ?_; clear hf; intro a hf
    refine any_skipA (i := 12) hf rfl (Wn.undef hf rfl rfl rfl) hT rfl rfl ?_; clear hf; intro a hf
    refine any_skipA (i := 13) hf rfl (Wn.undef hf rfl rfl rfl) hT rfl rfl ?_; clear hf; intro a hf
    refine any_skipA (i := 14) hf rfl (Wn.undef hf rfl rfl rfl) hT rfl rfl ?_; clear hf; intro a hf
    refine any_skipA (i := 15) hf rfl (Wn.undef hf rfl rfl rfl) hT rfl rfl ?_; clear hf; intro a hf
    refine any_skipA (i := 16) hf rfl (Wn.undef hf rfl rfl rfl) hT rfl rfl ?_; clear hf; intro a hf
    refine any_skipA (i := 17) hf rfl (Wn.undef hf rfl rfl rfl) hT rfl rfl ?_; clear hf; intro a hf
    refine yS (i := 18) hf hT ?_; clear hf; intro a hf
    refine any_takeA (i := 19) hf rfl (Wn.none rfl) (rd_pick_t hf rfl rfl rfl) hT rfl rfl ?_; clear hf; intro a hf
    refine any_done (by kernel_rfl) ?_
    refine t_normal ?_
    refine c_true hf rfl ?_
    refine c_seq (c_region ?_)
    refine aN hf hS ?_; clear hf; intro a hf
    refine done_l (t_normal (c_ret (b_ret (t_ret (t_ret (b_ret (t_ret ?_)))))))
    refine eT hf ?_
    refine ⟨congrArg Value.bool ?_, hS.subA⟩
    clear hf hS
    first | exact (mayDig_no0 hKY).symm | exact (mayDig_no1 hVC).symm | exact (mayDig_no2 (by rw [List.length_map]; omega)).symm | exact (mayDig_no3 (by omega) (dotAt_f1 hget hCV)).symm | exact (mayDig_no3 (by omega) (dotAt_f2 hget hgy hLS)).symm | exact (mayDig_yes hKY hVC (by omega) hok).symm
   clear hf; intro hc5 a hf
   obtain rfl : k = vs.length := by omega
   refine done_l (t_normal (c_seq ?_))
   refine c_false hf rfl ?_
   refine c_exit (t_exit (t_exit (b_exit (t_normal (c_seq (c_region ?_))))))
   refine aN hf hS ?_; clear hf; intro a hf
   refine done_l (t_normal (c_ret ?_))
   refine eT hf ?_
   refine ⟨congrArg Value.bool ?_, hS.subA⟩
   clear hf hS
   first | exact (mayDig_no0 hKY).symm | exact (mayDig_no1 hVC).symm | exact (mayDig_no2 (by rw [List.length_map]; omega)).symm | exact (mayDig_no3 (by omega) (dotAt_f1 hget hCV)).symm | exact (mayDig_no3 (by omega) (dotAt_f2 hget hgy hLS)).symm | exact (mayDig_yes hKY hVC (by omega) hok).symm
  clear hf; intro hc3 hf
  have hVC := hc3
  refine sG hf hS (rd_not hf rfl rfl) ?_; clear hf; intro a hf
  iterate 7 ((first | refine kS hf ?_ | refine mN hf hS ?_ | refine pT hf hS ?_ | refine pF hf hS ?_); clear hf; intro a hf)
  refine done_l (t_normal ?_)
  refine c_true hf rfl ?_
  refine c_seq (c_region ?_)
  refine aN hf hS ?_; clear hf; intro a hf
  refine done_l (t_normal (c_ret (t_ret ?_)))
  refine eT hf ?_
  refine ⟨congrArg Value.bool ?_, hS.subA⟩
  clear hf hS
  first | exact (mayDig_no0 hKY).symm | exact (mayDig_no1 hVC).symm | exact (mayDig_no2 (by rw [List.length_map]; omega)).symm | exact (mayDig_no3 (by omega) (dotAt_f1 hget hCV)).symm | exact (mayDig_no3 (by omega) (dotAt_f2 hget hgy hLS)).symm | exact (mayDig_yes hKY hVC (by omega) hok).symm
 clear hf; intro hc2 hf
 have hKY : mayKey ky = false := by first | exact hc2 | exact decide_eq_false hc2
 refine nT hf hS ?_; clear hf; intro a hf
 iterate 12 ((first | refine kS hf ?_ | refine mN hf hS ?_ | refine pT hf hS ?_); clear hf; intro a hf)
 refine done_l (t_normal ?_)
 refine c_true hf rfl ?_
 refine c_seq (c_region ?_)
 refine aN hf hS ?_; clear hf; intro a hf
 refine done_l (t_normal (c_ret (t_ret ?_)))
 refine eT hf ?_
 refine ⟨congrArg Value.bool ?_, hS.subA⟩
 clear hf hS
 first | exact (mayDig_no0 hKY).symm | exact (mayDig_no1 hVC).symm | exact (mayDig_no2 (by rw [List.length_map]; omega)).symm | exact (mayDig_no3 (by omega) (dotAt_f1 hget hCV)).symm | exact (mayDig_no3 (by omega) (dotAt_f2 hget hgy hLS)).symm | exact (mayDig_yes hKY hVC (by omega) hok).symm

theorem REMay_c (ky : List UInt8) (s0 s1 s2 s3 s4 s5 s6 s7 : Int) (vs : List ValT) (q : Option Addr) (c : Nat) {W : World} {R : List HP} {w : World} (hS : Sat W (R) w) (hv : ∀ w, Sat W R w → ValsAt w (q, c, vs)) : Calls Tryz.prog 32 [.agg #[.string (str ky), .int .i64 s0, .int .i64 s1, .int .i64 s2, .int .i64 s3, .int .i64 s4, .int .i64 s5, .int .i64 s6, .int .i64 s7, .slice q vs.length c]].toArray w (Ret fun v w' => v = .bool (mayEnt (ky, [s0, s1, s2, s3, s4, s5, s6, s7], vs.map pVal)) ∧ Sat W R w') := by
 refine fn_start 11 Tryz.func32 rfl rfl rfl ?_
 intro a hf
 refine c_seq (c_region ?_)
 refine step_l (st_box hf (Wn.none rfl) hS rfl rfl (by rfl) rfl rfl ?_)
 clear hf hS; intro b_1 a w hf hS
 refine aN hf hS ?_; clear hf; intro a hf
 refine done_l (t_normal (c_seq (c_region ?_)))
 refine fA hf hS fb58_0 ?_; clear hf; intro a hf
 refine sR hf hS (rd_ld hf ag9) ?_; clear hf; intro a hf
 refine step_l (st_call hf (Wn.none rfl) rfl rfl rfl fn52 (RKMay_c _ hS) rfl rfl ?_)
 clear hf hS; rintro v a w ⟨rfl, hS⟩ hf
 first | refine split_dec (d := 5) hf rfl ?_ ?_ | refine split_bool (d := 5) hf rfl ?_ ?_
 ·
  clear hf; intro hc2 hf
  have hKY : mayKey ky = true := by first | exact hc2 | exact decide_eq_true hc2
  refine mN hf hS ?_; clear hf; intro a hf
  refine fG hf hS fb58_1 ?_; clear hf; intro a hf
  refine sG hf hS (rd_ldN hf ag56 sz56) ?_; clear hf; intro a hf
  refine step_l (st_call hf (Wn.some hf rfl rfl rfl rfl) rfl rfl rfl fn53 (RSMay_c _ _ _ _ _ _ _ _ _ _ _ hS (fun _ h => hv _ (h.subA))) rfl rfl ?_)
  clear hf hS; rintro v a w ⟨rfl, hS⟩ hf
  iterate 2 ((first | refine aN hf hS ?_ | refine pT hf hS ?_); clear hf; intro a hf)
  refine done_l (t_normal (c_ret ?_))
  refine eT hf ?_
  refine ⟨congrArg Value.bool ?_, hS.subA⟩
  clear hf hS
  rw [mayEnt_eq]
  first | exact (by rw [mayKey_f (by omega)]; rfl) | exact (by rw [mayKey_t (by omega) (by omega)]; rfl) | (rw [hKY]; rfl)
 clear hf; intro hc2 hf
 have hKY : mayKey ky = false := by first | exact hc2 | exact decide_eq_false hc2
 iterate 6 ((first | refine kS hf ?_ | refine mN hf hS ?_ | refine aN hf hS ?_ | refine pF hf hS ?_); clear hf; intro a hf)
 refine done_l (t_normal (c_ret ?_))
 refine eT hf ?_
 refine ⟨congrArg Value.bool ?_, hS.subA⟩
 clear hf hS
 rw [mayEnt_eq]
 first | exact (by rw [mayKey_f (by omega)]; rfl) | exact (by rw [mayKey_t (by omega) (by omega)]; rfl) | (rw [hKY]; rfl)

end Go.Proofs.YtcflbdpjoanbgaaGreat
