/-
  Walked: Sam.
  Conditions: none.
-/
import Derived.Test.YtcflbdpjoanbgaaGreatRMym1
namespace Go.Proofs.YtcflbdpjoanbgaaGreat
open Go Go.Sl
set_option linter.unusedVariables false
set_option linter.unusedSimpArgs false

theorem RDots_c (ds : List DotT) (q : Option Addr) (c : Nat) (ds2 : List DotT) (q2 : Option Addr) (c2 : Nat) {W : World} {R : List HP} {w : World} (hS : Sat W (R) w) (hv : ∀ w, Sat W R w → DotsAt w (q, c, ds)) (hv2 : ∀ w, Sat W R w → DotsAt w (q2, c2, ds2)) : Calls Tryz.prog 51 [.slice q ds.length c, .slice q2 ds2.length c2].toArray w (Ret fun v w' => v = .bool (decide (ds.map pDot = ds2.map pDot)) ∧ Sat W R w') := by
 refine fn_start 26 Tryz.func51 rfl rfl rfl ?_
 intro a hf
 have hl := (hv _ hS).len; have hl2 := (hv2 _ hS).len
 refine c_seq (c_region ?_)
 refine aN hf hS ?_; clear hf; intro a hf
 refine done_l (t_normal (c_seq (c_seq (c_region ?_))))
 refine mN hf hS ?_; clear hf; intro a hf
 refine sR hf hS (rd_len hf rfl rfl Tryz.underlying59) ?_; clear hf; intro a hf
 refine mN hf hS ?_; clear hf; intro a hf
 refine sR hf hS (rd_len hf rfl rfl Tryz.underlying59) ?_; clear hf; intro a hf
 refine sB hf hS (rd_neq hf rfl rfl rfl) ?_ ?_
 ·
  clear hf; intro hc1 a hf
  refine done_l (t_normal ?_)
  refine c_true hf rfl ?_
  refine c_seq (c_region ?_)
  refine aN hf hS ?_; clear hf; intro a hf
  refine done_l (t_normal (c_ret (t_ret ?_)))
  refine eT hf ?_
  refine ⟨congrArg Value.bool ?_, hS.subA⟩
  clear hf hS
  first | exact (decide_eq_false (eq_len (by omega))).symm | exact (decide_eq_false (eq_no hget hget2 hEQ)).symm | exact (decide_eq_true (eq_done hlen hok)).symm
 clear hf; intro hc1 a hf
 have hlen : ds.length = ds2.length := by omega
 refine done_l (t_normal ?_)
 refine c_false hf rfl ?_
 refine c_skip (t_normal (c_seq (c_seq (c_region ?_))))
 refine mN hf hS ?_; clear hf; intro a hf
 refine sR hf hS (rd_len hf rfl rfl Tryz.underlying59) ?_; clear hf; intro a hf
 refine mN hf hS ?_; clear hf; intro a hf
 refine done_l (t_normal (c_block ?_))
 have hk0 := Keep.ofA hf [(4, 5), (13, 25)]
 refine c_loopK hk0 (α := Nat) (fun k => [(13, .int .i64 (k : Nat))]) (fun k w => Sat W (R) w ∧ k ≤ ds.length ∧ (ds.take k).map pDot = (ds2.take k).map pDot) (fun k => ds.length - k) 0 ((hf.keep hk0).kb hf 13 rfl (by first | rfl | exact int_eq (by omega))) ⟨hS.subA, ⟨by omega, rfl⟩⟩ ?_
 clear hf hS; rintro k a w hf ⟨hS, ⟨hk, hok⟩⟩; (try dsimp only [List.cons_append, List.nil_append] at hf)
 refine c_seq (c_region ?_)
 refine sB hf hS (rd_lss hf rfl rfl rfl) ?_ ?_
 ·
  clear hf; intro hc2 a hf
  obtain ⟨x, hget⟩ := get_of_lt (l := ds) (k := k) (by omega) rfl; obtain ⟨ad, rfl⟩ := (hv _ (hS.subA)).some (by omega); obtain ⟨dn, dc, _⟩ := x
  obtain ⟨x2, hget2⟩ := get_of_lt (l := ds2) (k := k) (by omega) rfl; obtain ⟨ad2, rfl⟩ := (hv2 _ (hS.subA)).some (by omega); obtain ⟨dn2, dc2, _⟩ := x2
  refine done_l (t_normal (c_seq ?_))
  refine c_true hf rfl ?_
  refine c_skip (t_normal (c_seq (c_block (c_seq (c_region ?_)))))
  iterate 2 ((first | refine mN hf hS ?_ | refine aN hf hS ?_); clear hf; intro a hf)
  refine done_l (t_normal (c_seq ?_))
  refine any_begin mixed hS.drew ?_
  replace hS := hS.drew
  have hT := hS
  refine any_takeA (i := 0) hf rfl (Wn.none rfl) (rd_move hf rfl rfl) hT rfl rfl ?_; clear hf; intro a hf
  refine any_takeA (i := 1) hf rfl (Wn.none rfl) (rd_move hf rfl rfl) hT rfl rfl ?_; clear hf; intro a hf
  refine any_takeA (i := 2) hf rfl (Wn.none rfl) ((by first | exact rd_indexAddrN hf rfl rfl rfl Tryz.underlying59 sz87 (by omega) | exact rd_indexAddr hf rfl rfl rfl Tryz.underlying59 sz87 (by first | decide | omega) (by omega))) hT rfl rfl ?_; clear hf; intro a hf
  refine any_takeA (i := 3) hf rfl (Wn.none rfl) (rd_loadN hf rfl rfl ag87 sz87 (by intro _ h; exact (show AggAt _ _ _ [.int .i64 dn, .int .i64 dc] from (hv _ (h.subA)).el hget))) hT rfl rfl ?_; clear hf; intro a hf
  refine any_takeA (i := 4) hf rfl (Wn.none rfl) (rd_move hf rfl rfl) hT rfl rfl ?_; clear hf; intro a hf
  refine any_takeA (i := 5) hf rfl (Wn.none rfl) (rd_move hf rfl rfl) hT rfl rfl ?_; clear hf; intro a hf
  refine any_takeA (i := 6) hf rfl (Wn.none rfl) ((by first | exact rd_indexAddrN hf rfl rfl rfl Tryz.underlying59 sz87 (by omega) | exact rd_indexAddr hf rfl rfl rfl Tryz.underlying59 sz87 (by first | decide | omega) (by omega))) hT rfl rfl ?_; clear hf; intro a hf
  refine any_takeA (i := 7) hf rfl (Wn.none rfl) (rd_loadN hf rfl rfl ag87 sz87 (by intro _ h; exact (show AggAt _ _ _ [.int .i64 dn2, .int .i64 dc2] from (hv2 _ (h.subA)).el hget2))) hT rfl rfl ?_; clear hf; intro a hf
  refine any_takeB (i := 8) hf rfl (by kernel_rfl) (by kernel_rfl) (by kernel_rfl) (fun _ _ _ _ h => h) (Wn.none rfl) ((rd_neqP hf rfl rfl rfl eq_dot eqg87)) hT rfl rfl ?_ ?_
  ·
   clear hf; intro hc3 a hf
   have hEQ := hc3
   refine any_done (by kernel_rfl) ?_
   refine t_normal ?_
   refine c_true hf rfl ?_
   refine c_seq (c_region ?_)
   refine aN hf hS ?_; clear hf; intro a hf
   refine done_l (t_normal (c_ret (b_ret (t_ret (t_ret (b_ret (t_ret ?_)))))))
   refine eT hf ?_
   refine ⟨congrArg Value.bool ?_, hS.subA⟩
   clear hf hS
   first | exact (decide_eq_false (eq_len (by omega))).symm | exact (decide_eq_false (eq_no hget hget2 hEQ)).symm | exact (decide_eq_true (eq_done hlen hok)).symm
  clear hf; intro hc3 a hf
  have hEQ := hc3
  refine any_done (by kernel_rfl) ?_
  refine t_normal ?_
  refine c_false hf rfl ?_
  refine c_skip (b_normal (t_normal (c_region ?_)))
  refine sP hf hS ?_; clear hf; intro a hf
  refine mN hf hS ?_; clear hf; intro a hf
  refine done_l ?_
  refine t_normal ⟨k + 1, ((hf.backA hk0).kb hf 13 rfl (by first | rfl | exact int_eq (by omega))), ⟨hS.subA, ⟨by omega, eq_step hget hget2 hok (Classical.not_not.1 hEQ)⟩⟩, by first | omega | (simp only []; omega)⟩
 clear hf; intro hc2 a hf
 obtain rfl : k = ds.length := by omega
 refine done_l (t_normal (c_seq ?_))
 refine c_false hf rfl ?_
 refine c_exit (t_exit (t_exit (b_exit (t_normal (c_seq (c_region ?_))))))
 refine aN hf hS ?_; clear hf; intro a hf
 refine done_l (t_normal (c_ret ?_))
 refine eT hf ?_
 refine ⟨congrArg Value.bool ?_, hS.subA⟩
 clear hf hS
 first | exact (decide_eq_false (eq_len (by omega))).symm | exact (decide_eq_false (eq_no hget hget2 hEQ)).symm | exact (decide_eq_true (eq_done hlen hok)).symm

theorem RSame_c (s0 s1 s2 s3 s4 s5 s6 s7 : Int) (vs : List ValT) (q : Option Addr) (c : Nat) (t0 t1 t2 t3 t4 t5 t6 t7 : Int) (vs2 : List ValT) (q2 : Option Addr) (c2 : Nat) {W : World} {R : List HP} {w : World} (hS : Sat W (R) w) (hv : ∀ w, Sat W R w → ValsAt w (q, c, vs)) (hv2 : ∀ w, Sat W R w → ValsAt w (q2, c2, vs2)) : Calls Tryz.prog 50 [.agg #[.int .i64 s0, .int .i64 s1, .int .i64 s2, .int .i64 s3, .int .i64 s4, .int .i64 s5, .int .i64 s6, .int .i64 s7, .slice q vs.length c], .agg #[.int .i64 t0, .int .i64 t1, .int .i64 t2, .int .i64 t3, .int .i64 t4, .int .i64 t5, .int .i64 t6, .int .i64 t7, .slice q2 vs2.length c2]].toArray w (Ret fun v w' => v = .bool (decide ((([s0, s1, s2, s3, s4, s5, s6, s7], vs.map pVal) : PSib) = (([t0, t1, t2, t3, t4, t5, t6, t7], vs2.map pVal) : PSib))) ∧ Sat W R w') := by
 refine fn_start 57 Tryz.func50 rfl rfl rfl ?_
 intro a hf
 have hl := (hv _ hS).len; have hl2 := (hv2 _ hS).len
 refine c_seq (c_region ?_)
 refine step_l (st_box hf (Wn.none rfl) hS rfl rfl (by rfl) rfl rfl ?_)
 clear hf hS; intro b_s a w hf hS
 refine step_l (st_box hf (Wn.none rfl) hS rfl rfl (by rfl) rfl rfl ?_)
 clear hf hS; intro b_t a w hf hS
 refine aN hf hS ?_; clear hf; intro a hf
 refine done_l (t_normal (c_seq (c_seq (c_region ?_))))
 refine fA hf hS fb56_0 ?_; clear hf; intro a hf
 refine sR hf hS (rd_ldN hf ag53 sz53) ?_; clear hf; intro a hf
 refine fA hf hS fb56_0 ?_; clear hf; intro a hf
 refine sR hf hS (rd_ldN hf ag53 sz53) ?_; clear hf; intro a hf
 refine sB hf hS ((rd_neqA (l := [s0, s1, s2, s3, s4, s5, s6, s7]) (l' := [t0, t1, t2, t3, t4, t5, t6, t7]) hf rfl rfl rfl Tryz.underlying53 info2 cells2 ag2 Tryz.underlying2 eqg53 rfl rfl)) ?_ ?_
 ·
  clear hf; intro hc3 a hf
  have hVE := hc3
  iterate 9 ((first | refine kS hf ?_ | refine mN hf hS ?_ | refine pT hf hS ?_); clear hf; intro a hf)
  refine done_l (t_normal ?_)
  refine c_true hf rfl ?_
  refine c_seq (c_region ?_)
  refine aN hf hS ?_; clear hf; intro a hf
  refine done_l (t_normal (c_ret (t_ret ?_)))
  refine eT hf ?_
  refine ⟨congrArg Value.bool ?_, hS.subA⟩
  clear hf hS
  first | exact pair_no1 hVE | exact (decide_eq_false (pr_n2 (eq_len (by omega)))).symm | exact (decide_eq_false (pr_n2 (eq_no (f := pVal) hget hget2 (tri_n1 hDE)))).symm | exact (decide_eq_false (pr_n2 (eq_no (f := pVal) hget hget2 (tri_n3 hBE)))).symm | exact (decide_eq_false (pr_n2 (eq_no (f := pVal) hget hget2 (tri_n2 hTE)))).symm | exact (decide_eq_true (pr_all (Classical.not_not.1 hVE) (eq_done hlen hok))).symm
 clear hf; intro hc3 a hf
 have hVE := hc3
 refine mN hf hS ?_; clear hf; intro a hf
 refine fG hf hS fb56_1 ?_; clear hf; intro a hf
 refine sG hf hS (rd_ld hf ag54) ?_; clear hf; intro a hf
 refine sG hf hS (rd_len hf rfl rfl Tryz.underlying54) ?_; clear hf; intro a hf
 refine fG hf hS fb56_1 ?_; clear hf; intro a hf
 refine sG hf hS (rd_ld hf ag54) ?_; clear hf; intro a hf
 refine sG hf hS (rd_len hf rfl rfl Tryz.underlying54) ?_; clear hf; intro a hf
 refine step_l (st_rdB hf (Wn.some hf rfl rfl rfl rfl) (rd_neq hf rfl rfl rfl) hS rfl rfl ?_ ?_)
 ·
  clear hf; intro hc4 a hf
  refine pF hf hS ?_; clear hf; intro a hf
  refine done_l (t_normal ?_)
  refine c_true hf rfl ?_
  refine c_seq (c_region ?_)
  refine aN hf hS ?_; clear hf; intro a hf
  refine done_l (t_normal (c_ret (t_ret ?_)))
  refine eT hf ?_
  refine ⟨congrArg Value.bool ?_, hS.subA⟩
  clear hf hS
  first | exact pair_no1 hVE | exact (decide_eq_false (pr_n2 (eq_len (by omega)))).symm | exact (decide_eq_false (pr_n2 (eq_no (f := pVal) hget hget2 (tri_n1 hDE)))).symm | exact (decide_eq_false (pr_n2 (eq_no (f := pVal) hget hget2 (tri_n3 hBE)))).symm | exact (decide_eq_false (pr_n2 (eq_no (f := pVal) hget hget2 (tri_n2 hTE)))).symm | exact (decide_eq_true (pr_all (Classical.not_not.1 hVE) (eq_done hlen hok))).symm
 clear hf; intro hc4 a hf
 have hlen : vs.length = vs2.length := by omega
 refine pF hf hS ?_; clear hf; intro a hf
 refine done_l (t_normal ?_)
 refine c_false hf rfl ?_
 refine c_skip (t_normal (c_seq (c_seq (c_region ?_))))
 refine fA hf hS fb56_1 ?_; clear hf; intro a hf
 refine sR hf hS (rd_ld hf ag54) ?_; clear hf; intro a hf
 refine sR hf hS (rd_len hf rfl rfl Tryz.underlying54) ?_; clear hf; intro a hf
 refine mN hf hS ?_; clear hf; intro a hf
 refine done_l (t_normal (c_block ?_))
 have hk0 := Keep.ofA hf [(4, 7), (25, 56)]
 refine c_loopK hk0 (α := Nat) (fun k => [(25, .int .i64 (k : Nat))]) (fun k w => Sat W (Blk b_s [.int .i64 s0, .int .i64 s1, .int .i64 s2, .int .i64 s3, .int .i64 s4, .int .i64 s5, .int .i64 s6, .int .i64 s7, .slice q vs.length c] 56 :: Blk b_t [.int .i64 t0, .int .i64 t1, .int .i64 t2, .int .i64 t3, .int .i64 t4, .int .i64 t5, .int .i64 t6, .int .i64 t7, .slice q2 vs2.length c2] 56 :: R) w ∧ k ≤ vs.length ∧ (vs.take k).map pVal = (vs2.take k).map pVal) (fun k => vs.length - k) 0 ((hf.keep hk0).kb hf 25 rfl (by first | rfl | exact int_eq (by omega))) ⟨hS.subA, ⟨by omega, rfl⟩⟩ ?_
 clear hf hS; rintro k a w hf ⟨hS, ⟨hk, hok⟩⟩; (try dsimp only [List.cons_append, List.nil_append] at hf)
 refine c_seq (c_region ?_)
 refine sB hf hS (rd_lss hf rfl rfl rfl) ?_ ?_
 ·
  clear hf; intro hc5 a hf
  obtain ⟨x, hget⟩ := get_of_lt (l := vs) (k := k) (by omega) rfl; obtain ⟨ad, rfl⟩ := (hv _ (hS.subA)).some (by omega); have hvx := fun w h => ((hv w h).in hget).1; obtain ⟨⟨dn, dc, _⟩, ⟨xq, xc, bs⟩, dead, _⟩ := x
  obtain ⟨x2, hget2⟩ := get_of_lt (l := vs2) (k := k) (by omega) rfl; obtain ⟨ad2, rfl⟩ := (hv2 _ (hS.subA)).some (by omega); have hvx2 := fun w h => ((hv2 w h).in hget2).1; obtain ⟨⟨dn2, dc2, _⟩, ⟨xq2, xc2, bs2⟩, dead2, _⟩ := x2
  refine done_l (t_normal (c_seq ?_))
  refine c_true hf rfl ?_
  refine c_skip (t_normal (c_seq (c_block (c_seq (c_region ?_)))))
  refine mN hf hS ?_; clear hf; intro a hf
  refine sR hf hS ((by first | exact rd_indexAddrN hf rfl rfl rfl Tryz.underlying54 sz107 (by omega) | exact rd_indexAddr hf rfl rfl rfl Tryz.underlying54 sz107 (by first | decide | omega) (by omega))) ?_; clear hf; intro a hf
  refine sR hf hS (rd_loadN hf rfl rfl ag107 sz107 (by intro _ h; exact (show AggAt _ _ _ [.int .i64 dn, .int .i64 dc, .slice xq bs.length xc, .bool dead] from (hv _ (h.subA)).el hget))) ?_; clear hf; intro a hf
  refine sA hf hS zr107 ?_
  clear hf hS; intro b_x a w hf hS
  refine aN hf hS ?_; clear hf; intro a hf
  refine sS hf hS sz107 ?_
  clear hf hS; intro a w hf hS
  refine done_l (t_normal (c_seq (c_region ?_)))
  refine fA hf hS fb56_1 ?_; clear hf; intro a hf
  refine sR hf hS (rd_ld hf ag54) ?_; clear hf; intro a hf
  refine mN hf hS ?_; clear hf; intro a hf
  refine sR hf hS ((by first | exact rd_indexAddrN hf rfl rfl rfl Tryz.underlying54 sz107 (by omega) | exact rd_indexAddr hf rfl rfl rfl Tryz.underlying54 sz107 (by first | decide | omega) (by omega))) ?_; clear hf; intro a hf
  refine sR hf hS (rd_loadN hf rfl rfl ag107 sz107 (by intro _ h; exact (show AggAt _ _ _ [.int .i64 dn2, .int .i64 dc2, .slice xq2 bs2.length xc2, .bool dead2] from (hv2 _ (h.subA)).el hget2))) ?_; clear hf; intro a hf
  refine sA hf hS zr107 ?_
  clear hf hS; intro b_y a w hf hS
  refine sS hf hS sz107 ?_
  clear hf hS; intro a w hf hS
  refine done_l (t_normal (c_seq (c_region ?_)))
  refine fA hf hS fb107_0 ?_; clear hf; intro a hf
  refine sR hf hS (rd_ldN hf ag87 sz87) ?_; clear hf; intro a hf
  refine fA hf hS fb107_0 ?_; clear hf; intro a hf
  refine sR hf hS (rd_ldN hf ag87 sz87) ?_; clear hf; intro a hf
  refine sB hf hS ((rd_neqP hf rfl rfl rfl eq_dot eqg87)) ?_ ?_
  ·
   clear hf; intro hc8 a hf
   have hDE := hc8
   iterate 16 ((first | refine kS hf ?_ | refine mN hf hS ?_ | refine pT hf hS ?_); clear hf; intro a hf)
   refine done_l (t_normal ?_)
   refine c_true hf rfl ?_
   refine c_seq (c_region ?_)
   refine aN hf hS ?_; clear hf; intro a hf
   refine done_l (t_normal (c_ret (b_ret (t_ret (t_ret (b_ret (t_ret ?_)))))))
   refine eT hf ?_
   refine ⟨congrArg Value.bool ?_, hS.subA⟩
   clear hf hS
   first | exact pair_no1 hVE | exact (decide_eq_false (pr_n2 (eq_len (by omega)))).symm | exact (decide_eq_false (pr_n2 (eq_no (f := pVal) hget hget2 (tri_n1 hDE)))).symm | exact (decide_eq_false (pr_n2 (eq_no (f := pVal) hget hget2 (tri_n3 hBE)))).symm | exact (decide_eq_false (pr_n2 (eq_no (f := pVal) hget hget2 (tri_n2 hTE)))).symm | exact (decide_eq_true (pr_all (Classical.not_not.1 hVE) (eq_done hlen hok))).symm
  clear hf; intro hc8 a hf
  have hDE := hc8
  refine mN hf hS ?_; clear hf; intro a hf
  refine fG hf hS fb107_2 ?_; clear hf; intro a hf
  refine sG hf hS (rd_ld hf ag4) ?_; clear hf; intro a hf
  refine fG hf hS fb107_2 ?_; clear hf; intro a hf
  refine sG hf hS (rd_ld hf ag4) ?_; clear hf; intro a hf
  refine step_l (st_rdB hf (Wn.some hf rfl rfl rfl rfl) (rd_neqBool hf rfl rfl rfl Tryz.underlying4) hS rfl rfl ?_ ?_)
  ·
   clear hf; intro hc9 a hf
   have hBE := hc9
   iterate 10 ((first | refine kS hf ?_ | refine mN hf hS ?_ | refine pT hf hS ?_ | refine pF hf hS ?_); clear hf; intro a hf)
   refine done_l (t_normal ?_)
   refine c_true hf rfl ?_
   refine c_seq (c_region ?_)
   refine aN hf hS ?_; clear hf; intro a hf
   refine done_l (t_normal (c_ret (b_ret (t_ret (t_ret (b_ret (t_ret ?_)))))))
   refine eT hf ?_
   refine ⟨congrArg Value.bool ?_, hS.subA⟩
   clear hf hS
   first | exact pair_no1 hVE | exact (decide_eq_false (pr_n2 (eq_len (by omega)))).symm | exact (decide_eq_false (pr_n2 (eq_no (f := pVal) hget hget2 (tri_n1 hDE)))).symm | exact (decide_eq_false (pr_n2 (eq_no (f := pVal) hget hget2 (tri_n3 hBE)))).symm | exact (decide_eq_false (pr_n2 (eq_no (f := pVal) hget hget2 (tri_n2 hTE)))).symm | exact (decide_eq_true (pr_all (Classical.not_not.1 hVE) (eq_done hlen hok))).symm
  clear hf; intro hc9 a hf
  have hBE := hc9
  iterate 2 ((first | refine mN hf hS ?_ | refine pF hf hS ?_); clear hf; intro a hf)
  refine fG hf hS fb107_1 ?_; clear hf; intro a hf
  refine sG hf hS (rd_ld hf ag34) ?_; clear hf; intro a hf
  refine sG hf hS (rd_str hf rfl rfl Tryz.underlying34 Tryz.underlying9 Tryz.underlying5 (by intro _ h; first | exact h.slOfRw (by repeat (first | exact Sel.head | apply Sel.tail)) | exact h.slOfBlkPre (by repeat (first | exact Sel.head | apply Sel.tail)) (bvs_len1 _) | exact hvx _ (h.subA) | exact hvx2 _ (h.subA))) ?_; clear hf; intro a hf
  refine fG hf hS fb107_1 ?_; clear hf; intro a hf
  refine sG hf hS (rd_ld hf ag34) ?_; clear hf; intro a hf
  refine sG hf hS (rd_str hf rfl rfl Tryz.underlying34 Tryz.underlying9 Tryz.underlying5 (by intro _ h; first | exact h.slOfRw (by repeat (first | exact Sel.head | apply Sel.tail)) | exact h.slOfBlkPre (by repeat (first | exact Sel.head | apply Sel.tail)) (bvs_len1 _) | exact hvx _ (h.subA) | exact hvx2 _ (h.subA))) ?_; clear hf; intro a hf
  refine step_l (st_rdB hf (Wn.some hf rfl rfl rfl rfl) (rd_neqS hf rfl rfl rfl) hS rfl rfl ?_ ?_)
  ·
   clear hf; intro hc10 a hf
   have hTE := hc10
   refine pF hf hS ?_; clear hf; intro a hf
   refine done_l (t_normal ?_)
   refine c_true hf rfl ?_
   refine c_seq (c_region ?_)
   refine aN hf hS ?_; clear hf; intro a hf
   refine done_l (t_normal (c_ret (b_ret (t_ret (t_ret (b_ret (t_ret ?_)))))))
   refine eT hf ?_
   refine ⟨congrArg Value.bool ?_, hS.subA⟩
   clear hf hS
   first | exact pair_no1 hVE | exact (decide_eq_false (pr_n2 (eq_len (by omega)))).symm | exact (decide_eq_false (pr_n2 (eq_no (f := pVal) hget hget2 (tri_n1 hDE)))).symm | exact (decide_eq_false (pr_n2 (eq_no (f := pVal) hget hget2 (tri_n3 hBE)))).symm | exact (decide_eq_false (pr_n2 (eq_no (f := pVal) hget hget2 (tri_n2 hTE)))).symm | exact (decide_eq_true (pr_all (Classical.not_not.1 hVE) (eq_done hlen hok))).symm
  clear hf; intro hc10 a hf
  have hTE := hc10
  refine pF hf hS ?_; clear hf; intro a hf
  refine done_l (t_normal ?_)
  refine c_false hf rfl ?_
  refine c_skip (b_normal (t_normal (c_region ?_)))
  refine sP hf hS ?_; clear hf; intro a hf
  refine mN hf hS ?_; clear hf; intro a hf
  refine done_l ?_
  refine t_normal ⟨k + 1, ((hf.backA hk0).kb hf 25 rfl (by first | rfl | exact int_eq (by omega))), ⟨hS.subA, ⟨by omega, eq_step hget hget2 hok (tri_all (Classical.not_not.1 hDE) (Classical.not_not.1 hTE) (Classical.not_not.1 hBE))⟩⟩, by first | omega | (simp only []; omega)⟩
 clear hf; intro hc5 a hf
 obtain rfl : k = vs.length := by omega
 refine done_l (t_normal (c_seq ?_))
 refine c_false hf rfl ?_
 refine c_exit (t_exit (t_exit (b_exit (t_normal (c_seq (c_region ?_))))))
 refine aN hf hS ?_; clear hf; intro a hf
 refine done_l (t_normal (c_ret ?_))
 refine eT hf ?_
 refine ⟨congrArg Value.bool ?_, hS.subA⟩
 clear hf hS
 first | exact pair_no1 hVE | exact (decide_eq_false (pr_n2 (eq_len (by omega)))).symm | exact (decide_eq_false (pr_n2 (eq_no (f := pVal) hget hget2 (tri_n1 hDE)))).symm | exact (decide_eq_false (pr_n2 (eq_no (f := pVal) hget hget2 (tri_n3 hBE)))).symm | exact (decide_eq_false (pr_n2 (eq_no (f := pVal) hget hget2 (tri_n2 hTE)))).symm | exact (decide_eq_true (pr_all (Classical.not_not.1 hVE) (eq_done hlen hok))).symm

theorem REnts_c (es : List EntT) (q : Option Addr) (c : Nat) (es2 : List EntT) (q2 : Option Addr) (c2 : Nat) {W : World} {R : List HP} {w : World} (hS : Sat W (R) w) (hv : ∀ w, Sat W R w → EntsAt w (q, c, es)) (hv2 : ∀ w, Sat W R w → EntsAt w (q2, c2, es2)) : Calls Tryz.prog 28 [.slice q es.length c, .slice q2 es2.length c2].toArray w (Ret fun v w' => v = .bool (decide (es.map pEnt = es2.map pEnt)) ∧ Sat W R w') := by
 refine fn_start 42 Tryz.func28 rfl rfl rfl ?_
 intro a hf
 have hl := (hv _ hS).len; have hl2 := (hv2 _ hS).len
 refine c_seq (c_region ?_)
 refine aN hf hS ?_; clear hf; intro a hf
 refine done_l (t_normal (c_seq (c_seq (c_region ?_))))
 refine mN hf hS ?_; clear hf; intro a hf
 refine sR hf hS (rd_len hf rfl rfl Tryz.underlying28) ?_; clear hf; intro a hf
 refine mN hf hS ?_; clear hf; intro a hf
 refine sR hf hS (rd_len hf rfl rfl Tryz.underlying28) ?_; clear hf; intro a hf
 refine sB hf hS (rd_neq hf rfl rfl rfl) ?_ ?_
 ·
  clear hf; intro hc1 a hf
  refine done_l (t_normal ?_)
  refine c_true hf rfl ?_
  refine c_seq (c_region ?_)
  refine aN hf hS ?_; clear hf; intro a hf
  refine done_l (t_normal (c_ret (t_ret ?_)))
  refine eT hf ?_
  refine ⟨congrArg Value.bool ?_, hS.subA⟩
  clear hf hS
  first | exact (decide_eq_false (eq_len (by omega))).symm | exact (decide_eq_false (eq_no (f := pEnt) hget hget2 (tri_n1 hKE))).symm | exact (decide_eq_false (eq_no (f := pEnt) hget hget2 (pr_n2 hSE))).symm | exact (decide_eq_true (eq_done hlen hok)).symm
 clear hf; intro hc1 a hf
 have hlen : es.length = es2.length := by omega
 refine done_l (t_normal ?_)
 refine c_false hf rfl ?_
 refine c_skip (t_normal (c_seq (c_seq (c_region ?_))))
 refine mN hf hS ?_; clear hf; intro a hf
 refine sR hf hS (rd_len hf rfl rfl Tryz.underlying28) ?_; clear hf; intro a hf
 refine mN hf hS ?_; clear hf; intro a hf
 refine done_l (t_normal (c_block ?_))
 have hk0 := Keep.ofA hf [(4, 5), (13, 41)]
 refine c_loopK hk0 (α := Nat) (fun k => [(13, .int .i64 (k : Nat))]) (fun k w => Sat W (R) w ∧ k ≤ es.length ∧ (es.take k).map pEnt = (es2.take k).map pEnt) (fun k => es.length - k) 0 ((hf.keep hk0).kb hf 13 rfl (by first | rfl | exact int_eq (by omega))) ⟨hS.subA, ⟨by omega, rfl⟩⟩ ?_
 clear hf hS; rintro k a w hf ⟨hS, ⟨hk, hok⟩⟩; (try dsimp only [List.cons_append, List.nil_append] at hf)
 refine c_seq (c_region ?_)
 refine sB hf hS (rd_lss hf rfl rfl rfl) ?_ ?_
 ·
  clear hf; intro hc2 a hf
  obtain ⟨x, hget⟩ := get_of_lt (l := es) (k := k) (by omega) rfl; obtain ⟨ad, rfl⟩ := (hv _ (hS.subA)).some (by omega); have h8 := ((hv _ (hS.subA)).in hget).1; have hvx := fun w h => ((hv w h).in hget).2; obtain ⟨ky, ⟨seen, ⟨xq, xc, xs⟩, _⟩, _⟩ := x; obtain ⟨s0, s1, s2, s3, s4, s5, s6, s7, rfl⟩ := len8 h8
  obtain ⟨x2, hget2⟩ := get_of_lt (l := es2) (k := k) (by omega) rfl; obtain ⟨ad2, rfl⟩ := (hv2 _ (hS.subA)).some (by omega); have h82 := ((hv2 _ (hS.subA)).in hget2).1; have hvx2 := fun w h => ((hv2 w h).in hget2).2; obtain ⟨ky2, ⟨seen2, ⟨xq2, xc2, xs2⟩, _⟩, _⟩ := x2; obtain ⟨t0, t1, t2, t3, t4, t5, t6, t7, rfl⟩ := len8 h82
  refine done_l (t_normal (c_seq ?_))
  refine c_true hf rfl ?_
  refine c_skip (t_normal (c_seq (c_block (c_seq (c_region ?_)))))
  iterate 2 ((first | refine mN hf hS ?_ | refine aN hf hS ?_); clear hf; intro a hf)
  refine done_l (t_normal (c_seq ?_))
  refine any_begin mixed hS.drew ?_
  replace hS := hS.drew
  have hT := hS
  refine any_takeA (i := 0) hf rfl (Wn.none rfl) (rd_move hf rfl rfl) hT rfl rfl ?_; clear hf; intro a hf
  refine any_takeA (i := 1) hf rfl (Wn.none rfl) (rd_move hf rfl rfl) hT rfl rfl ?_; clear hf; intro a hf
  refine any_takeA (i := 2) hf rfl (Wn.none rfl) ((by first | exact rd_indexAddrN hf rfl rfl rfl Tryz.underlying28 sz58 (by omega) | exact rd_indexAddr hf rfl rfl rfl Tryz.underlying28 sz58 (by first | decide | omega) (by omega))) hT rfl rfl ?_; clear hf; intro a hf
  refine any_takeA (i := 3) hf rfl (Wn.none rfl) ((by first | exact rd_fieldAddrB hf rfl rfl fb58_0 rfl | exact rd_fieldAddr hf rfl rfl fb58_0)) hT rfl rfl ?_; clear hf; intro a hf
  refine any_takeA (i := 4) hf rfl (Wn.none rfl) (rd_load1 hf rfl rfl ag9 (by intro _ h; exact (show AggAt _ _ _ [.string (str ky), .int .i64 s0, .int .i64 s1, .int .i64 s2, .int .i64 s3, .int .i64 s4, .int .i64 s5, .int .i64 s6, .int .i64 s7, .slice xq xs.length xc] from (hv _ (h.subA)).el hget).2 0 _ rfl)) hT rfl rfl ?_; clear hf; intro a hf
  refine any_takeA (i := 5) hf rfl (Wn.none rfl) (rd_move hf rfl rfl) hT rfl rfl ?_; clear hf; intro a hf
  refine any_takeA (i := 6) hf rfl (Wn.none rfl) (rd_move hf rfl rfl) hT rfl rfl ?_; clear hf; intro a hf
  refine any_takeA (i := 7) hf rfl (Wn.none rfl) ((by first | exact rd_indexAddrN hf rfl rfl rfl Tryz.underlying28 sz58 (by omega) | exact rd_indexAddr hf rfl rfl rfl Tryz.underlying28 sz58 (by first | decide | omega) (by omega))) hT rfl rfl ?_; clear hf; intro a hf
  refine any_takeA (i := 8) hf rfl (Wn.none rfl) ((by first | exact rd_fieldAddrB hf rfl rfl fb58_0 rfl | exact rd_fieldAddr hf rfl rfl fb58_0)) hT rfl rfl ?_; clear hf; intro a hf
  refine any_takeA (i := 9) hf rfl (Wn.none rfl) (rd_load1 hf rfl rfl ag9 (by intro _ h; exact (show AggAt _ _ _ [.string (str ky2), .int .i64 t0, .int .i64 t1, .int .i64 t2, .int .i64 t3, .int .i64 t4, .int .i64 t5, .int .i64 t6, .int .i64 t7, .slice xq2 xs2.length xc2] from (hv2 _ (h.subA)).el hget2).2 0 _ rfl)) hT rfl rfl ?_; clear hf; intro a hf
  refine any_takeB (i := 10) hf rfl (by kernel_rfl) (by kernel_rfl) (by kernel_rfl) (fun _ _ _ _ h => h) (Wn.none rfl) (rd_neqS hf rfl rfl rfl) hT rfl rfl ?_ ?_
  ·
   clear hf; intro hc3 a hf
   have hKE := hc3
   refine any_takeA (i := 11) hf rfl (Wn.none rfl) (rd_move hf rfl rfl) hT rfl rfl ?_; clear hf; intro a hf
   refine yS (i := 12) hf hT ?_; clear hf; intro a hf
   refine yS (i := 13) hf hT ?_; clear hf; intro a hf
   refine yS (i := 14) hf hT ?_; clear hf; intro a hf
   refine yS (i := 15) hf hT ?_; clear hf; intro a hf
   refine yS (i := 16) hf hT ?_; clear hf; intro a hf
   refine yS (i := 17) hf hT ?_; clear hf; intro a hf
   refine yS (i := 18) hf hT ?_; clear hf; intro a hf
   refine yS (i := 19) hf hT ?_; clear hf; intro a hf
   refine yS (i := 20) hf hT ?_; clear hf; intro a hf
   refine yS (i := 21) hf hT ?_; clear hf; intro a hf
   refine yS (i := 22) hf hT ?_; clear hf; intro a hf
   refine yS (i := 23) hf hT ?_; clear hf; intro a hf
   refine any_takeA (i := 24) hf rfl (Wn.none rfl) (rd_pick_t hf rfl rfl rfl) hT rfl rfl ?_; clear hf; intro a hf
   refine any_done (by kernel_rfl) ?_
   refine t_normal ?_
   refine c_true hf rfl ?_
   refine c_seq (c_region ?_)
   refine aN hf hS ?_; clear hf; intro a hf
   refine done_l (t_normal (c_ret (b_ret (t_ret (t_ret (b_ret (t_ret ?_)))))))
   refine eT hf ?_
   refine ⟨congrArg Value.bool ?_, hS.subA⟩
   clear hf hS
   first | exact (decide_eq_false (eq_len (by omega))).symm | exact (decide_eq_false (eq_no (f := pEnt) hget hget2 (tri_n1 hKE))).symm | exact (decide_eq_false (eq_no (f := pEnt) hget hget2 (pr_n2 hSE))).symm | exact (decide_eq_true (eq_done hlen hok)).symm
  clear hf; intro hc3 a hf
  have hKE := hc3
  refine any_takeA (i := 11) hf rfl (Wn.none rfl) (rd_move hf rfl rfl) hT rfl rfl ?_; clear hf; intro a hf
  refine any_takeA (i := 12) hf rfl (Wn.some hf rfl rfl rfl rfl) (rd_move hf rfl rfl) hT rfl rfl ?_; clear hf; intro a hf
  refine any_takeA (i := 13) hf rfl (Wn.some hf rfl rfl rfl rfl) (rd_move hf rfl rfl) hT rfl rfl ?_; clear hf; intro a hf
  refine any_takeA (i := 14) hf rfl (Wn.some hf rfl rfl rfl rfl) ((by first | exact rd_indexAddrN hf rfl rfl rfl Tryz.underlying28 sz58 (by omega) | exact rd_indexAddr hf rfl rfl rfl Tryz.underlying28 sz58 (by first | decide | omega) (by omega))) hT rfl rfl ?_; clear hf; intro a hf
  refine any_takeA (i := 15) hf rfl (Wn.some hf rfl rfl rfl rfl) ((by first | exact rd_fieldAddrB hf rfl rfl fb58_1 rfl | exact rd_fieldAddr hf rfl rfl fb58_1)) hT rfl rfl ?_; clear hf; intro a hf
  refine any_takeA (i := 16) hf rfl (Wn.some hf rfl rfl rfl rfl) (rd_loadN hf rfl rfl ag56 sz56 (by intro _ h; exact ((show AggAt _ _ _ [.string (str ky), .int .i64 s0, .int .i64 s1, .int .i64 s2, .int .i64 s3, .int .i64 s4, .int .i64 s5, .int .i64 s6, .int .i64 s7, .slice xq xs.length xc] from (hv _ (h.subA)).el hget).part (k := 1) (m := 9) rfl (by decide)))) hT rfl rfl ?_; clear hf; intro a hf
  refine any_takeA (i := 17) hf rfl (Wn.some hf rfl rfl rfl rfl) (rd_move hf rfl rfl) hT rfl rfl ?_; clear hf; intro a hf
  refine any_takeA (i := 18) hf rfl (Wn.some hf rfl rfl rfl rfl) (rd_move hf rfl rfl) hT rfl rfl ?_; clear hf; intro a hf
  refine any_takeA (i := 19) hf rfl (Wn.some hf rfl rfl rfl rfl) ((by first | exact rd_indexAddrN hf rfl rfl rfl Tryz.underlying28 sz58 (by omega) | exact rd_indexAddr hf rfl rfl rfl Tryz.underlying28 sz58 (by first | decide | omega) (by omega))) hT rfl rfl ?_; clear hf; intro a hf
  refine any_takeA (i := 20) hf rfl (Wn.some hf rfl rfl rfl rfl) ((by first | exact rd_fieldAddrB hf rfl rfl fb58_1 rfl | exact rd_fieldAddr hf rfl rfl fb58_1)) hT rfl rfl ?_; clear hf; intro a hf
  refine any_takeA (i := 21) hf rfl (Wn.some hf rfl rfl rfl rfl) (rd_loadN hf rfl rfl ag56 sz56 (by intro _ h; exact ((show AggAt _ _ _ [.string (str ky2), .int .i64 t0, .int .i64 t1, .int .i64 t2, .int .i64 t3, .int .i64 t4, .int .i64 t5, .int .i64 t6, .int .i64 t7, .slice xq2 xs2.length xc2] from (hv2 _ (h.subA)).el hget2).part (k := 1) (m := 9) rfl (by decide)))) hT rfl rfl ?_; clear hf; intro a hf
  refine any_one (i := 22) rfl (by kernel_rfl) (st_call hf (Wn.some hf rfl rfl rfl rfl) rfl rfl rfl fn50 (RSame_c _ _ _ _ _ _ _ _ _ _ _ _ _ _ _ _ _ _ _ _ _ _  hS (fun _ h => hvx _ (h.subA)) (fun _ h => hvx2 _ (h.subA))) rfl rfl ?_)
  clear hf hS; rintro v a w ⟨rfl, hS⟩ hf
  replace hT := hS.subA' hT
  refine ⟨hT, ?_⟩
  first | refine split_dec (d := 38) hf rfl ?_ ?_ | refine split_bool (d := 38) hf rfl ?_ ?_
  ·
   clear hf; intro hc4 hf
   have hSE := hc4
   refine any_takeA (i := 23) hf rfl (Wn.some hf rfl rfl rfl rfl) (rd_not hf rfl rfl) hT rfl rfl ?_; clear hf; intro a hf
   refine any_takeA (i := 24) hf rfl (Wn.none rfl) (rd_pick_f hf rfl rfl rfl) hT rfl rfl ?_; clear hf; intro a hf
   refine any_done (by kernel_rfl) ?_
   refine t_normal ?_
   refine c_false hf rfl ?_
   refine c_skip (b_normal (t_normal (c_region ?_)))
   refine sP hf hS ?_; clear hf; intro a hf
   refine mN hf hS ?_; clear hf; intro a hf
   refine done_l ?_
   refine t_normal ⟨k + 1, ((hf.backA hk0).kb hf 13 rfl (by first | rfl | exact int_eq (by omega))), ⟨hS.subA, ⟨by omega, eq_step hget hget2 hok (pr_all (Classical.not_not.1 hKE) hSE)⟩⟩, by first | omega | (simp only []; omega)⟩
  clear hf; intro hc4 hf
  have hSE := hc4
  refine any_takeA (i := 23) hf rfl (Wn.some hf rfl rfl rfl rfl) (rd_not hf rfl rfl) hT rfl rfl ?_; clear hf; intro a hf
  refine any_takeA (i := 24) hf rfl (Wn.none rfl) (rd_pick_f hf rfl rfl rfl) hT rfl rfl ?_; clear hf; intro a hf
  refine any_done (by kernel_rfl) ?_
  refine t_normal ?_
  refine c_true hf rfl ?_
  refine c_seq (c_region ?_)
  refine aN hf hS ?_; clear hf; intro a hf
  refine done_l (t_normal (c_ret (b_ret (t_ret (t_ret (b_ret (t_ret ?_)))))))
  refine eT hf ?_
  refine ⟨congrArg Value.bool ?_, hS.subA⟩
  clear hf hS
  first | exact (decide_eq_false (eq_len (by omega))).symm | exact (decide_eq_false (eq_no (f := pEnt) hget hget2 (tri_n1 hKE))).symm | exact (decide_eq_false (eq_no (f := pEnt) hget hget2 (pr_n2 hSE))).symm | exact (decide_eq_true (eq_done hlen hok)).symm
 clear hf; intro hc2 a hf
 obtain rfl : k = es.length := by omega
 refine done_l (t_normal (c_seq ?_))
 refine c_false hf rfl ?_
 refine c_exit (t_exit (t_exit (b_exit (t_normal (c_seq (c_region ?_))))))
 refine aN hf hS ?_; clear hf; intro a hf
 refine done_l (t_normal (c_ret ?_))
 refine eT hf ?_
 refine ⟨congrArg Value.bool ?_, hS.subA⟩
 clear hf hS
 first | exact (decide_eq_false (eq_len (by omega))).symm | exact (decide_eq_false (eq_no (f := pEnt) hget hget2 (tri_n1 hKE))).symm | exact (decide_eq_false (eq_no (f := pEnt) hget hget2 (pr_n2 hSE))).symm | exact (decide_eq_true (eq_done hlen hok)).symm

theorem RDigs_c (ds : List DigT) (q : Option Addr) (c : Nat) (ds2 : List DigT) (q2 : Option Addr) (c2 : Nat) {W : World} {R : List HP} {w : World} (hS : Sat W (R) w) (hv : ∀ w, Sat W R w → DigsAt w (q, c, ds)) (hv2 : ∀ w, Sat W R w → DigsAt w (q2, c2, ds2)) : Calls Tryz.prog 29 [.slice q ds.length c, .slice q2 ds2.length c2].toArray w (Ret fun v w' => v = .bool (decide (ds.map pDig = ds2.map pDig)) ∧ Sat W R w') := by
 refine fn_start 55 Tryz.func29 rfl rfl rfl ?_
 intro a hf
 have hl := (hv _ hS).len; have hl2 := (hv2 _ hS).len
 refine c_seq (c_region ?_)
 refine aN hf hS ?_; clear hf; intro a hf
 refine done_l (t_normal (c_seq (c_seq (c_region ?_))))
 refine mN hf hS ?_; clear hf; intro a hf
 refine sR hf hS (rd_len hf rfl rfl Tryz.underlying29) ?_; clear hf; intro a hf
 refine mN hf hS ?_; clear hf; intro a hf
 refine sR hf hS (rd_len hf rfl rfl Tryz.underlying29) ?_; clear hf; intro a hf
 refine sB hf hS (rd_neq hf rfl rfl rfl) ?_ ?_
 ·
  clear hf; intro hc1 a hf
  refine done_l (t_normal ?_)
  refine c_true hf rfl ?_
  refine c_seq (c_region ?_)
  refine aN hf hS ?_; clear hf; intro a hf
  refine done_l (t_normal (c_ret (t_ret ?_)))
  refine eT hf ?_
  refine ⟨congrArg Value.bool ?_, hS.subA⟩
  clear hf hS
  first | exact (decide_eq_false (eq_len (by omega))).symm | exact (decide_eq_false (eq_no (f := pDig) hget hget2 (tri_n1 hKE))).symm | exact (decide_eq_false (eq_no (f := pDig) hget hget2 (tri_n2 hVE))).symm | exact (decide_eq_false (eq_no (f := pDig) hget hget2 (tri_n3 hSE))).symm | exact (decide_eq_true (eq_done hlen hok)).symm
 clear hf; intro hc1 a hf
 have hlen : ds.length = ds2.length := by omega
 refine done_l (t_normal ?_)
 refine c_false hf rfl ?_
 refine c_skip (t_normal (c_seq (c_seq (c_region ?_))))
 refine mN hf hS ?_; clear hf; intro a hf
 refine sR hf hS (rd_len hf rfl rfl Tryz.underlying29) ?_; clear hf; intro a hf
 refine mN hf hS ?_; clear hf; intro a hf
 refine done_l (t_normal (c_block ?_))
 have hk0 := Keep.ofA hf [(4, 5), (13, 54)]
 refine c_loopK hk0 (α := Nat) (fun k => [(13, .int .i64 (k : Nat))]) (fun k w => Sat W (R) w ∧ k ≤ ds.length ∧ (ds.take k).map pDig = (ds2.take k).map pDig) (fun k => ds.length - k) 0 ((hf.keep hk0).kb hf 13 rfl (by first | rfl | exact int_eq (by omega))) ⟨hS.subA, ⟨by omega, rfl⟩⟩ ?_
 clear hf hS; rintro k a w hf ⟨hS, ⟨hk, hok⟩⟩; (try dsimp only [List.cons_append, List.nil_append] at hf)
 refine c_seq (c_region ?_)
 refine sB hf hS (rd_lss hf rfl rfl rfl) ?_ ?_
 ·
  clear hf; intro hc2 a hf
  obtain ⟨x, hget⟩ := get_of_lt (l := ds) (k := k) (by omega) rfl; obtain ⟨ad, rfl⟩ := (hv _ (hS.subA)).some (by omega); have h8 := ((hv _ (hS.subA)).in hget).1; have hvx := fun w h => ((hv w h).in hget).2; obtain ⟨ky, seen, ⟨xq, xc, xs⟩, _⟩ := x; obtain ⟨s0, s1, s2, s3, s4, s5, s6, s7, rfl⟩ := len8 h8
  obtain ⟨x2, hget2⟩ := get_of_lt (l := ds2) (k := k) (by omega) rfl; obtain ⟨ad2, rfl⟩ := (hv2 _ (hS.subA)).some (by omega); have h82 := ((hv2 _ (hS.subA)).in hget2).1; have hvx2 := fun w h => ((hv2 w h).in hget2).2; obtain ⟨ky2, seen2, ⟨xq2, xc2, xs2⟩, _⟩ := x2; obtain ⟨t0, t1, t2, t3, t4, t5, t6, t7, rfl⟩ := len8 h82
  refine done_l (t_normal (c_seq ?_))
  refine c_true hf rfl ?_
  refine c_skip (t_normal (c_seq (c_block (c_seq (c_region ?_)))))
  iterate 2 ((first | refine mN hf hS ?_ | refine aN hf hS ?_); clear hf; intro a hf)
  refine done_l (t_normal (c_seq ?_))
  refine any_begin mixed hS.drew ?_
  replace hS := hS.drew
  have hT := hS
  refine any_takeA (i := 0) hf rfl (Wn.none rfl) (rd_move hf rfl rfl) hT rfl rfl ?_; clear hf; intro a hf
  refine any_takeA (i := 1) hf rfl (Wn.none rfl) (rd_move hf rfl rfl) hT rfl rfl ?_; clear hf; intro a hf
  refine any_takeA (i := 2) hf rfl (Wn.none rfl) ((by first | exact rd_indexAddrN hf rfl rfl rfl Tryz.underlying29 sz61 (by omega) | exact rd_indexAddr hf rfl rfl rfl Tryz.underlying29 sz61 (by first | decide | omega) (by omega))) hT rfl rfl ?_; clear hf; intro a hf
  refine any_takeA (i := 3) hf rfl (Wn.none rfl) ((by first | exact rd_fieldAddrB hf rfl rfl fb61_0 rfl | exact rd_fieldAddr hf rfl rfl fb61_0)) hT rfl rfl ?_; clear hf; intro a hf
  refine any_takeA (i := 4) hf rfl (Wn.none rfl) (rd_load1 hf rfl rfl ag9 (by intro _ h; exact (show AggAt _ _ _ [.string (str ky), .int .i64 s0, .int .i64 s1, .int .i64 s2, .int .i64 s3, .int .i64 s4, .int .i64 s5, .int .i64 s6, .int .i64 s7, .slice xq xs.length xc] from (hv _ (h.subA)).el hget).2 0 _ rfl)) hT rfl rfl ?_; clear hf; intro a hf
  refine any_takeA (i := 5) hf rfl (Wn.none rfl) (rd_move hf rfl rfl) hT rfl rfl ?_; clear hf; intro a hf
  refine any_takeA (i := 6) hf rfl (Wn.none rfl) (rd_move hf rfl rfl) hT rfl rfl ?_; clear hf; intro a hf
  refine any_takeA (i := 7) hf rfl (Wn.none rfl) ((by first | exact rd_indexAddrN hf rfl rfl rfl Tryz.underlying29 sz61 (by omega) | exact rd_indexAddr hf rfl rfl rfl Tryz.underlying29 sz61 (by first | decide | omega) (by omega))) hT rfl rfl ?_; clear hf; intro a hf
  refine any_takeA (i := 8) hf rfl (Wn.none rfl) ((by first | exact rd_fieldAddrB hf rfl rfl fb61_0 rfl | exact rd_fieldAddr hf rfl rfl fb61_0)) hT rfl rfl ?_; clear hf; intro a hf
  refine any_takeA (i := 9) hf rfl (Wn.none rfl) (rd_load1 hf rfl rfl ag9 (by intro _ h; exact (show AggAt _ _ _ [.string (str ky2), .int .i64 t0, .int .i64 t1, .int .i64 t2, .int .i64 t3, .int .i64 t4, .int .i64 t5, .int .i64 t6, .int .i64 t7, .slice xq2 xs2.length xc2] from (hv2 _ (h.subA)).el hget2).2 0 _ rfl)) hT rfl rfl ?_; clear hf; intro a hf
  refine any_takeB (i := 10) hf rfl (by kernel_rfl) (by kernel_rfl) (by kernel_rfl) (fun _ _ _ _ h => h) (Wn.none rfl) (rd_neqS hf rfl rfl rfl) hT rfl rfl ?_ ?_
  ·
   clear hf; intro hc3 a hf
   have hKE := hc3
   refine any_takeA (i := 11) hf rfl (Wn.none rfl) (rd_move hf rfl rfl) hT rfl rfl ?_; clear hf; intro a hf
   refine yS (i := 12) hf hT ?_; clear hf; intro a hf
   refine yS (i := 13) hf hT ?_; clear hf; intro a hf
   refine yS (i := 14) hf hT ?_; clear hf; intro a hf
   refine yS (i := 15) hf hT ?_; clear hf; intro a hf
   refine yS (i := 16) hf hT ?_; clear hf; intro a hf
   refine yS (i := 17) hf hT ?_; clear hf; intro a hf
   refine yS (i := 18) hf hT ?_; clear hf; intro a hf
   refine yS (i := 19) hf hT ?_; clear hf; intro a hf
   refine yS (i := 20) hf hT ?_; clear hf; intro a hf
   refine yS (i := 21) hf hT ?_; clear hf; intro a hf
   refine yS (i := 22) hf hT ?_; clear hf; intro a hf
   refine any_takeA (i := 23) hf rfl (Wn.none rfl) (rd_pick_t hf rfl rfl rfl) hT rfl rfl ?_; clear hf; intro a hf
   refine any_takeA (i := 24) hf rfl (Wn.none rfl) (rd_move hf rfl rfl) hT rfl rfl ?_; clear hf; intro a hf
   refine yS (i := 25) hf hT ?_; clear hf; intro a hf
   refine yS (i := 26) hf hT ?_; clear hf; intro a hf
   refine yS (i := 27) hf hT ?_; clear hf; intro a hf
   refine yS (i := 28) hf hT ?_; clear hf; intro a hf
   refine yS (i := 29) hf hT ?_; clear hf; intro a hf
   refine yS (i := 30) hf hT ?_; clear hf; intro a hf
   refine yS (i := 31) hf hT ?_; clear hf; intro a hf
   refine yS (i := 32) hf hT ?_; clear hf; intro a hf
   refine yS (i := 33) hf hT ?_; clear hf; intro a hf
   refine yS (i := 34) hf hT ?_; clear hf; intro a hf
   refine yS (i := 35) hf hT ?_; clear hf; intro a hf
   refine yS (i := 36) hf hT ?_; clear hf; intro a hf
   refine any_takeA (i := 37) hf rfl (Wn.none rfl) (rd_pick_t hf rfl rfl rfl) hT rfl rfl ?_; clear hf; intro a hf
   refine any_done (by kernel_rfl) ?_
   refine t_normal ?_
   refine c_true hf rfl ?_
   refine c_seq (c_region ?_)
   refine aN hf hS ?_; clear hf; intro a hf
   refine done_l (t_normal (c_ret (b_ret (t_ret (t_ret (b_ret (t_ret ?_)))))))
   refine eT hf ?_
   refine ⟨congrArg Value.bool ?_, hS.subA⟩
   clear hf hS
   first | exact (decide_eq_false (eq_len (by omega))).symm | exact (decide_eq_false (eq_no (f := pDig) hget hget2 (tri_n1 hKE))).symm | exact (decide_eq_false (eq_no (f := pDig) hget hget2 (tri_n2 hVE))).symm | exact (decide_eq_false (eq_no (f := pDig) hget hget2 (tri_n3 hSE))).symm | exact (decide_eq_true (eq_done hlen hok)).symm
  clear hf; intro hc3 a hf
  have hKE := hc3
  refine any_takeA (i := 11) hf rfl (Wn.none rfl) (rd_move hf rfl rfl) hT rfl rfl ?_; clear hf; intro a hf
  refine any_takeA (i := 12) hf rfl (Wn.some hf rfl rfl rfl rfl) (rd_move hf rfl rfl) hT rfl rfl ?_; clear hf; intro a hf
  refine any_takeA (i := 13) hf rfl (Wn.some hf rfl rfl rfl rfl) (rd_move hf rfl rfl) hT rfl rfl ?_; clear hf; intro a hf
  refine any_takeA (i := 14) hf rfl (Wn.some hf rfl rfl rfl rfl) ((by first | exact rd_indexAddrN hf rfl rfl rfl Tryz.underlying29 sz61 (by omega) | exact rd_indexAddr hf rfl rfl rfl Tryz.underlying29 sz61 (by first | decide | omega) (by omega))) hT rfl rfl ?_; clear hf; intro a hf
  refine any_takeA (i := 15) hf rfl (Wn.some hf rfl rfl rfl rfl) ((by first | exact rd_fieldAddrB hf rfl rfl fb61_1 rfl | exact rd_fieldAddr hf rfl rfl fb61_1)) hT rfl rfl ?_; clear hf; intro a hf
  refine any_takeA (i := 16) hf rfl (Wn.some hf rfl rfl rfl rfl) (rd_loadN hf rfl rfl ag53 sz53 (by intro _ h; exact ((show AggAt _ _ _ [.string (str ky), .int .i64 s0, .int .i64 s1, .int .i64 s2, .int .i64 s3, .int .i64 s4, .int .i64 s5, .int .i64 s6, .int .i64 s7, .slice xq xs.length xc] from (hv _ (h.subA)).el hget).part (k := 1) (m := 8) rfl (by decide)))) hT rfl rfl ?_; clear hf; intro a hf
  refine any_takeA (i := 17) hf rfl (Wn.some hf rfl rfl rfl rfl) (rd_move hf rfl rfl) hT rfl rfl ?_; clear hf; intro a hf
  refine any_takeA (i := 18) hf rfl (Wn.some hf rfl rfl rfl rfl) (rd_move hf rfl rfl) hT rfl rfl ?_; clear hf; intro a hf
  refine any_takeA (i := 19) hf rfl (Wn.some hf rfl rfl rfl rfl) ((by first | exact rd_indexAddrN hf rfl rfl rfl Tryz.underlying29 sz61 (by omega) | exact rd_indexAddr hf rfl rfl rfl Tryz.underlying29 sz61 (by first | decide | omega) (by omega))) hT rfl rfl ?_; clear hf; intro a hf
  refine any_takeA (i := 20) hf rfl (Wn.some hf rfl rfl rfl rfl) ((by first | exact rd_fieldAddrB hf rfl rfl fb61_1 rfl | exact rd_fieldAddr hf rfl rfl fb61_1)) hT rfl rfl ?_; clear hf; intro a hf
  refine any_takeA (i := 21) hf rfl (Wn.some hf rfl rfl rfl rfl) (rd_loadN hf rfl rfl ag53 sz53 (by intro _ h; exact ((show AggAt _ _ _ [.string (str ky2), .int .i64 t0, .int .i64 t1, .int .i64 t2, .int .i64 t3, .int .i64 t4, .int .i64 t5, .int .i64 t6, .int .i64 t7, .slice xq2 xs2.length xc2] from (hv2 _ (h.subA)).el hget2).part (k := 1) (m := 8) rfl (by decide)))) hT rfl rfl ?_; clear hf; intro a hf
  refine any_takeB (i := 22) hf rfl (by kernel_rfl) (by kernel_rfl) (by kernel_rfl) (fun _ _ _ _ h => h) (Wn.some hf rfl rfl rfl rfl) ((rd_neqA (l := [s0, s1, s2, s3, s4, s5, s6, s7]) (l' := [t0, t1, t2, t3, t4, t5, t6, t7]) hf rfl rfl rfl Tryz.underlying53 info2 cells2 ag2 Tryz.underlying2 eqg53 rfl rfl)) hT rfl rfl ?_ ?_
  ·
   clear hf; intro hc4 a hf
   have hVE := hc4
   refine any_takeA (i := 23) hf rfl (Wn.none rfl) (rd_pick_f hf rfl rfl rfl) hT rfl rfl ?_; clear hf; intro a hf
   refine any_takeA (i := 24) hf rfl (Wn.none rfl) (rd_move hf rfl rfl) hT rfl rfl ?_; clear hf; intro a hf
   refine yS (i := 25) hf hT ?_; clear hf; intro a hf
   refine yS (i := 26) hf hT ?_; clear hf; intro a hf
   refine yS (i := 27) hf hT ?_; clear hf; intro a hf
   refine yS (i := 28) hf hT ?_; clear hf; intro a hf
   refine yS (i := 29) hf hT ?_; clear hf; intro a hf
   refine yS (i := 30) hf hT ?_; clear hf; intro a hf
   refine yS (i := 31) hf hT ?_; clear hf; intro a hf
   refine yS (i := 32) hf hT ?_; clear hf; intro a hf
   refine yS (i := 33) hf hT ?_; clear hf; intro a hf
   refine yS (i := 34) hf hT ?_; clear hf; intro a hf
   refine yS (i := 35) hf hT ?_; clear hf; intro a hf
   refine yS (i := 36) hf hT ?_; clear hf; intro a hf
   refine any_takeA (i := 37) hf rfl (Wn.none rfl) (rd_pick_t hf rfl rfl rfl) hT rfl rfl ?_; clear hf; intro a hf
   refine any_done (by kernel_rfl) ?_
   refine t_normal ?_
   refine c_true hf rfl ?_
   refine c_seq (c_region ?_)
   refine aN hf hS ?_; clear hf; intro a hf
   refine done_l (t_normal (c_ret (b_ret (t_ret (t_ret (b_ret (t_ret ?_)))))))
   refine eT hf ?_
   refine ⟨congrArg Value.bool ?_, hS.subA⟩
   clear hf hS
   first | exact (decide_eq_false (eq_len (by omega))).symm | exact (decide_eq_false (eq_no (f := pDig) hget hget2 (tri_n1 hKE))).symm | exact (decide_eq_false (eq_no (f := pDig) hget hget2 (tri_n2 hVE))).symm | exact (decide_eq_false (eq_no (f := pDig) hget hget2 (tri_n3 hSE))).symm | exact (decide_eq_true (eq_done hlen hok)).symm
  clear hf; intro hc4 a hf
  have hVE := hc4
  refine any_takeA (i := 23) hf rfl (Wn.none rfl) (rd_pick_f hf rfl rfl rfl) hT rfl rfl ?_; clear hf; intro a hf
  refine any_takeA (i := 24) hf rfl (Wn.none rfl) (rd_move hf rfl rfl) hT rfl rfl ?_; clear hf; intro a hf
  refine any_takeA (i := 25) hf rfl (Wn.some hf rfl rfl rfl rfl) (rd_move hf rfl rfl) hT rfl rfl ?_; clear hf; intro a hf
  refine any_takeA (i := 26) hf rfl (Wn.some hf rfl rfl rfl rfl) (rd_move hf rfl rfl) hT rfl rfl ?_; clear hf; intro a hf
  refine any_takeA (i := 27) hf rfl (Wn.some hf rfl rfl rfl rfl) ((by first | exact rd_indexAddrN hf rfl rfl rfl Tryz.underlying29 sz61 (by omega) | exact rd_indexAddr hf rfl rfl rfl Tryz.underlying29 sz61 (by first | decide | omega) (by omega))) hT rfl rfl ?_; clear hf; intro a hf
  refine any_takeA (i := 28) hf rfl (Wn.some hf rfl rfl rfl rfl) ((by first | exact rd_fieldAddrB hf rfl rfl fb61_2 rfl | exact rd_fieldAddr hf rfl rfl fb61_2)) hT rfl rfl ?_; clear hf; intro a hf
  refine any_takeA (i := 29) hf rfl (Wn.some hf rfl rfl rfl rfl) (rd_load1 hf rfl rfl ag59 (by intro _ h; exact (show AggAt _ _ _ [.string (str ky), .int .i64 s0, .int .i64 s1, .int .i64 s2, .int .i64 s3, .int .i64 s4, .int .i64 s5, .int .i64 s6, .int .i64 s7, .slice xq xs.length xc] from (hv _ (h.subA)).el hget).2 9 _ rfl)) hT rfl rfl ?_; clear hf; intro a hf
  refine any_takeA (i := 30) hf rfl (Wn.some hf rfl rfl rfl rfl) (rd_move hf rfl rfl) hT rfl rfl ?_; clear hf; intro a hf
  refine any_takeA (i := 31) hf rfl (Wn.some hf rfl rfl rfl rfl) (rd_move hf rfl rfl) hT rfl rfl ?_; clear hf; intro a hf
  refine any_takeA (i := 32) hf rfl (Wn.some hf rfl rfl rfl rfl) ((by first | exact rd_indexAddrN hf rfl rfl rfl Tryz.underlying29 sz61 (by omega) | exact rd_indexAddr hf rfl rfl rfl Tryz.underlying29 sz61 (by first | decide | omega) (by omega))) hT rfl rfl ?_; clear hf; intro a hf
  refine any_takeA (i := 33) hf rfl (Wn.some hf rfl rfl rfl rfl) ((by first | exact rd_fieldAddrB hf rfl rfl fb61_2 rfl | exact rd_fieldAddr hf rfl rfl fb61_2)) hT rfl rfl ?_; clear hf; intro a hf
  refine any_takeA (i := 34) hf rfl (Wn.some hf rfl rfl rfl rfl) (rd_load1 hf rfl rfl ag59 (by intro _ h; exact (show AggAt _ _ _ [.string (str ky2), .int .i64 t0, .int .i64 t1, .int .i64 t2, .int .i64 t3, .int .i64 t4, .int .i64 t5, .int .i64 t6, .int .i64 t7, .slice xq2 xs2.length xc2] from (hv2 _ (h.subA)).el hget2).2 9 _ rfl)) hT rfl rfl ?_; clear hf; intro a hf
  refine any_one (i := 35) rfl (by kernel_rfl) (st_call hf (Wn.some hf rfl rfl rfl rfl) rfl rfl rfl fn51 (RDots_c _ _ _ _ _ _  hS (fun _ h => hvx _ (h.subA)) (fun _ h => hvx2 _ (h.subA))) rfl rfl ?_)
  clear hf hS; rintro v a w ⟨rfl, hS⟩ hf
  replace hT := hS.subA' hT
  refine ⟨hT, ?_⟩
  first | refine split_dec (d := 51) hf rfl ?_ ?_ | refine split_bool (d := 51) hf rfl ?_ ?_
  ·
   clear hf; intro hc5 hf
   have hSE := hc5
   refine any_takeA (i := 36) hf rfl (Wn.some hf rfl rfl rfl rfl) (rd_not hf rfl rfl) hT rfl rfl ?_; clear hf; intro a hf
   refine any_takeA (i := 37) hf rfl (Wn.none rfl) (rd_pick_f hf rfl rfl rfl) hT rfl rfl ?_; clear hf; intro a hf
   refine any_done (by kernel_rfl) ?_
   refine t_normal ?_
   refine c_false hf rfl ?_
   refine c_skip (b_normal (t_normal (c_region ?_)))
   refine sP hf hS ?_; clear hf; intro a hf
   refine mN hf hS ?_; clear hf; intro a hf
   refine done_l ?_
   refine t_normal ⟨k + 1, ((hf.backA hk0).kb hf 13 rfl (by first | rfl | exact int_eq (by omega))), ⟨hS.subA, ⟨by omega, eq_step hget hget2 hok (tri_all (Classical.not_not.1 hKE) (Classical.not_not.1 hVE) hSE)⟩⟩, by first | omega | (simp only []; omega)⟩
  clear hf; intro hc5 hf
  have hSE := hc5
  refine any_takeA (i := 36) hf rfl (Wn.some hf rfl rfl rfl rfl) (rd_not hf rfl rfl) hT rfl rfl ?_; clear hf; intro a hf
  refine any_takeA (i := 37) hf rfl (Wn.none rfl) (rd_pick_f hf rfl rfl rfl) hT rfl rfl ?_; clear hf; intro a hf
  refine any_done (by kernel_rfl) ?_
  refine t_normal ?_
  refine c_true hf rfl ?_
  refine c_seq (c_region ?_)
  refine aN hf hS ?_; clear hf; intro a hf
  refine done_l (t_normal (c_ret (b_ret (t_ret (t_ret (b_ret (t_ret ?_)))))))
  refine eT hf ?_
  refine ⟨congrArg Value.bool ?_, hS.subA⟩
  clear hf hS
  first | exact (decide_eq_false (eq_len (by omega))).symm | exact (decide_eq_false (eq_no (f := pDig) hget hget2 (tri_n1 hKE))).symm | exact (decide_eq_false (eq_no (f := pDig) hget hget2 (tri_n2 hVE))).symm | exact (decide_eq_false (eq_no (f := pDig) hget hget2 (tri_n3 hSE))).symm | exact (decide_eq_true (eq_done hlen hok)).symm
 clear hf; intro hc2 a hf
 obtain rfl : k = ds.length := by omega
 refine done_l (t_normal (c_seq ?_))
 refine c_false hf rfl ?_
 refine c_exit (t_exit (t_exit (b_exit (t_normal (c_seq (c_region ?_))))))
 refine aN hf hS ?_; clear hf; intro a hf
 refine done_l (t_normal (c_ret ?_))
 refine eT hf ?_
 refine ⟨congrArg Value.bool ?_, hS.subA⟩
 clear hf hS
 first | exact (decide_eq_false (eq_len (by omega))).symm | exact (decide_eq_false (eq_no (f := pDig) hget hget2 (tri_n1 hKE))).symm | exact (decide_eq_false (eq_no (f := pDig) hget hget2 (tri_n2 hVE))).symm | exact (decide_eq_false (eq_no (f := pDig) hget hget2 (tri_n3 hSE))).symm | exact (decide_eq_true (eq_done hlen hok)).symm

set_option maxRecDepth 100000 in
set_option maxHeartbeats 4000000 in
theorem RMSame_c (kd fr tn op fo : Int) (ky : List UInt8) (bk : Int) (es : List EntT) (qe : Option Addr) (ce : Nat) (ds : List DigT) (qd : Option Addr) (cd : Nat) (ms : List MemT) (qm : Option Addr) (cm : Nat) (kd2 fr2 tn2 op2 fo2 : Int) (ky2 : List UInt8) (bk2 : Int) (es2 : List EntT) (qe2 : Option Addr) (ce2 : Nat) (ds2 : List DigT) (qd2 : Option Addr) (cd2 : Nat) (ms2 : List MemT) (qm2 : Option Addr) (cm2 : Nat) {W : World} {R : List HP} {w : World} (hS : Sat W (R) w) (hve : ∀ w, Sat W R w → EntsAt w (qe, ce, es)) (hvd : ∀ w, Sat W R w → DigsAt w (qd, cd, ds)) (hvm : ∀ w, Sat W R w → DotsAt w (qm, cm, ms)) (hve2 : ∀ w, Sat W R w → EntsAt w (qe2, ce2, es2)) (hvd2 : ∀ w, Sat W R w → DigsAt w (qd2, cd2, ds2)) (hvm2 : ∀ w, Sat W R w → DotsAt w (qm2, cm2, ms2)) : Calls Tryz.prog 11 [.agg #[.int .i64 kd, .int .i64 fr, .int .i64 tn, .int .i64 op, .int .i64 fo, .string (str ky), .int .i64 bk, .slice qe es.length ce, .slice qd ds.length cd, .slice qm ms.length cm], .agg #[.int .i64 kd2, .int .i64 fr2, .int .i64 tn2, .int .i64 op2, .int .i64 fo2, .string (str ky2), .int .i64 bk2, .slice qe2 es2.length ce2, .slice qd2 ds2.length cd2, .slice qm2 ms2.length cm2]].toArray w (Ret fun v w' => v = .bool (sameM (⟨kd, fr, tn, op, fo, ky, bk, es.map pEnt, ds.map pDig, ms.map pDot⟩ : PMsg) (⟨kd2, fr2, tn2, op2, fo2, ky2, bk2, es2.map pEnt, ds2.map pDig, ms2.map pDot⟩ : PMsg)) ∧ Sat W R w') := by
 refine fn_start 100 Tryz.func11 rfl rfl rfl ?_
 intro a hf
 obtain ⟨op', hop⟩ : ∃ x, plI (hasP 0 kd) op = x := ⟨_, rfl⟩; obtain ⟨fo', hfo⟩ : ∃ x, plI (hasP 1 kd) fo = x := ⟨_, rfl⟩; obtain ⟨ky', hky⟩ : ∃ x, plB (hasP 2 kd) ky = x := ⟨_, rfl⟩; obtain ⟨bk', hbk⟩ : ∃ x, plI (hasP 3 kd) bk = x := ⟨_, rfl⟩; obtain ⟨⟨qe', ce', es'⟩, hes⟩ : ∃ x, plS (hasP 4 kd) (qe, ce, es) = x := ⟨_, rfl⟩; obtain ⟨⟨qd', cd', ds'⟩, hds⟩ : ∃ x, plS (hasP 5 kd) (qd, cd, ds) = x := ⟨_, rfl⟩; obtain ⟨⟨qm', cm', ms'⟩, hms⟩ : ∃ x, plS (hasP 6 kd) (qm, cm, ms) = x := ⟨_, rfl⟩; have hpl := plP_eq (fr := fr) (tn := tn) hop hfo hky hbk hes hds hms; dsimp only at hpl; have hve' : ∀ w, Sat W R w → EntsAt w (qe', ce', es') := (by intro w h; rw [← hes]; exact plS_at (hve w h) (EntsAt.nil w)); have hvd' : ∀ w, Sat W R w → DigsAt w (qd', cd', ds') := (by intro w h; rw [← hds]; exact plS_at (hvd w h) (DigsAt.nil w)); have hvm' : ∀ w, Sat W R w → DotsAt w (qm', cm', ms') := (by intro w h; rw [← hms]; exact plS_at (hvm w h) (DotsAt.nil w)); have hE0 : hasP 4 kd = false → es'.length = 0 := plS_len0 hes
 obtain ⟨op2', hop2⟩ : ∃ x2, plI (hasP 0 kd2) op2 = x2 := ⟨_, rfl⟩; obtain ⟨fo2', hfo2⟩ : ∃ x2, plI (hasP 1 kd2) fo2 = x2 := ⟨_, rfl⟩; obtain ⟨ky2', hky2⟩ : ∃ x2, plB (hasP 2 kd2) ky2 = x2 := ⟨_, rfl⟩; obtain ⟨bk2', hbk2⟩ : ∃ x2, plI (hasP 3 kd2) bk2 = x2 := ⟨_, rfl⟩; obtain ⟨⟨qe2', ce2', es2'⟩, hes2⟩ : ∃ x2, plS (hasP 4 kd2) (qe2, ce2, es2) = x2 := ⟨_, rfl⟩; obtain ⟨⟨qd2', cd2', ds2'⟩, hds2⟩ : ∃ x2, plS (hasP 5 kd2) (qd2, cd2, ds2) = x2 := ⟨_, rfl⟩; obtain ⟨⟨qm2', cm2', ms2'⟩, hms2⟩ : ∃ x2, plS (hasP 6 kd2) (qm2, cm2, ms2) = x2 := ⟨_, rfl⟩; have hpl2 := plP_eq (fr := fr2) (tn := tn2) hop2 hfo2 hky2 hbk2 hes2 hds2 hms2; dsimp only at hpl2; have hve2' : ∀ w, Sat W R w → EntsAt w (qe2', ce2', es2') := (by intro w h; rw [← hes2]; exact plS_at (hve2 w h) (EntsAt.nil w)); have hvd2' : ∀ w, Sat W R w → DigsAt w (qd2', cd2', ds2') := (by intro w h; rw [← hds2]; exact plS_at (hvd2 w h) (DigsAt.nil w)); have hvm2' : ∀ w, Sat W R w → DotsAt w (qm2', cm2', ms2') := (by intro w h; rw [← hms2]; exact plS_at (hvm2 w h) (DotsAt.nil w)); have hE02 : hasP 4 kd2 = false → es2'.length = 0 := plS_len0 hes2
 have hlm := (hvm' _ hS).len; have hlm2 := (hvm2' _ hS).len
 refine c_seq (c_region ?_)
 refine step_l (st_box hf (Wn.none rfl) hS rfl rfl (by rfl) rfl rfl ?_)
 clear hf hS; intro b_m a w hf hS
 refine step_l (st_box hf (Wn.none rfl) hS rfl rfl (by rfl) rfl rfl ?_)
 clear hf hS; intro b_n a w hf hS
 refine aN hf hS ?_; clear hf; intro a hf
 refine done_l (t_normal (c_seq ?_))
 have hq1 := Keep.ofA hf [(6, 9)]
 refine c_joinK (n := 100) hq1 [] (fun w => Sat W (Blk b_m [.int .i64 kd, .int .i64 fr, .int .i64 tn, .int .i64 op', .int .i64 fo', .string (str ky'), .int .i64 bk', .slice qe' es'.length ce', .slice qd' ds'.length cd', .slice qm' ms'.length cm'] 32 :: Blk b_n [.int .i64 kd2, .int .i64 fr2, .int .i64 tn2, .int .i64 op2', .int .i64 fo2', .string (str ky2'), .int .i64 bk2', .slice qe2' es2'.length ce2', .slice qd2' ds2'.length cd2', .slice qm2' ms2'.length cm2'] 32 :: R) w) ?_ ?_
 ·
  skip
  refine any_begin (S := Sat W (R)) mixed (hS.drew.subA) ?_
  have hT : Sat W (R) _ := hS.drew.subA
  replace hS := hS.drew
  refine any_two (i := 0) (j := 2) rfl rfl (by kernel_rfl) ?_ ?_
  ·
   skip
   refine st_rd hf (Wn.none rfl) (rd_ldN hf ag32 sz32) hS rfl rfl ?_; clear hf; intro a hf
   refine ⟨hT, ?_⟩
   refine any_two (i := 1) (j := 2) rfl rfl (by kernel_rfl) ?_ ?_
   ·
    skip
    refine st_call hf (Wn.none rfl) rfl rfl rfl fn7 (RPlain_c _ _ _ _ _ _ _ _ _ _ _ _ _ _ _ _ hS) rfl rfl ?_
    clear hf hS; rintro v a w ⟨rfl, hS⟩ hf; rw [hop, hfo, hky, hbk, hes, hds, hms] at hf; dsimp only [slv] at hf
    replace hT := hS.subA' hT
    refine ⟨hT, ?_⟩
    refine any_one (i := 2) rfl (by kernel_rfl) (st_rd hf (Wn.none rfl) (rd_ldN hf ag32 sz32) hS rfl rfl ?_)
    clear hf; intro a hf
    refine ⟨hT, ?_⟩
    refine any_one (i := 3) rfl (by kernel_rfl) (st_call hf (Wn.none rfl) rfl rfl rfl fn7 (RPlain_c _ _ _ _ _ _ _ _ _ _ _ _ _ _ _ _ hS) rfl rfl ?_)
    clear hf hS; rintro v a w ⟨rfl, hS⟩ hf; rw [hop2, hfo2, hky2, hbk2, hes2, hds2, hms2] at hf; dsimp only [slv] at hf
    replace hT := hS.subA' hT
    refine ⟨hT, ?_⟩
    refine any_one (i := 4) rfl (by kernel_rfl) (st_store hf (Wn.none rfl) hS rfl rfl rfl (by rfl) sz32 (by rfl) (by rfl) (by repeat (first | exact Sel.head | apply Sel.tail)) (by repeat (first | exact Put.nil | apply Put.cons | apply Put.succ)) rfl ?_)
    clear hf hS; intro a w hf hS
    replace hT := hS.subA' hT
    refine ⟨hT, ?_⟩
    refine any_one (i := 5) rfl (by kernel_rfl) (st_store hf (Wn.none rfl) hS rfl rfl rfl (by rfl) sz32 (by rfl) (by rfl) (by repeat (first | exact Sel.head | apply Sel.tail)) (by repeat (first | exact Put.nil | apply Put.cons | apply Put.succ)) rfl ?_)
    clear hf hS; intro a w hf hS
    replace hT := hS.subA' hT
    refine ⟨hT, ?_⟩
    refine any_done (by kernel_rfl) ?_
    refine t_normal ⟨(hf.backA hq1), hS.subA⟩
   ·
    skip
    refine st_rd hf (Wn.none rfl) (rd_ldN hf ag32 sz32) hS rfl rfl ?_; clear hf; intro a hf
    refine ⟨hT, ?_⟩
    refine any_one (i := 1) rfl (by kernel_rfl) (st_call hf (Wn.none rfl) rfl rfl rfl fn7 (RPlain_c _ _ _ _ _ _ _ _ _ _ _ _ _ _ _ _ hS) rfl rfl ?_)
    clear hf hS; rintro v a w ⟨rfl, hS⟩ hf; rw [hop, hfo, hky, hbk, hes, hds, hms] at hf; dsimp only [slv] at hf
    replace hT := hS.subA' hT
    refine ⟨hT, ?_⟩
    refine any_one (i := 3) rfl (by kernel_rfl) (st_call hf (Wn.none rfl) rfl rfl rfl fn7 (RPlain_c _ _ _ _ _ _ _ _ _ _ _ _ _ _ _ _ hS) rfl rfl ?_)
    clear hf hS; rintro v a w ⟨rfl, hS⟩ hf; rw [hop2, hfo2, hky2, hbk2, hes2, hds2, hms2] at hf; dsimp only [slv] at hf
    replace hT := hS.subA' hT
    refine ⟨hT, ?_⟩
    refine any_one (i := 4) rfl (by kernel_rfl) (st_store hf (Wn.none rfl) hS rfl rfl rfl (by rfl) sz32 (by rfl) (by rfl) (by repeat (first | exact Sel.head | apply Sel.tail)) (by repeat (first | exact Put.nil | apply Put.cons | apply Put.succ)) rfl ?_)
    clear hf hS; intro a w hf hS
    replace hT := hS.subA' hT
    refine ⟨hT, ?_⟩
    refine any_one (i := 5) rfl (by kernel_rfl) (st_store hf (Wn.none rfl) hS rfl rfl rfl (by rfl) sz32 (by rfl) (by rfl) (by repeat (first | exact Sel.head | apply Sel.tail)) (by repeat (first | exact Put.nil | apply Put.cons | apply Put.succ)) rfl ?_)
    clear hf hS; intro a w hf hS
    replace hT := hS.subA' hT
    refine ⟨hT, ?_⟩
    refine any_done (by kernel_rfl) ?_
    refine t_normal ⟨(hf.backA hq1), hS.subA⟩
  ·
   skip
   refine st_rd hf (Wn.none rfl) (rd_ldN hf ag32 sz32) hS rfl rfl ?_; clear hf; intro a hf
   refine ⟨hT, ?_⟩
   refine any_one (i := 0) rfl (by kernel_rfl) (st_rd hf (Wn.none rfl) (rd_ldN hf ag32 sz32) hS rfl rfl ?_)
   clear hf; intro a hf
   refine ⟨hT, ?_⟩
   refine any_one (i := 1) rfl (by kernel_rfl) (st_call hf (Wn.none rfl) rfl rfl rfl fn7 (RPlain_c _ _ _ _ _ _ _ _ _ _ _ _ _ _ _ _ hS) rfl rfl ?_)
   clear hf hS; rintro v a w ⟨rfl, hS⟩ hf; rw [hop, hfo, hky, hbk, hes, hds, hms] at hf; dsimp only [slv] at hf
   replace hT := hS.subA' hT
   refine ⟨hT, ?_⟩
   refine any_one (i := 3) rfl (by kernel_rfl) (st_call hf (Wn.none rfl) rfl rfl rfl fn7 (RPlain_c _ _ _ _ _ _ _ _ _ _ _ _ _ _ _ _ hS) rfl rfl ?_)
   clear hf hS; rintro v a w ⟨rfl, hS⟩ hf; rw [hop2, hfo2, hky2, hbk2, hes2, hds2, hms2] at hf; dsimp only [slv] at hf
   replace hT := hS.subA' hT
   refine ⟨hT, ?_⟩
   refine any_one (i := 4) rfl (by kernel_rfl) (st_store hf (Wn.none rfl) hS rfl rfl rfl (by rfl) sz32 (by rfl) (by rfl) (by repeat (first | exact Sel.head | apply Sel.tail)) (by repeat (first | exact Put.nil | apply Put.cons | apply Put.succ)) rfl ?_)
   clear hf hS; intro a w hf hS
   replace hT := hS.subA' hT
   refine ⟨hT, ?_⟩
   refine any_one (i := 5) rfl (by kernel_rfl) (st_store hf (Wn.none rfl) hS rfl rfl rfl (by rfl) sz32 (by rfl) (by rfl) (by repeat (first | exact Sel.head | apply Sel.tail)) (by repeat (first | exact Put.nil | apply Put.cons | apply Put.succ)) rfl ?_)
   clear hf hS; intro a w hf hS
   replace hT := hS.subA' hT
   refine ⟨hT, ?_⟩
   refine any_done (by kernel_rfl) ?_
   refine t_normal ⟨(hf.backA hq1), hS.subA⟩
 ·
  clear hf hS; intro a w hf hS; (try dsimp only [List.cons_append, List.nil_append] at hf)
  refine t_normal (c_seq (c_seq (c_region ?_)))
  refine fA hf hS fb32_0 ?_; clear hf; intro a hf
  refine sR hf hS (rd_ld hf ag3) ?_; clear hf; intro a hf
  refine fA hf hS fb32_0 ?_; clear hf; intro a hf
  refine sR hf hS (rd_ld hf ag3) ?_; clear hf; intro a hf
  refine sB hf hS (rd_neq hf rfl rfl rfl) ?_ ?_
  ·
   clear hf; intro hc3 a hf
   iterate 67 ((first | refine kS hf ?_ | refine mN hf hS ?_ | refine pT hf hS ?_); clear hf; intro a hf)
   refine done_l (t_normal ?_)
   refine c_true hf rfl ?_
   refine c_seq (c_region ?_)
   refine aN hf hS ?_; clear hf; intro a hf
   refine done_l (t_normal (c_ret (t_ret ?_)))
   refine eT hf ?_
   refine ⟨congrArg Value.bool ?_, hS.subA⟩
   clear hf hS
   first | exact (sameM_no hpl hpl2 (by intro e; injection e; contradiction)).symm | exact ((sameM_last hpl hpl2 (show kd = kd2 by first | assumption | exact Classical.not_not.1 (by assumption)) (show fr = fr2 by first | assumption | exact Classical.not_not.1 (by assumption)) (show tn = tn2 by first | assumption | exact Classical.not_not.1 (by assumption)) (show op' = op2' by first | assumption | exact Classical.not_not.1 (by assumption)) (show fo' = fo2' by first | assumption | exact Classical.not_not.1 (by assumption)) (show ky' = ky2' by first | assumption | exact Classical.not_not.1 (by assumption)) (show bk' = bk2' by first | assumption | exact Classical.not_not.1 (by assumption)) (show es'.map pEnt = es2'.map pEnt by first | assumption | exact Classical.not_not.1 (by assumption)) (show ds'.map pDig = ds2'.map pDig by first | assumption | exact Classical.not_not.1 (by assumption))).trans (decide_eq_true (eq_done hlen hok))).symm
  clear hf; intro hc3 a hf
  refine mN hf hS ?_; clear hf; intro a hf
  refine fG hf hS fb32_1 ?_; clear hf; intro a hf
  refine sG hf hS (rd_ld hf ag3) ?_; clear hf; intro a hf
  refine fG hf hS fb32_1 ?_; clear hf; intro a hf
  refine sG hf hS (rd_ld hf ag3) ?_; clear hf; intro a hf
  refine step_l (st_rdB hf (Wn.some hf rfl rfl rfl rfl) (rd_neq hf rfl rfl rfl) hS rfl rfl ?_ ?_)
  ·
   clear hf; intro hc4 a hf
   iterate 61 ((first | refine kS hf ?_ | refine mN hf hS ?_ | refine pT hf hS ?_ | refine pF hf hS ?_); clear hf; intro a hf)
   refine done_l (t_normal ?_)
   refine c_true hf rfl ?_
   refine c_seq (c_region ?_)
   refine aN hf hS ?_; clear hf; intro a hf
   refine done_l (t_normal (c_ret (t_ret ?_)))
   refine eT hf ?_
   refine ⟨congrArg Value.bool ?_, hS.subA⟩
   clear hf hS
   first | exact (sameM_no hpl hpl2 (by intro e; injection e; contradiction)).symm | exact ((sameM_last hpl hpl2 (show kd = kd2 by first | assumption | exact Classical.not_not.1 (by assumption)) (show fr = fr2 by first | assumption | exact Classical.not_not.1 (by assumption)) (show tn = tn2 by first | assumption | exact Classical.not_not.1 (by assumption)) (show op' = op2' by first | assumption | exact Classical.not_not.1 (by assumption)) (show fo' = fo2' by first | assumption | exact Classical.not_not.1 (by assumption)) (show ky' = ky2' by first | assumption | exact Classical.not_not.1 (by assumption)) (show bk' = bk2' by first | assumption | exact Classical.not_not.1 (by assumption)) (show es'.map pEnt = es2'.map pEnt by first | assumption | exact Classical.not_not.1 (by assumption)) (show ds'.map pDig = ds2'.map pDig by first | assumption | exact Classical.not_not.1 (by assumption))).trans (decide_eq_true (eq_done hlen hok))).symm
  clear hf; intro hc4 a hf
  iterate 2 ((first | refine mN hf hS ?_ | refine pF hf hS ?_); clear hf; intro a hf)
  refine fG hf hS fb32_2 ?_; clear hf; intro a hf
  refine sG hf hS (rd_ld hf ag3) ?_; clear hf; intro a hf
  refine fG hf hS fb32_2 ?_; clear hf; intro a hf
  refine sG hf hS (rd_ld hf ag3) ?_; clear hf; intro a hf
  refine step_l (st_rdB hf (Wn.some hf rfl rfl rfl rfl) (rd_neq hf rfl rfl rfl) hS rfl rfl ?_ ?_)
  ·
   clear hf; intro hc5 a hf
   iterate 54 ((first | refine kS hf ?_ | refine mN hf hS ?_ | refine pT hf hS ?_ | refine pF hf hS ?_); clear hf; intro a hf)
   refine done_l (t_normal ?_)
   refine c_true hf rfl ?_
   refine c_seq (c_region ?_)
   refine aN hf hS ?_; clear hf; intro a hf
   refine done_l (t_normal (c_ret (t_ret ?_)))
   refine eT hf ?_
   refine ⟨congrArg Value.bool ?_, hS.subA⟩
   clear hf hS
   first | exact (sameM_no hpl hpl2 (by intro e; injection e; contradiction)).symm | exact ((sameM_last hpl hpl2 (show kd = kd2 by first | assumption | exact Classical.not_not.1 (by assumption)) (show fr = fr2 by first | assumption | exact Classical.not_not.1 (by assumption)) (show tn = tn2 by first | assumption | exact Classical.not_not.1 (by assumption)) (show op' = op2' by first | assumption | exact Classical.not_not.1 (by assumption)) (show fo' = fo2' by first | assumption | exact Classical.not_not.1 (by assumption)) (show ky' = ky2' by first | assumption | exact Classical.not_not.1 (by assumption)) (show bk' = bk2' by first | assumption | exact Classical.not_not.1 (by assumption)) (show es'.map pEnt = es2'.map pEnt by first | assumption | exact Classical.not_not.1 (by assumption)) (show ds'.map pDig = ds2'.map pDig by first | assumption | exact Classical.not_not.1 (by assumption))).trans (decide_eq_true (eq_done hlen hok))).symm
  clear hf; intro hc5 a hf
  iterate 2 ((first | refine mN hf hS ?_ | refine pF hf hS ?_); clear hf; intro a hf)
  refine fG hf hS fb32_3 ?_; clear hf; intro a hf
  refine sG hf hS (rd_ld hf ag2) ?_; clear hf; intro a hf
  refine fG hf hS fb32_3 ?_; clear hf; intro a hf
  refine sG hf hS (rd_ld hf ag2) ?_; clear hf; intro a hf
  refine step_l (st_rdB hf (Wn.some hf rfl rfl rfl rfl) (rd_neq hf rfl rfl rfl) hS rfl rfl ?_ ?_)
  ·
   clear hf; intro hc6 a hf
   iterate 47 ((first | refine kS hf ?_ | refine mN hf hS ?_ | refine pT hf hS ?_ | refine pF hf hS ?_); clear hf; intro a hf)
   refine done_l (t_normal ?_)
   refine c_true hf rfl ?_
   refine c_seq (c_region ?_)
   refine aN hf hS ?_; clear hf; intro a hf
   refine done_l (t_normal (c_ret (t_ret ?_)))
   refine eT hf ?_
   refine ⟨congrArg Value.bool ?_, hS.subA⟩
   clear hf hS
   first | exact (sameM_no hpl hpl2 (by intro e; injection e; contradiction)).symm | exact ((sameM_last hpl hpl2 (show kd = kd2 by first | assumption | exact Classical.not_not.1 (by assumption)) (show fr = fr2 by first | assumption | exact Classical.not_not.1 (by assumption)) (show tn = tn2 by first | assumption | exact Classical.not_not.1 (by assumption)) (show op' = op2' by first | assumption | exact Classical.not_not.1 (by assumption)) (show fo' = fo2' by first | assumption | exact Classical.not_not.1 (by assumption)) (show ky' = ky2' by first | assumption | exact Classical.not_not.1 (by assumption)) (show bk' = bk2' by first | assumption | exact Classical.not_not.1 (by assumption)) (show es'.map pEnt = es2'.map pEnt by first | assumption | exact Classical.not_not.1 (by assumption)) (show ds'.map pDig = ds2'.map pDig by first | assumption | exact Classical.not_not.1 (by assumption))).trans (decide_eq_true (eq_done hlen hok))).symm
  clear hf; intro hc6 a hf
  iterate 2 ((first | refine mN hf hS ?_ | refine pF hf hS ?_); clear hf; intro a hf)
  refine fG hf hS fb32_4 ?_; clear hf; intro a hf
  refine sG hf hS (rd_ld hf ag3) ?_; clear hf; intro a hf
  refine fG hf hS fb32_4 ?_; clear hf; intro a hf
  refine sG hf hS (rd_ld hf ag3) ?_; clear hf; intro a hf
  refine step_l (st_rdB hf (Wn.some hf rfl rfl rfl rfl) (rd_neq hf rfl rfl rfl) hS rfl rfl ?_ ?_)
  ·
   clear hf; intro hc7 a hf
   iterate 40 ((first | refine kS hf ?_ | refine mN hf hS ?_ | refine pT hf hS ?_ | refine pF hf hS ?_); clear hf; intro a hf)
   refine done_l (t_normal ?_)
   refine c_true hf rfl ?_
   refine c_seq (c_region ?_)
   refine aN hf hS ?_; clear hf; intro a hf
   refine done_l (t_normal (c_ret (t_ret ?_)))
   refine eT hf ?_
   refine ⟨congrArg Value.bool ?_, hS.subA⟩
   clear hf hS
   first | exact (sameM_no hpl hpl2 (by intro e; injection e; contradiction)).symm | exact ((sameM_last hpl hpl2 (show kd = kd2 by first | assumption | exact Classical.not_not.1 (by assumption)) (show fr = fr2 by first | assumption | exact Classical.not_not.1 (by assumption)) (show tn = tn2 by first | assumption | exact Classical.not_not.1 (by assumption)) (show op' = op2' by first | assumption | exact Classical.not_not.1 (by assumption)) (show fo' = fo2' by first | assumption | exact Classical.not_not.1 (by assumption)) (show ky' = ky2' by first | assumption | exact Classical.not_not.1 (by assumption)) (show bk' = bk2' by first | assumption | exact Classical.not_not.1 (by assumption)) (show es'.map pEnt = es2'.map pEnt by first | assumption | exact Classical.not_not.1 (by assumption)) (show ds'.map pDig = ds2'.map pDig by first | assumption | exact Classical.not_not.1 (by assumption))).trans (decide_eq_true (eq_done hlen hok))).symm
  clear hf; intro hc7 a hf
  iterate 2 ((first | refine mN hf hS ?_ | refine pF hf hS ?_); clear hf; intro a hf)
  refine fG hf hS fb32_5 ?_; clear hf; intro a hf
  refine sG hf hS (rd_ld hf ag9) ?_; clear hf; intro a hf
  refine fG hf hS fb32_5 ?_; clear hf; intro a hf
  refine sG hf hS (rd_ld hf ag9) ?_; clear hf; intro a hf
  refine step_l (st_rdB hf (Wn.some hf rfl rfl rfl rfl) (rd_neqS hf rfl rfl rfl) hS rfl rfl ?_ ?_)
  ·
   clear hf; intro hc8 a hf
   iterate 33 ((first | refine kS hf ?_ | refine mN hf hS ?_ | refine pT hf hS ?_ | refine pF hf hS ?_); clear hf; intro a hf)
   refine done_l (t_normal ?_)
   refine c_true hf rfl ?_
   refine c_seq (c_region ?_)
   refine aN hf hS ?_; clear hf; intro a hf
   refine done_l (t_normal (c_ret (t_ret ?_)))
   refine eT hf ?_
   refine ⟨congrArg Value.bool ?_, hS.subA⟩
   clear hf hS
   first | exact (sameM_no hpl hpl2 (by intro e; injection e; contradiction)).symm | exact ((sameM_last hpl hpl2 (show kd = kd2 by first | assumption | exact Classical.not_not.1 (by assumption)) (show fr = fr2 by first | assumption | exact Classical.not_not.1 (by assumption)) (show tn = tn2 by first | assumption | exact Classical.not_not.1 (by assumption)) (show op' = op2' by first | assumption | exact Classical.not_not.1 (by assumption)) (show fo' = fo2' by first | assumption | exact Classical.not_not.1 (by assumption)) (show ky' = ky2' by first | assumption | exact Classical.not_not.1 (by assumption)) (show bk' = bk2' by first | assumption | exact Classical.not_not.1 (by assumption)) (show es'.map pEnt = es2'.map pEnt by first | assumption | exact Classical.not_not.1 (by assumption)) (show ds'.map pDig = ds2'.map pDig by first | assumption | exact Classical.not_not.1 (by assumption))).trans (decide_eq_true (eq_done hlen hok))).symm
  clear hf; intro hc8 a hf
  iterate 2 ((first | refine mN hf hS ?_ | refine pF hf hS ?_); clear hf; intro a hf)
  refine fG hf hS fb32_6 ?_; clear hf; intro a hf
  refine sG hf hS (rd_ld hf ag3) ?_; clear hf; intro a hf
  refine fG hf hS fb32_6 ?_; clear hf; intro a hf
  refine sG hf hS (rd_ld hf ag3) ?_; clear hf; intro a hf
  refine step_l (st_rdB hf (Wn.some hf rfl rfl rfl rfl) (rd_neq hf rfl rfl rfl) hS rfl rfl ?_ ?_)
  ·
   clear hf; intro hc9 a hf
   iterate 26 ((first | refine kS hf ?_ | refine mN hf hS ?_ | refine pT hf hS ?_ | refine pF hf hS ?_); clear hf; intro a hf)
   refine done_l (t_normal ?_)
   refine c_true hf rfl ?_
   refine c_seq (c_region ?_)
   refine aN hf hS ?_; clear hf; intro a hf
   refine done_l (t_normal (c_ret (t_ret ?_)))
   refine eT hf ?_
   refine ⟨congrArg Value.bool ?_, hS.subA⟩
   clear hf hS
   first | exact (sameM_no hpl hpl2 (by intro e; injection e; contradiction)).symm | exact ((sameM_last hpl hpl2 (show kd = kd2 by first | assumption | exact Classical.not_not.1 (by assumption)) (show fr = fr2 by first | assumption | exact Classical.not_not.1 (by assumption)) (show tn = tn2 by first | assumption | exact Classical.not_not.1 (by assumption)) (show op' = op2' by first | assumption | exact Classical.not_not.1 (by assumption)) (show fo' = fo2' by first | assumption | exact Classical.not_not.1 (by assumption)) (show ky' = ky2' by first | assumption | exact Classical.not_not.1 (by assumption)) (show bk' = bk2' by first | assumption | exact Classical.not_not.1 (by assumption)) (show es'.map pEnt = es2'.map pEnt by first | assumption | exact Classical.not_not.1 (by assumption)) (show ds'.map pDig = ds2'.map pDig by first | assumption | exact Classical.not_not.1 (by assumption))).trans (decide_eq_true (eq_done hlen hok))).symm
  clear hf; intro hc9 a hf
  iterate 2 ((first | refine mN hf hS ?_ | refine pF hf hS ?_); clear hf; intro a hf)
  refine fG hf hS fb32_7 ?_; clear hf; intro a hf
  refine sG hf hS (rd_ld hf ag28) ?_; clear hf; intro a hf
  refine fG hf hS fb32_7 ?_; clear hf; intro a hf
  refine sG hf hS (rd_ld hf ag28) ?_; clear hf; intro a hf
  refine step_l (st_call hf (Wn.some hf rfl rfl rfl rfl) rfl rfl rfl fn28 (REnts_c _ _ _ _ _ _  hS (fun _ h => hve' _ (h.subA)) (fun _ h => hve2' _ (h.subA))) rfl rfl ?_)
  clear hf hS; rintro v a w ⟨rfl, hS⟩ hf
  first | refine split_dec (d := 62) hf rfl ?_ ?_ | refine split_bool (d := 62) hf rfl ?_ ?_
  ·
   clear hf; intro hc10 hf
   refine sG hf hS (rd_not hf rfl rfl) ?_; clear hf; intro a hf
   iterate 2 ((first | refine mN hf hS ?_ | refine pF hf hS ?_); clear hf; intro a hf)
   refine fG hf hS fb32_8 ?_; clear hf; intro a hf
   refine sG hf hS (rd_ld hf ag29) ?_; clear hf; intro a hf
   refine fG hf hS fb32_8 ?_; clear hf; intro a hf
   refine sG hf hS (rd_ld hf ag29) ?_; clear hf; intro a hf
   refine step_l (st_call hf (Wn.some hf rfl rfl rfl rfl) rfl rfl rfl fn29 (RDigs_c _ _ _ _ _ _  hS (fun _ h => hvd' _ (h.subA)) (fun _ h => hvd2' _ (h.subA))) rfl rfl ?_)
   clear hf hS; rintro v a w ⟨rfl, hS⟩ hf
   first | refine split_dec (d := 70) hf rfl ?_ ?_ | refine split_bool (d := 70) hf rfl ?_ ?_
   ·
    clear hf; intro hc11 hf
    refine sG hf hS (rd_not hf rfl rfl) ?_; clear hf; intro a hf
    iterate 2 ((first | refine mN hf hS ?_ | refine pF hf hS ?_); clear hf; intro a hf)
    refine fG hf hS fb32_9 ?_; clear hf; intro a hf
    refine sG hf hS (rd_ld hf ag30) ?_; clear hf; intro a hf
    refine sG hf hS (rd_len hf rfl rfl Tryz.underlying30) ?_; clear hf; intro a hf
    refine fG hf hS fb32_9 ?_; clear hf; intro a hf
    refine sG hf hS (rd_ld hf ag30) ?_; clear hf; intro a hf
    refine sG hf hS (rd_len hf rfl rfl Tryz.underlying30) ?_; clear hf; intro a hf
    refine step_l (st_rdB hf (Wn.some hf rfl rfl rfl rfl) (rd_neq hf rfl rfl rfl) hS rfl rfl ?_ ?_)
    ·
     clear hf; intro hc12 a hf
     have hnl : ¬ ms'.map pDot = ms2'.map pDot := eq_len (by omega)
     refine pF hf hS ?_; clear hf; intro a hf
     refine done_l (t_normal ?_)
     refine c_true hf rfl ?_
     refine c_seq (c_region ?_)
     refine aN hf hS ?_; clear hf; intro a hf
     refine done_l (t_normal (c_ret (t_ret ?_)))
     refine eT hf ?_
     refine ⟨congrArg Value.bool ?_, hS.subA⟩
     clear hf hS
     first | exact (sameM_no hpl hpl2 (by intro e; injection e; contradiction)).symm | exact ((sameM_last hpl hpl2 (show kd = kd2 by first | assumption | exact Classical.not_not.1 (by assumption)) (show fr = fr2 by first | assumption | exact Classical.not_not.1 (by assumption)) (show tn = tn2 by first | assumption | exact Classical.not_not.1 (by assumption)) (show op' = op2' by first | assumption | exact Classical.not_not.1 (by assumption)) (show fo' = fo2' by first | assumption | exact Classical.not_not.1 (by assumption)) (show ky' = ky2' by first | assumption | exact Classical.not_not.1 (by assumption)) (show bk' = bk2' by first | assumption | exact Classical.not_not.1 (by assumption)) (show es'.map pEnt = es2'.map pEnt by first | assumption | exact Classical.not_not.1 (by assumption)) (show ds'.map pDig = ds2'.map pDig by first | assumption | exact Classical.not_not.1 (by assumption))).trans (decide_eq_true (eq_done hlen hok))).symm
    clear hf; intro hc12 a hf
    have hlen : ms'.length = ms2'.length := by omega
    refine pF hf hS ?_; clear hf; intro a hf
    refine done_l (t_normal ?_)
    refine c_false hf rfl ?_
    refine c_skip (t_normal (c_seq (c_seq (c_region ?_))))
    refine fA hf hS fb32_9 ?_; clear hf; intro a hf
    refine sR hf hS (rd_ld hf ag30) ?_; clear hf; intro a hf
    refine sR hf hS (rd_len hf rfl rfl Tryz.underlying30) ?_; clear hf; intro a hf
    refine mN hf hS ?_; clear hf; intro a hf
    refine done_l (t_normal (c_block ?_))
    have hk0 := Keep.ofA hf [(4, 5), (85, 99)]
    refine c_loopK hk0 (α := Nat) (fun k => [(85, .int .i64 (k : Nat))]) (fun k w => Sat W (Blk b_m [.int .i64 kd, .int .i64 fr, .int .i64 tn, .int .i64 op', .int .i64 fo', .string (str ky'), .int .i64 bk', .slice qe' es'.length ce', .slice qd' ds'.length cd', .slice qm' ms'.length cm'] 32 :: Blk b_n [.int .i64 kd2, .int .i64 fr2, .int .i64 tn2, .int .i64 op2', .int .i64 fo2', .string (str ky2'), .int .i64 bk2', .slice qe2' es2'.length ce2', .slice qd2' ds2'.length cd2', .slice qm2' ms2'.length cm2'] 32 :: R) w ∧ k ≤ ms'.length ∧ (ms'.take k).map pDot = (ms2'.take k).map pDot) (fun k => ms'.length - k) 0 ((hf.keep hk0).kb hf 85 rfl (by first | rfl | exact int_eq (by omega))) ⟨hS.subA, ⟨by omega, rfl⟩⟩ ?_
    clear hf hS; rintro k a w hf ⟨hS, ⟨hk, hok⟩⟩; (try dsimp only [List.cons_append, List.nil_append] at hf)
    refine c_seq (c_region ?_)
    refine sB hf hS (rd_lss hf rfl rfl rfl) ?_ ?_
    ·
     clear hf; intro hc13 a hf
     obtain ⟨x, hget⟩ := get_of_lt (l := ms') (k := k) (by omega) rfl; obtain ⟨ad, rfl⟩ := (hvm' _ (hS.subA)).some (by omega); obtain ⟨dn, dc, _⟩ := x
     obtain ⟨x2, hget2⟩ := get_of_lt (l := ms2') (k := k) (by omega) rfl; obtain ⟨ad2, rfl⟩ := (hvm2' _ (hS.subA)).some (by omega); obtain ⟨dn2, dc2, _⟩ := x2
     refine done_l (t_normal (c_seq ?_))
     refine c_true hf rfl ?_
     refine c_skip (t_normal (c_seq (c_block (c_seq (c_region ?_)))))
     iterate 2 ((first | refine mN hf hS ?_ | refine aN hf hS ?_); clear hf; intro a hf)
     refine done_l (t_normal (c_seq ?_))
     refine any_begin mixed hS.drew ?_
     replace hS := hS.drew
     have hT := hS
     refine any_takeA (i := 0) hf rfl (Wn.none rfl) (rd_fieldAddrB hf rfl rfl fb32_9 rfl) hT rfl rfl ?_; clear hf; intro a hf
     refine any_takeA (i := 1) hf rfl (Wn.none rfl) (rd_ld hf ag30) hT rfl rfl ?_; clear hf; intro a hf
     refine any_takeA (i := 2) hf rfl (Wn.none rfl) (rd_move hf rfl rfl) hT rfl rfl ?_; clear hf; intro a hf
     refine any_takeA (i := 3) hf rfl (Wn.none rfl) ((by first | exact rd_indexAddrN hf rfl rfl rfl Tryz.underlying30 sz73 (by omega) | exact rd_indexAddr hf rfl rfl rfl Tryz.underlying30 sz73 (by first | decide | omega) (by omega))) hT rfl rfl ?_; clear hf; intro a hf
     refine any_takeA (i := 4) hf rfl (Wn.none rfl) (rd_loadN hf rfl rfl ag73 sz73 (by intro _ h; exact (show AggAt _ _ _ [.int .i64 dn, .int .i64 dc] from (hvm' _ (h.subA)).el hget))) hT rfl rfl ?_; clear hf; intro a hf
     refine any_takeA (i := 5) hf rfl (Wn.none rfl) (rd_fieldAddrB hf rfl rfl fb32_9 rfl) hT rfl rfl ?_; clear hf; intro a hf
     refine any_takeA (i := 6) hf rfl (Wn.none rfl) (rd_ld hf ag30) hT rfl rfl ?_; clear hf; intro a hf
     refine any_takeA (i := 7) hf rfl (Wn.none rfl) (rd_move hf rfl rfl) hT rfl rfl ?_; clear hf; intro a hf
     refine any_takeA (i := 8) hf rfl (Wn.none rfl) ((by first | exact rd_indexAddrN hf rfl rfl rfl Tryz.underlying30 sz73 (by omega) | exact rd_indexAddr hf rfl rfl rfl Tryz.underlying30 sz73 (by first | decide | omega) (by omega))) hT rfl rfl ?_; clear hf; intro a hf
     refine any_takeA (i := 9) hf rfl (Wn.none rfl) (rd_loadN hf rfl rfl ag73 sz73 (by intro _ h; exact (show AggAt _ _ _ [.int .i64 dn2, .int .i64 dc2] from (hvm2' _ (h.subA)).el hget2))) hT rfl rfl ?_; clear hf; intro a hf
     refine any_takeB (i := 10) hf rfl (by kernel_rfl) (by kernel_rfl) (by kernel_rfl) (fun _ _ _ _ h => h) (Wn.none rfl) ((rd_neqP hf rfl rfl rfl eq_mem eqg73)) hT rfl rfl ?_ ?_
     ·
      clear hf; intro hc14 a hf
      have hnl := eq_no (f := pDot) hget hget2 hc14
      refine any_done (by kernel_rfl) ?_
      refine t_normal ?_
      refine c_true hf rfl ?_
      refine c_seq (c_region ?_)
      refine aN hf hS ?_; clear hf; intro a hf
      refine done_l (t_normal (c_ret (b_ret (t_ret (t_ret (b_ret (t_ret ?_)))))))
      refine eT hf ?_
      refine ⟨congrArg Value.bool ?_, hS.subA⟩
      clear hf hS
      first | exact (sameM_no hpl hpl2 (by intro e; injection e; contradiction)).symm | exact ((sameM_last hpl hpl2 (show kd = kd2 by first | assumption | exact Classical.not_not.1 (by assumption)) (show fr = fr2 by first | assumption | exact Classical.not_not.1 (by assumption)) (show tn = tn2 by first | assumption | exact Classical.not_not.1 (by assumption)) (show op' = op2' by first | assumption | exact Classical.not_not.1 (by assumption)) (show fo' = fo2' by first | assumption | exact Classical.not_not.1 (by assumption)) (show ky' = ky2' by first | assumption | exact Classical.not_not.1 (by assumption)) (show bk' = bk2' by first | assumption | exact Classical.not_not.1 (by assumption)) (show es'.map pEnt = es2'.map pEnt by first | assumption | exact Classical.not_not.1 (by assumption)) (show ds'.map pDig = ds2'.map pDig by first | assumption | exact Classical.not_not.1 (by assumption))).trans (decide_eq_true (eq_done hlen hok))).symm
     clear hf; intro hc14 a hf
     have hEQ := hc14
     refine any_done (by kernel_rfl) ?_
     refine t_normal ?_
     refine c_false hf rfl ?_
     refine c_skip (b_normal (t_normal (c_region ?_)))
     refine sP hf hS ?_; clear hf; intro a hf
     refine mN hf hS ?_; clear hf; intro a hf
     refine done_l ?_
     refine t_normal ⟨k + 1, ((hf.backA hk0).kb hf 85 rfl (by first | rfl | exact int_eq (by omega))), ⟨hS.subA, ⟨by omega, eq_step hget hget2 hok (Classical.not_not.1 hEQ)⟩⟩, by first | omega | (simp only []; omega)⟩
    clear hf; intro hc13 a hf
    obtain rfl : k = ms'.length := by omega
    refine done_l (t_normal (c_seq ?_))
    refine c_false hf rfl ?_
    refine c_exit (t_exit (t_exit (b_exit (t_normal (c_seq (c_region ?_))))))
    refine aN hf hS ?_; clear hf; intro a hf
    refine done_l (t_normal (c_ret ?_))
    refine eT hf ?_
    refine ⟨congrArg Value.bool ?_, hS.subA⟩
    clear hf hS
    first | exact (sameM_no hpl hpl2 (by intro e; injection e; contradiction)).symm | exact ((sameM_last hpl hpl2 (show kd = kd2 by first | assumption | exact Classical.not_not.1 (by assumption)) (show fr = fr2 by first | assumption | exact Classical.not_not.1 (by assumption)) (show tn = tn2 by first | assumption | exact Classical.not_not.1 (by assumption)) (show op' = op2' by first | assumption | exact Classical.not_not.1 (by assumption)) (show fo' = fo2' by first | assumption | exact Classical.not_not.1 (by assumption)) (show ky' = ky2' by first | assumption | exact Classical.not_not.1 (by assumption)) (show bk' = bk2' by first | assumption | exact Classical.not_not.1 (by assumption)) (show es'.map pEnt = es2'.map pEnt by first | assumption | exact Classical.not_not.1 (by assumption)) (show ds'.map pDig = ds2'.map pDig by first | assumption | exact Classical.not_not.1 (by assumption))).trans (decide_eq_true (eq_done hlen hok))).symm
   clear hf; intro hc11 hf
   refine sG hf hS (rd_not hf rfl rfl) ?_; clear hf; intro a hf
   iterate 10 ((first | refine kS hf ?_ | refine mN hf hS ?_ | refine pT hf hS ?_ | refine pF hf hS ?_); clear hf; intro a hf)
   refine done_l (t_normal ?_)
   refine c_true hf rfl ?_
   refine c_seq (c_region ?_)
   refine aN hf hS ?_; clear hf; intro a hf
   refine done_l (t_normal (c_ret (t_ret ?_)))
   refine eT hf ?_
   refine ⟨congrArg Value.bool ?_, hS.subA⟩
   clear hf hS
   first | exact (sameM_no hpl hpl2 (by intro e; injection e; contradiction)).symm | exact ((sameM_last hpl hpl2 (show kd = kd2 by first | assumption | exact Classical.not_not.1 (by assumption)) (show fr = fr2 by first | assumption | exact Classical.not_not.1 (by assumption)) (show tn = tn2 by first | assumption | exact Classical.not_not.1 (by assumption)) (show op' = op2' by first | assumption | exact Classical.not_not.1 (by assumption)) (show fo' = fo2' by first | assumption | exact Classical.not_not.1 (by assumption)) (show ky' = ky2' by first | assumption | exact Classical.not_not.1 (by assumption)) (show bk' = bk2' by first | assumption | exact Classical.not_not.1 (by assumption)) (show es'.map pEnt = es2'.map pEnt by first | assumption | exact Classical.not_not.1 (by assumption)) (show ds'.map pDig = ds2'.map pDig by first | assumption | exact Classical.not_not.1 (by assumption))).trans (decide_eq_true (eq_done hlen hok))).symm
  clear hf; intro hc10 hf
  refine sG hf hS (rd_not hf rfl rfl) ?_; clear hf; intro a hf
  iterate 18 ((first | refine kS hf ?_ | refine mN hf hS ?_ | refine pT hf hS ?_ | refine pF hf hS ?_); clear hf; intro a hf)
  refine done_l (t_normal ?_)
  refine c_true hf rfl ?_
  refine c_seq (c_region ?_)
  refine aN hf hS ?_; clear hf; intro a hf
  refine done_l (t_normal (c_ret (t_ret ?_)))
  refine eT hf ?_
  refine ⟨congrArg Value.bool ?_, hS.subA⟩
  clear hf hS
  first | exact (sameM_no hpl hpl2 (by intro e; injection e; contradiction)).symm | exact ((sameM_last hpl hpl2 (show kd = kd2 by first | assumption | exact Classical.not_not.1 (by assumption)) (show fr = fr2 by first | assumption | exact Classical.not_not.1 (by assumption)) (show tn = tn2 by first | assumption | exact Classical.not_not.1 (by assumption)) (show op' = op2' by first | assumption | exact Classical.not_not.1 (by assumption)) (show fo' = fo2' by first | assumption | exact Classical.not_not.1 (by assumption)) (show ky' = ky2' by first | assumption | exact Classical.not_not.1 (by assumption)) (show bk' = bk2' by first | assumption | exact Classical.not_not.1 (by assumption)) (show es'.map pEnt = es2'.map pEnt by first | assumption | exact Classical.not_not.1 (by assumption)) (show ds'.map pDig = ds2'.map pDig by first | assumption | exact Classical.not_not.1 (by assumption))).trans (decide_eq_true (eq_done hlen hok))).symm

end Go.Proofs.YtcflbdpjoanbgaaGreat
