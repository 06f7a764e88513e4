/-
  Walked: May.
  Conditions: none.
-/
import Derived.Test.YtglmimbfelakbaaVec1
namespace Go.Proofs.Ytglmimbfelakbaa
open Go Go.Sl
set_option linter.unusedVariables false
set_option linter.unusedSimpArgs false

theorem SMay_c (s0 s1 s2 s3 s4 s5 s6 s7 : Int) (vs : List ValT) (q : Option Addr) (c : Nat) {W : World} {R : List HP} {w : World} (hS : Sat W (R) w) (hv : ∀ w, Sat W R w → ValsAt w (q, c, vs)) : Calls Try.prog 72 [.agg #[.int .i64 s0, .int .i64 s1, .int .i64 s2, .int .i64 s3, .int .i64 s4, .int .i64 s5, .int .i64 s6, .int .i64 s7, .slice q vs.length c]].toArray w (Ret fun v w' => v = .bool (maySib ([s0, s1, s2, s3, s4, s5, s6, s7], vs.map pVal)) ∧ Sat W R w') := by
 refine fn_start 52 Try.func72 rfl rfl rfl ?_
 intro a hf
 refine c_seq ?_
 refine c_region ?_
 refine step_l (st_box hf (Wn.none rfl) hS rfl rfl (by rfl) rfl rfl ?_)
 clear hf hS; intro b_s a w hf hS
 refine step_l (st_rd hf (Wn.none rfl) (rd_assign hf rfl rfl) hS rfl rfl ?_)
 clear hf; intro a hf
 refine done_l ?_
 refine t_normal ?_
 refine c_seq ?_
 refine c_seq ?_
 refine c_region ?_
 refine step_l (st_rd hf (Wn.none rfl) (rd_fieldAddrB hf rfl rfl fb40_0 rfl) hS rfl rfl ?_)
 clear hf; intro a hf
 refine step_l (st_rd hf (Wn.none rfl) (rd_loadN hf rfl rfl ag37 sz37 (by intro _ h; exact loadN_of h (by repeat (first | exact Sel.head | apply Sel.tail)) (by repeat (first | exact Seg.nil | apply Seg.cons | apply Seg.succ)) )) hS rfl rfl ?_)
 clear hf; intro a hf
 refine step_l (st_call hf (Wn.none rfl) rfl rfl rfl fn75 (VMay_c _ _ _ _ _ _ _ _ hS) rfl rfl ?_)
 clear hf hS; rintro v a w ⟨rfl, hS⟩ hf
 first | refine split_dec (d := 7) hf rfl ?_ ?_ | refine split_bool (d := 7) hf rfl ?_ ?_
 ·
  clear hf; intro hc2 hf
  have hVC := hc2
  refine step_l (st_rd hf (Wn.none rfl) (rd_not hf rfl rfl) hS rfl rfl ?_)
  clear hf; intro a hf
  refine step_l (st_rd hf (Wn.none rfl) (rd_move hf rfl rfl) hS rfl rfl ?_)
  clear hf; intro a hf
  refine step_l (st_rd hf (Wn.some hf rfl rfl rfl rfl) (rd_fieldAddrB hf rfl rfl fb40_1 rfl) hS rfl rfl ?_)
  clear hf; intro a hf
  refine step_l (st_rd hf (Wn.some hf rfl rfl rfl rfl) (rd_load1 hf rfl rfl ag38 (by intro _ h; first | exact h.cell (by repeat (first | exact Sel.head | apply Sel.tail)) (by rfl))) hS rfl rfl ?_)
  clear hf; intro a hf
  refine step_l (st_rd hf (Wn.some hf rfl rfl rfl rfl) (rd_len hf rfl rfl Try.underlying38) hS rfl rfl ?_)
  clear hf; intro a hf
  refine step_l (st_rdB hf (Wn.some hf rfl rfl rfl rfl) (rd_gtr hf rfl rfl rfl) hS rfl rfl ?_ ?_)
  ·
   clear hf; intro hc3 a hf
   refine step_l (st_rd hf (Wn.none rfl) (rd_pick_f hf rfl rfl rfl) hS rfl rfl ?_)
   clear hf; intro a hf
   refine done_l ?_
   refine t_normal ?_
   refine c_true hf rfl ?_
   refine c_seq ?_
   refine c_region ?_
   refine step_l (st_rd hf (Wn.none rfl) (rd_assign hf rfl rfl) hS rfl rfl ?_)
   clear hf; intro a hf
   refine done_l ?_
   refine t_normal ?_
   refine c_ret ?_
   refine t_ret ?_
   refine e_res1 hf.defers rfl (res_tmp hf rfl .nil) ?_
   refine ⟨congrArg Value.bool ?_, hS.subA⟩
   clear hf hS
   first | exact (maySib_no1 hVC).symm | exact (maySib_no2 (by rw [List.length_map]; omega)).symm | exact (maySib_no3 (by omega) (okAt_f0 hget hOV)).symm | exact (maySib_no3 (by omega) (okAt_f1 hget hCV)).symm | exact (maySib_no3 (by omega) (okAt_f2 hget hgy hLS)).symm | exact (maySib_yes hVC (by omega) hok).symm
  clear hf; intro hc3 a hf
  refine step_l (st_rd hf (Wn.none rfl) (rd_pick_f hf rfl rfl rfl) hS rfl rfl ?_)
  clear hf; intro a hf
  refine done_l ?_
  refine t_normal ?_
  refine c_false hf rfl ?_
  refine c_skip ?_
  refine t_normal ?_
  refine c_seq ?_
  refine c_seq ?_
  refine c_region ?_
  refine step_l (st_rd hf (Wn.none rfl) (rd_fieldAddrB hf rfl rfl fb40_1 rfl) hS rfl rfl ?_)
  clear hf; intro a hf
  refine step_l (st_rd hf (Wn.none rfl) (rd_load1 hf rfl rfl ag38 (by intro _ h; first | exact h.cell (by repeat (first | exact Sel.head | apply Sel.tail)) (by rfl))) hS rfl rfl ?_)
  clear hf; intro a hf
  refine step_l (st_rd hf (Wn.none rfl) (rd_len hf rfl rfl Try.underlying38) hS rfl rfl ?_)
  clear hf; intro a hf
  refine step_l (st_rd hf (Wn.none rfl) (rd_move hf rfl rfl) hS rfl rfl ?_)
  clear hf; intro a hf
  refine done_l ?_
  refine t_normal ?_
  refine c_block ?_
  have hk0 := Keep.of hf [(2, 4), (18, 51)] (by repeat (first | exact Keep.nil | apply Keep.drop rfl | apply Keep.take rfl))
  refine c_loopK hk0 (α := Nat) (fun k => [(18, .int .i64 (k : Nat))]) (fun k w => Sat W (Blk b_s [.int .i64 s0, .int .i64 s1, .int .i64 s2, .int .i64 s3, .int .i64 s4, .int .i64 s5, .int .i64 s6, .int .i64 s7, .slice q vs.length c] 40 :: R) w ∧ k ≤ vs.length ∧ rall k (okAt [s0, s1, s2, s3, s4, s5, s6, s7] (vs.map pVal)) = true) (fun k => vs.length - k) 0 ((hf.keep hk0).kb hf 18 rfl (by first | rfl | exact int_eq (by omega))) ⟨hS.subA, ⟨by omega, rfl⟩⟩ ?_
  clear hf hS; rintro k a w hf ⟨hS, ⟨hk, hok⟩⟩; (try dsimp only [List.cons_append, List.nil_append] at hf)
  refine c_seq ?_
  refine c_region ?_
  refine step_l (st_rdB hf (Wn.none rfl) (rd_lss hf rfl rfl rfl) hS rfl rfl ?_ ?_)
  ·
   clear hf; intro hc4 a hf
   obtain ⟨x, hget⟩ := get_of_lt (l := vs) (k := k) (by omega) rfl; obtain ⟨ad, rfl⟩ := (hv _ (hS.subA)).some (by omega); obtain ⟨⟨dn, dc, _⟩, ⟨xq, xc, bs⟩, dead, _⟩ := x
   refine done_l ?_
   refine t_normal ?_
   refine c_seq ?_
   refine c_true hf rfl ?_
   refine c_skip ?_
   refine t_normal ?_
   refine c_seq ?_
   refine c_block ?_
   refine c_seq ?_
   refine c_region ?_
   refine step_l (st_rd hf (Wn.none rfl) (rd_move hf rfl rfl) hS rfl rfl ?_)
   clear hf; intro a hf
   refine step_l (st_rd hf (Wn.none rfl) ((by first | exact rd_indexAddrN hf rfl rfl rfl Try.underlying38 sz44 (by omega) | exact rd_indexAddr hf rfl rfl rfl Try.underlying38 sz44 (by first | decide | omega) (by omega))) hS rfl rfl ?_)
   clear hf; intro a hf
   refine step_l (st_rd hf (Wn.none rfl) (rd_loadN hf rfl rfl ag44 sz44 (by intro _ h; exact (show AggAt _ _ _ [.int .i64 dn, .int .i64 dc, .slice xq bs.length xc, .bool dead] from (hv _ (h.subA)).el hget))) hS rfl rfl ?_)
   clear hf; intro a hf
   refine step_l (st_alloc hf (Wn.none rfl) hS rfl zr44 (by rfl) rfl rfl ?_)
   clear hf hS; intro b_v a w hf hS
   refine step_l (st_rd hf (Wn.none rfl) (rd_assign hf rfl rfl) hS rfl rfl ?_)
   clear hf; intro a hf
   refine step_l (st_store hf (Wn.none rfl) hS rfl rfl rfl (by rfl) sz44 (by rfl) (by rfl) (by repeat (first | exact Sel.head | apply Sel.tail)) (by repeat (first | exact Put.nil | apply Put.cons | apply Put.succ)) rfl ?_)
   clear hf hS; intro a w hf hS
   refine done_l ?_
   refine t_normal ?_
   refine c_seq ?_
   refine any_begin mixed hS.drew ?_
   replace hS := hS.drew
   have hT := hS
   refine any_takeA (i := 0) hf rfl (Wn.none rfl) (rd_loadN hf rfl rfl ag44 sz44 (by intro _ h; exact loadN_of h (by repeat (first | exact Sel.head | apply Sel.tail)) (by repeat (first | exact Seg.nil | apply Seg.cons | apply Seg.succ)) )) hT rfl rfl ?_
   clear hf; intro a hf
   refine any_one (i := 1) rfl (by kernel_rfl) (st_call hf (Wn.none rfl) rfl rfl rfl fn101 (MVal_c _ _ _ _ _ _ hS) rfl rfl ?_)
   clear hf hS; rintro v a w ⟨rfl, hS⟩ hf
   replace hT := hS.sub' hT (by repeat (first | exact Sub.refl | exact Sub.none | exact Sub.behind | (apply Sub.cons; (focus ((repeat (first | exact Sel.head | apply Sel.tail)); done))) | apply Sub.skip))
   refine ⟨hT, ?_⟩
   first | refine split_dec (d := 24) hf rfl ?_ ?_ | refine split_bool (d := 24) hf rfl ?_ ?_
   ·
    clear hf; intro hc6 hf
    have hOV := hc6
    refine any_takeA (i := 2) hf rfl (Wn.none rfl) (rd_not hf rfl rfl) hT rfl rfl ?_
    clear hf; intro a hf
    refine any_takeA (i := 3) hf rfl (Wn.none rfl) (rd_move hf rfl rfl) hT rfl rfl ?_
    clear hf; intro a hf
    refine any_takeA (i := 4) hf rfl (Wn.some hf rfl rfl rfl rfl) ((by first | exact rd_fieldAddrB hf rfl rfl fb40_0 rfl | exact rd_fieldAddr hf rfl rfl fb40_0)) hT rfl rfl ?_
    clear hf; intro a hf
    refine any_takeA (i := 5) hf rfl (Wn.some hf rfl rfl rfl rfl) (rd_loadN hf rfl rfl ag37 sz37 (by intro _ h; exact loadN_of h (by repeat (first | exact Sel.head | apply Sel.tail)) (by repeat (first | exact Seg.nil | apply Seg.cons | apply Seg.succ)) )) hT rfl rfl ?_
    clear hf; intro a hf
    refine any_takeA (i := 6) hf rfl (Wn.some hf rfl rfl rfl rfl) ((by first | exact rd_fieldAddrB hf rfl rfl fb44_0 rfl | exact rd_fieldAddr hf rfl rfl fb44_0)) hT rfl rfl ?_
    clear hf; intro a hf
    refine any_takeA (i := 7) hf rfl (Wn.some hf rfl rfl rfl rfl) (rd_loadN hf rfl rfl ag42 sz42 (by intro _ h; exact loadN_of h (by repeat (first | exact Sel.head | apply Sel.tail)) (by repeat (first | exact Seg.nil | apply Seg.cons | apply Seg.succ)) )) hT rfl rfl ?_
    clear hf; intro a hf
    refine any_one (i := 8) rfl (by kernel_rfl) (st_call hf (Wn.some hf rfl rfl rfl rfl) rfl rfl rfl fn76 (VCov_c _ _ _ _ _ _ _ _ _ _ hS) rfl rfl ?_)
    clear hf hS; rintro v a w ⟨rfl, hS⟩ hf
    replace hT := hS.sub' hT (by repeat (first | exact Sub.refl | exact Sub.none | exact Sub.behind | (apply Sub.cons; (focus ((repeat (first | exact Sel.head | apply Sel.tail)); done))) | apply Sub.skip))
    refine ⟨hT, ?_⟩
    first | refine split_dec (d := 31) hf rfl ?_ ?_ | refine split_bool (d := 31) hf rfl ?_ ?_
    ·
     clear hf; intro hc7 hf
     have hCV : covers [s0, s1, s2, s3, s4, s5, s6, s7] (dn, dc) = true := by first | exact hc7 | exact decide_eq_true hc7
     refine any_takeA (i := 9) hf rfl (Wn.some hf rfl rfl rfl rfl) (rd_not hf rfl rfl) hT rfl rfl ?_
     clear hf; intro a hf
     refine any_takeA (i := 10) hf rfl (Wn.none rfl) (rd_pick_f hf rfl rfl rfl) hT rfl rfl ?_
     clear hf; intro a hf
     refine any_takeA (i := 11) hf rfl (Wn.none rfl) (rd_move hf rfl rfl) hT rfl rfl ?_
     clear hf; intro a hf
     refine any_takeA (i := 12) hf rfl (Wn.some hf rfl rfl rfl rfl) (rd_move hf rfl rfl) hT rfl rfl ?_
     clear hf; intro a hf
     refine any_takeB (i := 13) hf rfl (by kernel_rfl) (by kernel_rfl) (by kernel_rfl) (fun _ _ _ _ h => h) (Wn.some hf rfl rfl rfl rfl) (rd_gtr hf rfl rfl rfl) hT rfl rfl ?_ ?_
     ·
      clear hf; intro hc8 a hf
      obtain ⟨j, rfl⟩ : ∃ j, k = j + 1 := ⟨k - 1, by omega⟩; obtain ⟨y, hgy⟩ := get_of_lt (l := vs) (k := j) (by omega) rfl; obtain ⟨⟨en, ec, _⟩, ⟨yq, yc, cs⟩, edead, _⟩ := y
      refine any_takeA (i := 14) hf rfl (Wn.some hf rfl rfl rfl rfl) (rd_move hf rfl rfl) hT rfl rfl ?_
      clear hf; intro a hf
      refine any_takeA (i := 15) hf rfl (Wn.some hf rfl rfl rfl rfl) ((by first | exact rd_fieldAddrB hf rfl rfl fb40_1 rfl | exact rd_fieldAddr hf rfl rfl fb40_1)) hT rfl rfl ?_
      clear hf; intro a hf
      refine any_takeA (i := 16) hf rfl (Wn.some hf rfl rfl rfl rfl) (rd_load1 hf rfl rfl ag38 (by intro _ h; first | exact h.cell (by repeat (first | exact Sel.head | apply Sel.tail)) (by rfl))) hT rfl rfl ?_
      clear hf; intro a hf
      refine any_takeA (i := 17) hf rfl (Wn.some hf rfl rfl rfl rfl) (rd_move hf rfl rfl) hT rfl rfl ?_
      clear hf; intro a hf
      refine any_takeA (i := 18) hf rfl (Wn.some hf rfl rfl rfl rfl) (rd_sub hf rfl rfl rfl (wrap_pred j (by omega))) hT rfl rfl ?_
      clear hf; intro a hf
      refine any_takeA (i := 19) hf rfl (Wn.some hf rfl rfl rfl rfl) ((by first | exact rd_indexAddrN hf rfl rfl rfl Try.underlying38 sz44 (by omega) | exact rd_indexAddr hf rfl rfl rfl Try.underlying38 sz44 (by first | decide | omega) (by omega))) hT rfl rfl ?_
      clear hf; intro a hf
      refine any_takeA (i := 20) hf rfl (Wn.some hf rfl rfl rfl rfl) ((by first | exact rd_fieldAddrB hf rfl rfl fb44_0 rfl | exact rd_fieldAddr hf rfl rfl fb44_0)) hT rfl rfl ?_
      clear hf; intro a hf
      refine any_takeA (i := 21) hf rfl (Wn.some hf rfl rfl rfl rfl) (rd_loadN hf rfl rfl ag42 sz42 (by intro _ h; exact ((show AggAt _ _ _ [.int .i64 en, .int .i64 ec, .slice yq cs.length yc, .bool edead] from (hv _ (h.subA)).el hgy).part (k := 0) (m := 2) rfl (by decide)))) hT rfl rfl ?_
      clear hf; intro a hf
      refine any_takeA (i := 22) hf rfl (Wn.some hf rfl rfl rfl rfl) ((by first | exact rd_fieldAddrB hf rfl rfl fb44_0 rfl | exact rd_fieldAddr hf rfl rfl fb44_0)) hT rfl rfl ?_
      clear hf; intro a hf
      refine any_takeA (i := 23) hf rfl (Wn.some hf rfl rfl rfl rfl) (rd_loadN hf rfl rfl ag42 sz42 (by intro _ h; exact loadN_of h (by repeat (first | exact Sel.head | apply Sel.tail)) (by repeat (first | exact Seg.nil | apply Seg.cons | apply Seg.succ)) )) hT rfl rfl ?_
      clear hf; intro a hf
      refine any_one (i := 24) rfl (by kernel_rfl) (st_call hf (Wn.some hf rfl rfl rfl rfl) rfl rfl rfl fn77 (VLess_c _ _ _ _ hS) rfl rfl ?_)
      clear hf hS; rintro v a w ⟨rfl, hS⟩ hf
      replace hT := hS.sub' hT (by repeat (first | exact Sub.refl | exact Sub.none | exact Sub.behind | (apply Sub.cons; (focus ((repeat (first | exact Sel.head | apply Sel.tail)); done))) | apply Sub.skip))
      refine ⟨hT, ?_⟩
      first | refine split_dec (d := 47) hf rfl ?_ ?_ | refine split_bool (d := 47) hf rfl ?_ ?_
      ·
       clear hf; intro hc9 hf
       have hLS : dless (en, ec) (dn, dc) = true := by first | exact hc9 | exact decide_eq_true hc9
       refine any_takeA (i := 25) hf rfl (Wn.some hf rfl rfl rfl rfl) (rd_not hf rfl rfl) hT rfl rfl ?_
       clear hf; intro a hf
       refine any_takeA (i := 26) hf rfl (Wn.some hf rfl rfl rfl rfl) (rd_pick_t hf rfl rfl rfl) hT rfl rfl ?_
       clear hf; intro a hf
       refine any_takeA (i := 27) hf rfl (Wn.none rfl) (rd_pick_f hf rfl rfl rfl) hT rfl rfl ?_
       clear hf; intro a hf
       refine any_done (by kernel_rfl) ?_
       refine t_normal ?_
       refine c_false hf rfl ?_
       refine c_skip ?_
       refine b_normal ?_
       refine t_normal ?_
       refine c_region ?_
       refine step_l (st_rd hf (Wn.none rfl) (rd_add hf rfl rfl rfl (by first | exact Go.IntWalk.i64_in _ (by omega) | exact rfl)) hS rfl rfl ?_)
       clear hf; intro a hf
       refine step_l (st_rd hf (Wn.none rfl) (rd_move hf rfl rfl) hS rfl rfl ?_)
       clear hf; intro a hf
       refine done_l ?_
       refine t_normal ⟨j + 1 + 1, ((hf.back (by repeat (first | exact Behind.refl | refine Behind.skip rfl ?_)) hk0).kb hf 18 rfl (by first | rfl | exact int_eq (by omega))), ⟨hS.subA, ⟨by omega, by first | exact rall_step hok (okAt_ts hget hgy hOV hCV hLS) | exact rall_step hok (okAt_t0 hget hOV hCV)⟩⟩, by first | omega | (simp only []; omega)⟩
      clear hf; intro hc9 hf
      have hLS : dless (en, ec) (dn, dc) = false := by first | exact hc9 | exact decide_eq_false hc9
      refine any_takeA (i := 25) hf rfl (Wn.some hf rfl rfl rfl rfl) (rd_not hf rfl rfl) hT rfl rfl ?_
      clear hf; intro a hf
      refine any_takeA (i := 26) hf rfl (Wn.some hf rfl rfl rfl rfl) (rd_pick_t hf rfl rfl rfl) hT rfl rfl ?_
      clear hf; intro a hf
      refine any_takeA (i := 27) hf rfl (Wn.none rfl) (rd_pick_f hf rfl rfl rfl) hT rfl rfl ?_
      clear hf; intro a hf
      refine any_done (by kernel_rfl) ?_
      refine t_normal ?_
      refine c_true hf rfl ?_
      refine c_seq ?_
      refine c_region ?_
      refine step_l (st_rd hf (Wn.none rfl) (rd_assign hf rfl rfl) hS rfl rfl ?_)
      clear hf; intro a hf
      refine done_l ?_
      refine t_normal ?_
      refine c_ret ?_
      refine b_ret ?_
      refine t_ret ?_
      refine t_ret ?_
      refine b_ret ?_
      refine t_ret ?_
      refine e_res1 hf.defers rfl (res_tmp hf rfl .nil) ?_
      refine ⟨congrArg Value.bool ?_, hS.subA⟩
      clear hf hS
      first | exact (maySib_no1 hVC).symm | exact (maySib_no2 (by rw [List.length_map]; omega)).symm | exact (maySib_no3 (by omega) (okAt_f0 hget hOV)).symm | exact (maySib_no3 (by omega) (okAt_f1 hget hCV)).symm | exact (maySib_no3 (by omega) (okAt_f2 hget hgy hLS)).symm | exact (maySib_yes hVC (by omega) hok).symm
     clear hf; intro hc8 a hf
     obtain rfl : k = 0 := by omega
     refine any_takeA (i := 14) hf rfl (Wn.some hf rfl rfl rfl rfl) (rd_move hf rfl rfl) hT rfl rfl ?_
     clear hf; intro a hf
     refine any_skipA (i := 15) hf rfl (Wn.some hf rfl rfl rfl rfl) hT rfl rfl ?_
     clear hf; intro a hf
     refine any_skipA (i := 16) hf rfl (Wn.some hf rfl rfl rfl rfl) hT rfl rfl ?_
     clear hf; intro a hf
     refine any_skipA (i := 17) hf rfl (Wn.some hf rfl rfl rfl rfl) hT rfl rfl ?_
     clear hf; intro a hf
     refine any_skipA (i := 18) hf rfl (Wn.some hf rfl rfl rfl rfl) hT rfl rfl ?_
     clear hf; intro a hf
     refine any_skipA (i := 19) hf rfl (Wn.some hf rfl rfl rfl rfl) hT rfl rfl ?_
     clear hf; intro a hf
     refine any_skipA (i := 20) hf rfl (Wn.some hf rfl rfl rfl rfl) hT rfl rfl ?_
     clear hf; intro a hf
     refine any_skipA (i := 21) hf rfl (Wn.some hf rfl rfl rfl rfl) hT rfl rfl ?_
     clear hf; intro a hf
     refine any_skipA (i := 22) hf rfl (Wn.some hf rfl rfl rfl rfl) hT rfl rfl ?_
     clear hf; intro a hf
     refine any_skipA (i := 23) hf rfl (Wn.some hf rfl rfl rfl rfl) hT rfl rfl ?_
     clear hf; intro a hf
     refine any_skipA (i := 24) hf rfl (Wn.some hf rfl rfl rfl rfl) hT rfl rfl ?_
     clear hf; intro a hf
     refine any_skipA (i := 25) hf rfl (Wn.some hf rfl rfl rfl rfl) hT rfl rfl ?_
     clear hf; intro a hf
     refine any_takeA (i := 26) hf rfl (Wn.some hf rfl rfl rfl rfl) (rd_pick_f hf rfl rfl rfl) hT rfl rfl ?_
     clear hf; intro a hf
     refine any_takeA (i := 27) hf rfl (Wn.none rfl) (rd_pick_f hf rfl rfl rfl) hT rfl rfl ?_
     clear hf; intro a hf
     refine any_done (by kernel_rfl) ?_
     refine t_normal ?_
     refine c_false hf rfl ?_
     refine c_skip ?_
     refine b_normal ?_
     refine t_normal ?_
     refine c_region ?_
     refine step_l (st_rd hf (Wn.none rfl) (rd_add hf rfl rfl rfl (by first | exact Go.IntWalk.i64_in _ (by omega) | exact rfl)) hS rfl rfl ?_)
     clear hf; intro a hf
     refine step_l (st_rd hf (Wn.none rfl) (rd_move hf rfl rfl) hS rfl rfl ?_)
     clear hf; intro a hf
     refine done_l ?_
     refine t_normal ⟨0 + 1, ((hf.back (by repeat (first | exact Behind.refl | refine Behind.skip rfl ?_)) hk0).kb hf 18 rfl (by first | rfl | exact int_eq (by omega))), ⟨hS.subA, ⟨by omega, by first | exact rall_step hok (okAt_ts hget hgy hOV hCV hLS) | exact rall_step hok (okAt_t0 hget hOV hCV)⟩⟩, by first | omega | (simp only []; omega)⟩
    clear hf; intro hc7 hf
    have hCV : covers [s0, s1, s2, s3, s4, s5, s6, s7] (dn, dc) = false := by first | exact hc7 | exact decide_eq_false hc7
    refine any_takeA (i := 9) hf rfl (Wn.some hf rfl rfl rfl rfl) (rd_not hf rfl rfl) hT rfl rfl ?_
    clear hf; intro a hf
    refine any_takeA (i := 10) hf rfl (Wn.none rfl) (rd_pick_f hf rfl rfl rfl) hT rfl rfl ?_
    clear hf; intro a hf
    refine any_takeA (i := 11) hf rfl (Wn.none rfl) (rd_move hf rfl rfl) hT rfl rfl ?_
    clear hf; intro a hf
    refine any_skipA (i := 12) hf rfl (Wn.some hf rfl rfl rfl rfl) hT rfl rfl ?_
    clear hf; intro a hf
    refine any_skipA (i := 13) hf rfl (Wn.some hf rfl rfl rfl rfl) hT rfl rfl ?_
    clear hf; intro a hf
    refine any_skipA (i := 14) hf rfl (Wn.some hf rfl rfl rfl rfl) hT rfl rfl ?_
    clear hf; intro a hf
    refine any_skipA (i := 15) hf rfl (Wn.undef hf rfl rfl rfl) hT rfl rfl ?_
    clear hf; intro a hf
    refine any_skipA (i := 16) hf rfl (Wn.undef hf rfl rfl rfl) hT rfl rfl ?_
    clear hf; intro a hf
    refine any_skipA (i := 17) hf rfl (Wn.undef hf rfl rfl rfl) hT rfl rfl ?_
    clear hf; intro a hf
    refine any_skipA (i := 18) hf rfl (Wn.undef hf rfl rfl rfl) hT rfl rfl ?_
    clear hf; intro a hf
    refine any_skipA (i := 19) hf rfl (Wn.undef hf rfl rfl rfl) hT rfl rfl ?_
    clear hf; intro a hf
    refine any_skipA (i := 20) hf rfl (Wn.undef hf rfl rfl rfl) hT rfl rfl ?_
    clear hf; intro a hf
    refine any_skipA (i := 21) hf rfl (Wn.undef hf rfl rfl rfl) hT rfl rfl ?_
    clear hf; intro a hf
    refine any_skipA (i := 22) hf rfl (Wn.undef hf rfl rfl rfl) hT rfl rfl ?_
    clear hf; intro a hf
    refine any_skipA (i := 23) hf rfl (Wn.undef hf rfl rfl rfl) hT rfl rfl ?_
    clear hf; intro a hf
    refine any_skipA (i := 24) hf rfl (Wn.undef hf rfl rfl rfl) hT rfl rfl ?_
    clear hf; intro a hf
    refine any_skipA (i := 25) hf rfl (Wn.undef hf rfl rfl rfl) hT rfl rfl ?_
    clear hf; intro a hf
    refine any_skipA (i := 26) hf rfl (Wn.some hf rfl rfl rfl rfl) hT rfl rfl ?_
    clear hf; intro a hf
    refine any_takeA (i := 27) hf rfl (Wn.none rfl) (rd_pick_t hf rfl rfl rfl) hT rfl rfl ?_
    clear hf; intro a hf
    refine any_done (by kernel_rfl) ?_
    refine t_normal ?_
    refine c_true hf rfl ?_
    refine c_seq ?_
    refine c_region ?_
    refine step_l (st_rd hf (Wn.none rfl) (rd_assign hf rfl rfl) hS rfl rfl ?_)
    clear hf; intro a hf
    refine done_l ?_
    refine t_normal ?_
    refine c_ret ?_
    refine b_ret ?_
    refine t_ret ?_
    refine t_ret ?_
    refine b_ret ?_
    refine t_ret ?_
    refine e_res1 hf.defers rfl (res_tmp hf rfl .nil) ?_
    refine ⟨congrArg Value.bool ?_, hS.subA⟩
    clear hf hS
    first | exact (maySib_no1 hVC).symm | exact (maySib_no2 (by rw [List.length_map]; omega)).symm | exact (maySib_no3 (by omega) (okAt_f0 hget hOV)).symm | exact (maySib_no3 (by omega) (okAt_f1 hget hCV)).symm | exact (maySib_no3 (by omega) (okAt_f2 hget hgy hLS)).symm | exact (maySib_yes hVC (by omega) hok).symm
   clear hf; intro hc6 hf
   have hOV := hc6
   refine any_takeA (i := 2) hf rfl (Wn.none rfl) (rd_not hf rfl rfl) hT rfl rfl ?_
   clear hf; intro a hf
   refine any_takeA (i := 3) hf rfl (Wn.none rfl) (rd_move hf rfl rfl) hT rfl rfl ?_
   clear hf; intro a hf
   refine any_skipA (i := 4) hf rfl (Wn.some hf rfl rfl rfl rfl) hT rfl rfl ?_
   clear hf; intro a hf
   refine any_skipA (i := 5) hf rfl (Wn.some hf rfl rfl rfl rfl) hT rfl rfl ?_
   clear hf; intro a hf
   refine any_skipA (i := 6) hf rfl (Wn.some hf rfl rfl rfl rfl) hT rfl rfl ?_
   clear hf; intro a hf
   refine any_skipA (i := 7) hf rfl (Wn.some hf rfl rfl rfl rfl) hT rfl rfl ?_
   clear hf; intro a hf
   refine any_skipA (i := 8) hf rfl (Wn.some hf rfl rfl rfl rfl) hT rfl rfl ?_
   clear hf; intro a hf
   refine any_skipA (i := 9) hf rfl (Wn.some hf rfl rfl rfl rfl) hT rfl rfl ?_
   clear hf; intro a hf
   refine any_takeA (i := 10) hf rfl (Wn.none rfl) (rd_pick_t hf rfl rfl rfl) hT rfl rfl ?_
   clear hf; intro a hf
   refine any_takeA (i := 11) hf rfl (Wn.none rfl) (rd_move hf rfl rfl) hT rfl rfl ?_
   clear hf; intro a hf
   refine any_skipA (i := 12) hf rfl (Wn.some hf rfl rfl rfl rfl) hT rfl rfl ?_
   clear hf; intro a hf
   refine any_skipA (i := 13) hf rfl (Wn.some hf rfl rfl rfl rfl) hT rfl rfl ?_
   clear hf; intro a hf
   refine any_skipA (i := 14) hf rfl (Wn.some hf rfl rfl rfl rfl) hT rfl rfl ?_
   clear hf; intro a hf
   refine any_skipA (i := 15) hf rfl (Wn.undef hf rfl rfl rfl) hT rfl rfl ?_
   clear hf; intro a hf
   refine any_skipA (i := 16) hf rfl (Wn.undef hf rfl rfl rfl) hT rfl rfl ?_
   clear hf; intro a hf
   refine any_skipA (i := 17) hf rfl (Wn.undef hf rfl rfl rfl) hT rfl rfl ?_
   clear hf; intro a hf
   refine any_skipA (i := 18) hf rfl (Wn.undef hf rfl rfl rfl) hT rfl rfl ?_
   clear hf; intro a hf
   refine any_skipA (i := 19) hf rfl (Wn.undef hf rfl rfl rfl) hT rfl rfl ?_
   clear hf; intro a hf
   refine any_skipA (i := 20) hf rfl (Wn.undef hf rfl rfl rfl) hT rfl rfl ?_
   clear hf; intro a hf
   refine any_skipA (i := 21) hf rfl (Wn.undef hf rfl rfl rfl) hT rfl rfl ?_
   clear hf; intro a hf
   refine any_skipA (i := 22) hf rfl (Wn.undef hf rfl rfl rfl) hT rfl rfl ?_
   clear hf; intro a hf
   refine any_skipA (i := 23) hf rfl (Wn.undef hf rfl rfl rfl) hT rfl rfl ?_
   clear hf; intro a hf
   refine any_skipA (i := 24) hf rfl (Wn.undef hf rfl rfl rfl) hT rfl rfl ?_
   clear hf; intro a hf
   refine any_skipA (i := 25) hf rfl (Wn.undef hf rfl rfl rfl) hT rfl rfl ?_
   clear hf; intro a hf
   refine any_skipA (i := 26) hf rfl (Wn.some hf rfl rfl rfl rfl) hT rfl rfl ?_
   clear hf; intro a hf
   refine any_takeA (i := 27) hf rfl (Wn.none rfl) (rd_pick_t hf rfl rfl rfl) hT rfl rfl ?_
   clear hf; intro a hf
   refine any_done (by kernel_rfl) ?_
   refine t_normal ?_
   refine c_true hf rfl ?_
   refine c_seq ?_
   refine c_region ?_
   refine step_l (st_rd hf (Wn.none rfl) (rd_assign hf rfl rfl) hS rfl rfl ?_)
   clear hf; intro a hf
   refine done_l ?_
   refine t_normal ?_
   refine c_ret ?_
   refine b_ret ?_
   refine t_ret ?_
   refine t_ret ?_
   refine b_ret ?_
   refine t_ret ?_
   refine e_res1 hf.defers rfl (res_tmp hf rfl .nil) ?_
   refine ⟨congrArg Value.bool ?_, hS.subA⟩
   clear hf hS
   first | exact (maySib_no1 hVC).symm | exact (maySib_no2 (by rw [List.length_map]; omega)).symm | exact (maySib_no3 (by omega) (okAt_f0 hget hOV)).symm | exact (maySib_no3 (by omega) (okAt_f1 hget hCV)).symm | exact (maySib_no3 (by omega) (okAt_f2 hget hgy hLS)).symm | exact (maySib_yes hVC (by omega) hok).symm
  clear hf; intro hc4 a hf
  obtain rfl : k = vs.length := by omega
  refine done_l ?_
  refine t_normal ?_
  refine c_seq ?_
  refine c_false hf rfl ?_
  refine c_exit ?_
  refine t_exit ?_
  refine t_exit ?_
  refine b_exit ?_
  refine t_normal ?_
  refine c_seq ?_
  refine c_region ?_
  refine step_l (st_rd hf (Wn.none rfl) (rd_assign hf rfl rfl) hS rfl rfl ?_)
  clear hf; intro a hf
  refine done_l ?_
  refine t_normal ?_
  refine c_ret ?_
  refine e_res1 hf.defers rfl (res_tmp hf rfl .nil) ?_
  refine ⟨congrArg Value.bool ?_, hS.subA⟩
  clear hf hS
  first | exact (maySib_no1 hVC).symm | exact (maySib_no2 (by rw [List.length_map]; omega)).symm | exact (maySib_no3 (by omega) (okAt_f0 hget hOV)).symm | exact (maySib_no3 (by omega) (okAt_f1 hget hCV)).symm | exact (maySib_no3 (by omega) (okAt_f2 hget hgy hLS)).symm | exact (maySib_yes hVC (by omega) hok).symm
 clear hf; intro hc2 hf
 have hVC := hc2
 refine step_l (st_rd hf (Wn.none rfl) (rd_not hf rfl rfl) hS rfl rfl ?_)
 clear hf; intro a hf
 iterate 6 ((first | refine step_l (st_skip hf (Wn.some hf rfl rfl rfl rfl) rfl rfl ?_) | refine step_l (st_rd hf (Wn.none rfl) (rd_move hf rfl rfl) hS rfl rfl ?_) | refine step_l (st_rd hf (Wn.none rfl) (rd_pick_t hf rfl rfl rfl) hS rfl rfl ?_)); clear hf; intro a hf)
 refine done_l ?_
 refine t_normal ?_
 refine c_true hf rfl ?_
 refine c_seq ?_
 refine c_region ?_
 refine step_l (st_rd hf (Wn.none rfl) (rd_assign hf rfl rfl) hS rfl rfl ?_)
 clear hf; intro a hf
 refine done_l ?_
 refine t_normal ?_
 refine c_ret ?_
 refine t_ret ?_
 refine e_res1 hf.defers rfl (res_tmp hf rfl .nil) ?_
 refine ⟨congrArg Value.bool ?_, hS.subA⟩
 clear hf hS
 first | exact (maySib_no1 hVC).symm | exact (maySib_no2 (by rw [List.length_map]; omega)).symm | exact (maySib_no3 (by omega) (okAt_f0 hget hOV)).symm | exact (maySib_no3 (by omega) (okAt_f1 hget hCV)).symm | exact (maySib_no3 (by omega) (okAt_f2 hget hgy hLS)).symm | exact (maySib_yes hVC (by omega) hok).symm

theorem DMay_c (ky : List UInt8) (s0 s1 s2 s3 s4 s5 s6 s7 : Int) (vs : List DotT) (q : Option Addr) (c : Nat) {W : World} {R : List HP} {w : World} (hS : Sat W (R) w) (hv : ∀ w, Sat W R w → DotsAt w (q, c, vs)) : Calls Try.prog 45 [.agg #[.string (str ky), .int .i64 s0, .int .i64 s1, .int .i64 s2, .int .i64 s3, .int .i64 s4, .int .i64 s5, .int .i64 s6, .int .i64 s7, .slice q vs.length c]].toArray w (Ret fun v w' => v = .bool (mayDig (ky, [s0, s1, s2, s3, s4, s5, s6, s7], vs.map pDot)) ∧ Sat W R w') := by
 refine fn_start 50 Try.func45 rfl rfl rfl ?_
 intro a hf
 refine c_seq ?_
 refine c_region ?_
 refine step_l (st_box hf (Wn.none rfl) hS rfl rfl (by rfl) rfl rfl ?_)
 clear hf hS; intro b_s a w hf hS
 refine step_l (st_rd hf (Wn.none rfl) (rd_assign hf rfl rfl) hS rfl rfl ?_)
 clear hf; intro a hf
 refine done_l ?_
 refine t_normal ?_
 refine c_seq ?_
 refine c_seq ?_
 refine c_region ?_
 refine step_l (st_rd hf (Wn.none rfl) (rd_fieldAddrB hf rfl rfl fb52_0 rfl) hS rfl rfl ?_)
 clear hf; intro a hf
 refine step_l (st_rd hf (Wn.none rfl) (rd_load1 hf rfl rfl ag9 (by intro _ h; first | exact h.cell (by repeat (first | exact Sel.head | apply Sel.tail)) (by rfl))) hS rfl rfl ?_)
 clear hf; intro a hf
 refine step_l (st_call hf (Wn.none rfl) rfl rfl rfl fn74 (KMay_c _ hS) rfl rfl ?_)
 clear hf hS; rintro v a w ⟨rfl, hS⟩ hf
 first | refine split_dec (d := 7) hf rfl ?_ ?_ | refine split_bool (d := 7) hf rfl ?_ ?_
 ·
  clear hf; intro hc2 hf
  have hKY : mayKey ky = true := by first | exact hc2 | exact decide_eq_true hc2
  refine step_l (st_rd hf (Wn.none rfl) (rd_not hf rfl rfl) hS rfl rfl ?_)
  clear hf; intro a hf
  refine step_l (st_rd hf (Wn.none rfl) (rd_move hf rfl rfl) hS rfl rfl ?_)
  clear hf; intro a hf
  refine step_l (st_rd hf (Wn.some hf rfl rfl rfl rfl) (rd_fieldAddrB hf rfl rfl fb52_1 rfl) hS rfl rfl ?_)
  clear hf; intro a hf
  refine step_l (st_rd hf (Wn.some hf rfl rfl rfl rfl) (rd_loadN hf rfl rfl ag37 sz37 (by intro _ h; exact loadN_of h (by repeat (first | exact Sel.head | apply Sel.tail)) (by repeat (first | exact Seg.nil | apply Seg.cons | apply Seg.succ)) )) hS rfl rfl ?_)
  clear hf; intro a hf
  refine step_l (st_call hf (Wn.some hf rfl rfl rfl rfl) rfl rfl rfl fn75 (VMay_c _ _ _ _ _ _ _ _ hS) rfl rfl ?_)
  clear hf hS; rintro v a w ⟨rfl, hS⟩ hf
  first | refine split_dec (d := 12) hf rfl ?_ ?_ | refine split_bool (d := 12) hf rfl ?_ ?_
  ·
   clear hf; intro hc3 hf
   have hVC := hc3
   refine step_l (st_rd hf (Wn.some hf rfl rfl rfl rfl) (rd_not hf rfl rfl) hS rfl rfl ?_)
   clear hf; intro a hf
   refine step_l (st_rd hf (Wn.none rfl) (rd_pick_f hf rfl rfl rfl) hS rfl rfl ?_)
   clear hf; intro a hf
   refine step_l (st_rd hf (Wn.none rfl) (rd_move hf rfl rfl) hS rfl rfl ?_)
   clear hf; intro a hf
   refine step_l (st_rd hf (Wn.some hf rfl rfl rfl rfl) (rd_fieldAddrB hf rfl rfl fb52_2 rfl) hS rfl rfl ?_)
   clear hf; intro a hf
   refine step_l (st_rd hf (Wn.some hf rfl rfl rfl rfl) (rd_load1 hf rfl rfl ag50 (by intro _ h; first | exact h.cell (by repeat (first | exact Sel.head | apply Sel.tail)) (by rfl))) hS rfl rfl ?_)
   clear hf; intro a hf
   refine step_l (st_rd hf (Wn.some hf rfl rfl rfl rfl) (rd_len hf rfl rfl Try.underlying50) hS rfl rfl ?_)
   clear hf; intro a hf
   refine step_l (st_rdB hf (Wn.some hf rfl rfl rfl rfl) (rd_gtr hf rfl rfl rfl) hS rfl rfl ?_ ?_)
   ·
    clear hf; intro hc4 a hf
    refine step_l (st_rd hf (Wn.none rfl) (rd_pick_f hf rfl rfl rfl) hS rfl rfl ?_)
    clear hf; intro a hf
    refine done_l ?_
    refine t_normal ?_
    refine c_true hf rfl ?_
    refine c_seq ?_
    refine c_region ?_
    refine step_l (st_rd hf (Wn.none rfl) (rd_assign hf rfl rfl) hS rfl rfl ?_)
    clear hf; intro a hf
    refine done_l ?_
    refine t_normal ?_
    refine c_ret ?_
    refine t_ret ?_
    refine e_res1 hf.defers rfl (res_tmp hf rfl .nil) ?_
    refine ⟨congrArg Value.bool ?_, hS.subA⟩
    clear hf hS
    first | exact (mayDig_no0 hKY).symm | exact (mayDig_no1 hVC).symm | exact (mayDig_no2 (by rw [List.length_map]; omega)).symm | exact (mayDig_no3 (by omega) (dotAt_f1 hget hCV)).symm | exact (mayDig_no3 (by omega) (dotAt_f2 hget hgy hLS)).symm | exact (mayDig_yes hKY hVC (by omega) hok).symm
   clear hf; intro hc4 a hf
   refine step_l (st_rd hf (Wn.none rfl) (rd_pick_f hf rfl rfl rfl) hS rfl rfl ?_)
   clear hf; intro a hf
   refine done_l ?_
   refine t_normal ?_
   refine c_false hf rfl ?_
   refine c_skip ?_
   refine t_normal ?_
   refine c_seq ?_
   refine c_seq ?_
   refine c_region ?_
   refine step_l (st_rd hf (Wn.none rfl) (rd_fieldAddrB hf rfl rfl fb52_2 rfl) hS rfl rfl ?_)
   clear hf; intro a hf
   refine step_l (st_rd hf (Wn.none rfl) (rd_load1 hf rfl rfl ag50 (by intro _ h; first | exact h.cell (by repeat (first | exact Sel.head | apply Sel.tail)) (by rfl))) hS rfl rfl ?_)
   clear hf; intro a hf
   refine step_l (st_rd hf (Wn.none rfl) (rd_len hf rfl rfl Try.underlying50) hS rfl rfl ?_)
   clear hf; intro a hf
   refine step_l (st_rd hf (Wn.none rfl) (rd_move hf rfl rfl) hS rfl rfl ?_)
   clear hf; intro a hf
   refine done_l ?_
   refine t_normal ?_
   refine c_block ?_
   have hk0 := Keep.of hf [(2, 4), (24, 49)] (by repeat (first | exact Keep.nil | apply Keep.drop rfl | apply Keep.take rfl))
   refine c_loopK hk0 (α := Nat) (fun k => [(24, .int .i64 (k : Nat))]) (fun k w => Sat W (Blk b_s [.string (str ky), .int .i64 s0, .int .i64 s1, .int .i64 s2, .int .i64 s3, .int .i64 s4, .int .i64 s5, .int .i64 s6, .int .i64 s7, .slice q vs.length c] 52 :: R) w ∧ k ≤ vs.length ∧ rall k (dotAt [s0, s1, s2, s3, s4, s5, s6, s7] (vs.map pDot)) = true) (fun k => vs.length - k) 0 ((hf.keep hk0).kb hf 24 rfl (by first | rfl | exact int_eq (by omega))) ⟨hS.subA, ⟨by omega, rfl⟩⟩ ?_
   clear hf hS; rintro k a w hf ⟨hS, ⟨hk, hok⟩⟩; (try dsimp only [List.cons_append, List.nil_append] at hf)
   refine c_seq ?_
   refine c_region ?_
   refine step_l (st_rdB hf (Wn.none rfl) (rd_lss hf rfl rfl rfl) hS rfl rfl ?_ ?_)
   ·
    clear hf; intro hc5 a hf
    obtain ⟨x, hget⟩ := get_of_lt (l := vs) (k := k) (by omega) rfl; obtain ⟨ad, rfl⟩ := (hv _ (hS.subA)).some (by omega); obtain ⟨dn, dc, _⟩ := x
    refine done_l ?_
    refine t_normal ?_
    refine c_seq ?_
    refine c_true hf rfl ?_
    refine c_skip ?_
    refine t_normal ?_
    refine c_seq ?_
    refine c_block ?_
    refine c_seq ?_
    refine c_region ?_
    refine step_l (st_rd hf (Wn.none rfl) (rd_move hf rfl rfl) hS rfl rfl ?_)
    clear hf; intro a hf
    refine step_l (st_rd hf (Wn.none rfl) ((by first | exact rd_indexAddrN hf rfl rfl rfl Try.underlying50 sz42 (by omega) | exact rd_indexAddr hf rfl rfl rfl Try.underlying50 sz42 (by first | decide | omega) (by omega))) hS rfl rfl ?_)
    clear hf; intro a hf
    refine step_l (st_rd hf (Wn.none rfl) (rd_loadN hf rfl rfl ag42 sz42 (by intro _ h; exact (show AggAt _ _ _ [.int .i64 dn, .int .i64 dc] from (hv _ (h.subA)).el hget))) hS rfl rfl ?_)
    clear hf; intro a hf
    refine step_l (st_alloc hf (Wn.none rfl) hS rfl zr42 (by rfl) rfl rfl ?_)
    clear hf hS; intro b_v a w hf hS
    refine step_l (st_rd hf (Wn.none rfl) (rd_assign hf rfl rfl) hS rfl rfl ?_)
    clear hf; intro a hf
    refine step_l (st_store hf (Wn.none rfl) hS rfl rfl rfl (by rfl) sz42 (by rfl) (by rfl) (by repeat (first | exact Sel.head | apply Sel.tail)) (by repeat (first | exact Put.nil | apply Put.cons | apply Put.succ)) rfl ?_)
    clear hf hS; intro a w hf hS
    refine done_l ?_
    refine t_normal ?_
    refine c_seq ?_
    refine any_begin mixed hS.drew ?_
    replace hS := hS.drew
    have hT := hS
    refine any_takeA (i := 0) hf rfl (Wn.none rfl) (rd_fieldAddrB hf rfl rfl fb52_1 rfl) hT rfl rfl ?_
    clear hf; intro a hf
    refine any_takeA (i := 1) hf rfl (Wn.none rfl) (rd_loadN hf rfl rfl ag37 sz37 (by intro _ h; exact loadN_of h (by repeat (first | exact Sel.head | apply Sel.tail)) (by repeat (first | exact Seg.nil | apply Seg.cons | apply Seg.succ)) )) hT rfl rfl ?_
    clear hf; intro a hf
    refine any_takeA (i := 2) hf rfl (Wn.none rfl) (rd_loadN hf rfl rfl ag42 sz42 (by intro _ h; exact loadN_of h (by repeat (first | exact Sel.head | apply Sel.tail)) (by repeat (first | exact Seg.nil | apply Seg.cons | apply Seg.succ)) )) hT rfl rfl ?_
    clear hf; intro a hf
    refine any_one (i := 3) rfl (by kernel_rfl) (st_call hf (Wn.none rfl) rfl rfl rfl fn76 (VCov_c _ _ _ _ _ _ _ _ _ _ hS) rfl rfl ?_)
    clear hf hS; rintro v a w ⟨rfl, hS⟩ hf
    replace hT := hS.sub' hT (by repeat (first | exact Sub.refl | exact Sub.none | exact Sub.behind | (apply Sub.cons; (focus ((repeat (first | exact Sel.head | apply Sel.tail)); done))) | apply Sub.skip))
    refine ⟨hT, ?_⟩
    first | refine split_dec (d := 32) hf rfl ?_ ?_ | refine split_bool (d := 32) hf rfl ?_ ?_
    ·
     clear hf; intro hc7 hf
     have hCV : covers [s0, s1, s2, s3, s4, s5, s6, s7] (dn, dc) = true := by first | exact hc7 | exact decide_eq_true hc7
     refine any_takeA (i := 4) hf rfl (Wn.none rfl) (rd_not hf rfl rfl) hT rfl rfl ?_
     clear hf; intro a hf
     refine any_takeA (i := 5) hf rfl (Wn.none rfl) (rd_move hf rfl rfl) hT rfl rfl ?_
     clear hf; intro a hf
     refine any_takeA (i := 6) hf rfl (Wn.some hf rfl rfl rfl rfl) (rd_move hf rfl rfl) hT rfl rfl ?_
     clear hf; intro a hf
     refine any_takeB (i := 7) hf rfl (by kernel_rfl) (by kernel_rfl) (by kernel_rfl) (fun _ _ _ _ h => h) (Wn.some hf rfl rfl rfl rfl) (rd_gtr hf rfl rfl rfl) hT rfl rfl ?_ ?_
     ·
      clear hf; intro hc8 a hf
      obtain ⟨j, rfl⟩ : ∃ j, k = j + 1 := ⟨k - 1, by omega⟩; obtain ⟨y, hgy⟩ := get_of_lt (l := vs) (k := j) (by omega) rfl; obtain ⟨en, ec, _⟩ := y
      refine any_takeA (i := 8) hf rfl (Wn.some hf rfl rfl rfl rfl) (rd_move hf rfl rfl) hT rfl rfl ?_
      clear hf; intro a hf
      refine any_takeA (i := 9) hf rfl (Wn.some hf rfl rfl rfl rfl) (rd_fieldAddrB hf rfl rfl fb52_2 rfl) hT rfl rfl ?_
      clear hf; intro a hf
      refine any_takeA (i := 10) hf rfl (Wn.some hf rfl rfl rfl rfl) (rd_load1 hf rfl rfl ag50 (by intro _ h; first | exact h.cell (by repeat (first | exact Sel.head | apply Sel.tail)) (by rfl))) hT rfl rfl ?_
      clear hf; intro a hf
      refine any_takeA (i := 11) hf rfl (Wn.some hf rfl rfl rfl rfl) (rd_move hf rfl rfl) hT rfl rfl ?_
      clear hf; intro a hf
      refine any_takeA (i := 12) hf rfl (Wn.some hf rfl rfl rfl rfl) (rd_sub hf rfl rfl rfl (wrap_pred j (by omega))) hT rfl rfl ?_
      clear hf; intro a hf
      refine any_takeA (i := 13) hf rfl (Wn.some hf rfl rfl rfl rfl) ((by first | exact rd_indexAddrN hf rfl rfl rfl Try.underlying50 sz42 (by omega) | exact rd_indexAddr hf rfl rfl rfl Try.underlying50 sz42 (by first | decide | omega) (by omega))) hT rfl rfl ?_
      clear hf; intro a hf
      refine any_takeA (i := 14) hf rfl (Wn.some hf rfl rfl rfl rfl) (rd_loadN hf rfl rfl ag42 sz42 (by intro _ h; exact (show AggAt _ _ _ [.int .i64 en, .int .i64 ec] from (hv _ (h.subA)).el hgy))) hT rfl rfl ?_
      clear hf; intro a hf
      refine any_takeA (i := 15) hf rfl (Wn.some hf rfl rfl rfl rfl) (rd_loadN hf rfl rfl ag42 sz42 (by intro _ h; exact loadN_of h (by repeat (first | exact Sel.head | apply Sel.tail)) (by repeat (first | exact Seg.nil | apply Seg.cons | apply Seg.succ)) )) hT rfl rfl ?_
      clear hf; intro a hf
      refine any_one (i := 16) rfl (by kernel_rfl) (st_call hf (Wn.some hf rfl rfl rfl rfl) rfl rfl rfl fn77 (VLess_c _ _ _ _ hS) rfl rfl ?_)
      clear hf hS; rintro v a w ⟨rfl, hS⟩ hf
      replace hT := hS.sub' hT (by repeat (first | exact Sub.refl | exact Sub.none | exact Sub.behind | (apply Sub.cons; (focus ((repeat (first | exact Sel.head | apply Sel.tail)); done))) | apply Sub.skip))
      refine ⟨hT, ?_⟩
      first | refine split_dec (d := 45) hf rfl ?_ ?_ | refine split_bool (d := 45) hf rfl ?_ ?_
      ·
       clear hf; intro hc9 hf
       have hLS : dless (en, ec) (dn, dc) = true := by first | exact hc9 | exact decide_eq_true hc9
       refine any_takeA (i := 17) hf rfl (Wn.some hf rfl rfl rfl rfl) (rd_not hf rfl rfl) hT rfl rfl ?_
       clear hf; intro a hf
       refine any_takeA (i := 18) hf rfl (Wn.some hf rfl rfl rfl rfl) (rd_pick_t hf rfl rfl rfl) hT rfl rfl ?_
       clear hf; intro a hf
       refine any_takeA (i := 19) hf rfl (Wn.none rfl) (rd_pick_f hf rfl rfl rfl) hT rfl rfl ?_
       clear hf; intro a hf
       refine any_done (by kernel_rfl) ?_
       refine t_normal ?_
       refine c_false hf rfl ?_
       refine c_skip ?_
       refine b_normal ?_
       refine t_normal ?_
       refine c_region ?_
       refine step_l (st_rd hf (Wn.none rfl) (rd_add hf rfl rfl rfl (by first | exact Go.IntWalk.i64_in _ (by omega) | exact rfl)) hS rfl rfl ?_)
       clear hf; intro a hf
       refine step_l (st_rd hf (Wn.none rfl) (rd_move hf rfl rfl) hS rfl rfl ?_)
       clear hf; intro a hf
       refine done_l ?_
       refine t_normal ⟨j + 1 + 1, ((hf.back (by repeat (first | exact Behind.refl | refine Behind.skip rfl ?_)) hk0).kb hf 24 rfl (by first | rfl | exact int_eq (by omega))), ⟨hS.subA, ⟨by omega, by first | exact rall_step hok (dotAt_ts hget hgy hCV hLS) | exact rall_step hok (dotAt_t0 hget hCV)⟩⟩, by first | omega | (simp only []; omega)⟩
      clear hf; intro hc9 hf
      have hLS : dless (en, ec) (dn, dc) = false := by first | exact hc9 | exact decide_eq_false hc9
      refine any_takeA (i := 17) hf rfl (Wn.some hf rfl rfl rfl rfl) (rd_not hf rfl rfl) hT rfl rfl ?_
      clear hf; intro a hf
      refine any_takeA (i := 18) hf rfl (Wn.some hf rfl rfl rfl rfl) (rd_pick_t hf rfl rfl rfl) hT rfl rfl ?_
      clear hf; intro a hf
      refine any_takeA (i := 19) hf rfl (Wn.none rfl) (rd_pick_f hf rfl rfl rfl) hT rfl rfl ?_
      clear hf; intro a hf
      refine any_done (by kernel_rfl) ?_
      refine t_normal ?_
      refine c_true hf rfl ?_
      refine c_seq ?_
      refine c_region ?_
      refine step_l (st_rd hf (Wn.none rfl) (rd_assign hf rfl rfl) hS rfl rfl ?_)
      clear hf; intro a hf
      refine done_l ?_
      refine t_normal ?_
      refine c_ret ?_
      refine b_ret ?_
      refine t_ret ?_
      refine t_ret ?_
      refine b_ret ?_
      refine t_ret ?_
      refine e_res1 hf.defers rfl (res_tmp hf rfl .nil) ?_
      refine ⟨congrArg Value.bool ?_, hS.subA⟩
      clear hf hS
      first | exact (mayDig_no0 hKY).symm | exact (mayDig_no1 hVC).symm | exact (mayDig_no2 (by rw [List.length_map]; omega)).symm | exact (mayDig_no3 (by omega) (dotAt_f1 hget hCV)).symm | exact (mayDig_no3 (by omega) (dotAt_f2 hget hgy hLS)).symm | exact (mayDig_yes hKY hVC (by omega) hok).symm
     clear hf; intro hc8 a hf
     obtain rfl : k = 0 := by omega
     refine any_takeA (i := 8) hf rfl (Wn.some hf rfl rfl rfl rfl) (rd_move hf rfl rfl) hT rfl rfl ?_
     clear hf; intro a hf
     refine any_skipA (i := 9) hf rfl (Wn.some hf rfl rfl rfl rfl) hT rfl rfl ?_
     clear hf; intro a hf
     refine any_skipA (i := 10) hf rfl (Wn.some hf rfl rfl rfl rfl) hT rfl rfl ?_
     clear hf; intro a hf
     refine any_skipA (i := 11) hf rfl (Wn.some hf rfl rfl rfl rfl) hT rfl rfl ?_
     clear hf; intro a hf
     refine any_skipA (i := 12) hf rfl (Wn.some hf rfl rfl rfl rfl) hT rfl rfl ?_
     clear hf; intro a hf
     refine any_skipA (i := 13) hf rfl (Wn.some hf rfl rfl rfl rfl) hT rfl rfl ?_
     clear hf; intro a hf
     refine any_skipA (i := 14) hf rfl (Wn.some hf rfl rfl rfl rfl) hT rfl rfl ?_
     clear hf; intro a hf
     refine any_skipA (i := 15) hf rfl (Wn.some hf rfl rfl rfl rfl) hT rfl rfl ?_
     clear hf; intro a hf
     refine any_skipA (i := 16) hf rfl (Wn.some hf rfl rfl rfl rfl) hT rfl rfl ?_
     clear hf; intro a hf
     refine any_skipA (i := 17) hf rfl (Wn.some hf rfl rfl rfl rfl) hT rfl rfl ?_
     clear hf; intro a hf
     refine any_takeA (i := 18) hf rfl (Wn.some hf rfl rfl rfl rfl) (rd_pick_f hf rfl rfl rfl) hT rfl rfl ?_
     clear hf; intro a hf
     refine any_takeA (i := 19) hf rfl (Wn.none rfl) (rd_pick_f hf rfl rfl rfl) hT rfl rfl ?_
     clear hf; intro a hf
     refine any_done (by kernel_rfl) ?_
     refine t_normal ?_
     refine c_false hf rfl ?_
     refine c_skip ?_
     refine b_normal ?_
     refine t_normal ?_
     refine c_region ?_
     refine step_l (st_rd hf (Wn.none rfl) (rd_add hf rfl rfl rfl (by first | exact Go.IntWalk.i64_in _ (by omega) | exact rfl)) hS rfl rfl ?_)
     clear hf; intro a hf
     refine step_l (st_rd hf (Wn.none rfl) (rd_move hf rfl rfl) hS rfl rfl ?_)
     clear hf; intro a hf
     refine done_l ?_
     refine t_normal ⟨0 + 1, ((hf.back (by repeat (first | exact Behind.refl | refine Behind.skip rfl ?_)) hk0).kb hf 24 rfl (by first | rfl | exact int_eq (by omega))), ⟨hS.subA, ⟨by omega, by first | exact rall_step hok (dotAt_ts hget hgy hCV hLS) | exact rall_step hok (dotAt_t0 hget hCV)⟩⟩, by first | omega | (simp only []; omega)⟩
    clear hf; intro hc7 hf
    have hCV : covers [s0, s1, s2, s3, s4, s5, s6, s7] (dn, dc) = false := by first | exact hc7 | exact decide_eq_false hc7
    refine any_takeA (i := 4) hf rfl (Wn.none rfl) (rd_not hf rfl rfl) hT rfl rfl ?_
    clear hf; intro a hf
    refine any_takeA (i := 5) hf rfl (Wn.none rfl) (rd_move hf rfl rfl) hT rfl rfl ?_
    clear hf; intro a hf
    refine any_skipA (i := 6) hf rfl (Wn.some hf rfl rfl rfl rfl) hT rfl rfl ?_
    clear hf; intro a hf
    refine any_skipA (i := 7) hf rfl (Wn.some hf rfl rfl rfl rfl) hT rfl rfl ?_
    clear hf; intro a hf
    refine any_skipA (i := 8) hf rfl (Wn.some hf rfl rfl rfl rfl) hT rfl rfl ?_
    clear hf; intro a hf
    refine any_skipA (i := 9) hf rfl (Wn.undef hf rfl rfl rfl) hT rfl rfl ?_
    clear hf; intro a hf
    refine any_skipA (i := 10) hf rfl (Wn.undef hf rfl rfl rfl) hT rfl rfl ?_
    clear hf; intro a hf
    refine any_skipA (i := 11) hf rfl (Wn.undef hf rfl rfl rfl) hT rfl rfl ?_
    clear hf; intro a hf
    refine any_skipA (i := 12) hf rfl (Wn.undef hf rfl rfl rfl) hT rfl rfl ?_
    clear hf; intro a hf
    refine any_skipA (i := 13) hf rfl (Wn.undef hf rfl rfl rfl) hT rfl rfl ?_
    clear hf; intro a hf
    refine any_skipA (i := 14) hf rfl (Wn.undef hf rfl rfl rfl) hT rfl rfl ?_
    clear hf; intro a hf
    refine any_skipA (i := 15) hf rfl (Wn.undef hf rfl rfl rfl) hT rfl rfl ?_
    clear hf; intro a hf
    refine any_skipA (i := 16) hf rfl (Wn.undef hf rfl rfl rfl) hT rfl rfl ?_
    clear hf; intro a hf
    refine any_skipA (i := 17) hf rfl (Wn.undef hf rfl rfl rfl) hT rfl rfl ?_
    clear hf; intro a hf
    refine any_skipA (i := 18) hf rfl (Wn.some hf rfl rfl rfl rfl) hT rfl rfl ?_
    clear hf; intro a hf
    refine any_takeA (i := 19) hf rfl (Wn.none rfl) (rd_pick_t hf rfl rfl rfl) hT rfl rfl ?_
    clear hf; intro a hf
    refine any_done (by kernel_rfl) ?_
    refine t_normal ?_
    refine c_true hf rfl ?_
    refine c_seq ?_
    refine c_region ?_
    refine step_l (st_rd hf (Wn.none rfl) (rd_assign hf rfl rfl) hS rfl rfl ?_)
    clear hf; intro a hf
    refine done_l ?_
    refine t_normal ?_
    refine c_ret ?_
    refine b_ret ?_
    refine t_ret ?_
    refine t_ret ?_
    refine b_ret ?_
    refine t_ret ?_
    refine e_res1 hf.defers rfl (res_tmp hf rfl .nil) ?_
    refine ⟨congrArg Value.bool ?_, hS.subA⟩
    clear hf hS
    first | exact (mayDig_no0 hKY).symm | exact (mayDig_no1 hVC).symm | exact (mayDig_no2 (by rw [List.length_map]; omega)).symm | exact (mayDig_no3 (by omega) (dotAt_f1 hget hCV)).symm | exact (mayDig_no3 (by omega) (dotAt_f2 hget hgy hLS)).symm | exact (mayDig_yes hKY hVC (by omega) hok).symm
   clear hf; intro hc5 a hf
   obtain rfl : k = vs.length := by omega
   refine done_l ?_
   refine t_normal ?_
   refine c_seq ?_
   refine c_false hf rfl ?_
   refine c_exit ?_
   refine t_exit ?_
   refine t_exit ?_
   refine b_exit ?_
   refine t_normal ?_
   refine c_seq ?_
   refine c_region ?_
   refine step_l (st_rd hf (Wn.none rfl) (rd_assign hf rfl rfl) hS rfl rfl ?_)
   clear hf; intro a hf
   refine done_l ?_
   refine t_normal ?_
   refine c_ret ?_
   refine e_res1 hf.defers rfl (res_tmp hf rfl .nil) ?_
   refine ⟨congrArg Value.bool ?_, hS.subA⟩
   clear hf hS
   first | exact (mayDig_no0 hKY).symm | exact (mayDig_no1 hVC).symm | exact (mayDig_no2 (by rw [List.length_map]; omega)).symm | exact (mayDig_no3 (by omega) (dotAt_f1 hget hCV)).symm | exact (mayDig_no3 (by omega) (dotAt_f2 hget hgy hLS)).symm | exact (mayDig_yes hKY hVC (by omega) hok).symm
  clear hf; intro hc3 hf
  have hVC := hc3
  refine step_l (st_rd hf (Wn.some hf rfl rfl rfl rfl) (rd_not hf rfl rfl) hS rfl rfl ?_)
  clear hf; intro a hf
  iterate 7 ((first | refine step_l (st_skip hf (Wn.some hf rfl rfl rfl rfl) rfl rfl ?_) | refine step_l (st_rd hf (Wn.none rfl) (rd_move hf rfl rfl) hS rfl rfl ?_) | refine step_l (st_rd hf (Wn.none rfl) (rd_pick_t hf rfl rfl rfl) hS rfl rfl ?_) | refine step_l (st_rd hf (Wn.none rfl) (rd_pick_f hf rfl rfl rfl) hS rfl rfl ?_)); clear hf; intro a hf)
  refine done_l ?_
  refine t_normal ?_
  refine c_true hf rfl ?_
  refine c_seq ?_
  refine c_region ?_
  refine step_l (st_rd hf (Wn.none rfl) (rd_assign hf rfl rfl) hS rfl rfl ?_)
  clear hf; intro a hf
  refine done_l ?_
  refine t_normal ?_
  refine c_ret ?_
  refine t_ret ?_
  refine e_res1 hf.defers rfl (res_tmp hf rfl .nil) ?_
  refine ⟨congrArg Value.bool ?_, hS.subA⟩
  clear hf hS
  first | exact (mayDig_no0 hKY).symm | exact (mayDig_no1 hVC).symm | exact (mayDig_no2 (by rw [List.length_map]; omega)).symm | exact (mayDig_no3 (by omega) (dotAt_f1 hget hCV)).symm | exact (mayDig_no3 (by omega) (dotAt_f2 hget hgy hLS)).symm | exact (mayDig_yes hKY hVC (by omega) hok).symm
 clear hf; intro hc2 hf
 have hKY : mayKey ky = false := by first | exact hc2 | exact decide_eq_false hc2
 refine step_l (st_rd hf (Wn.none rfl) (rd_not hf rfl rfl) hS rfl rfl ?_)
 clear hf; intro a hf
 iterate 12 ((first | refine step_l (st_skip hf (Wn.some hf rfl rfl rfl rfl) rfl rfl ?_) | refine step_l (st_rd hf (Wn.none rfl) (rd_move hf rfl rfl) hS rfl rfl ?_) | refine step_l (st_rd hf (Wn.none rfl) (rd_pick_t hf rfl rfl rfl) hS rfl rfl ?_)); clear hf; intro a hf)
 refine done_l ?_
 refine t_normal ?_
 refine c_true hf rfl ?_
 refine c_seq ?_
 refine c_region ?_
 refine step_l (st_rd hf (Wn.none rfl) (rd_assign hf rfl rfl) hS rfl rfl ?_)
 clear hf; intro a hf
 refine done_l ?_
 refine t_normal ?_
 refine c_ret ?_
 refine t_ret ?_
 refine e_res1 hf.defers rfl (res_tmp hf rfl .nil) ?_
 refine ⟨congrArg Value.bool ?_, hS.subA⟩
 clear hf hS
 first | exact (mayDig_no0 hKY).symm | exact (mayDig_no1 hVC).symm | exact (mayDig_no2 (by rw [List.length_map]; omega)).symm | exact (mayDig_no3 (by omega) (dotAt_f1 hget hCV)).symm | exact (mayDig_no3 (by omega) (dotAt_f2 hget hgy hLS)).symm | exact (mayDig_yes hKY hVC (by omega) hok).symm

theorem EMay_c (ky : List UInt8) (s0 s1 s2 s3 s4 s5 s6 s7 : Int) (vs : List ValT) (q : Option Addr) (c : Nat) {W : World} {R : List HP} {w : World} (hS : Sat W (R) w) (hv : ∀ w, Sat W R w → ValsAt w (q, c, vs)) : Calls Try.prog 42 [.agg #[.string (str ky), .int .i64 s0, .int .i64 s1, .int .i64 s2, .int .i64 s3, .int .i64 s4, .int .i64 s5, .int .i64 s6, .int .i64 s7, .slice q vs.length c]].toArray w (Ret fun v w' => v = .bool (mayEnt (ky, [s0, s1, s2, s3, s4, s5, s6, s7], vs.map pVal)) ∧ Sat W R w') := by
 refine fn_start 18 Try.func42 rfl rfl rfl ?_
 intro a hf
 refine c_seq ?_
 refine c_region ?_
 refine step_l (st_box hf (Wn.none rfl) hS rfl rfl (by rfl) rfl rfl ?_)
 clear hf hS; intro b_1 a w hf hS
 refine step_l (st_rd hf (Wn.none rfl) (rd_assign hf rfl rfl) hS rfl rfl ?_)
 clear hf; intro a hf
 refine done_l ?_
 refine t_normal ?_
 refine c_seq ?_
 refine c_region ?_
 refine step_l (st_rd hf (Wn.none rfl) (rd_fieldAddrB hf rfl rfl fb46_0 rfl) hS rfl rfl ?_)
 clear hf; intro a hf
 refine step_l (st_rd hf (Wn.none rfl) (rd_load1 hf rfl rfl ag9 (by intro _ h; first | exact h.cell (by repeat (first | exact Sel.head | apply Sel.tail)) (by rfl))) hS rfl rfl ?_)
 clear hf; intro a hf
 refine step_l (st_rd hf (Wn.none rfl) (rd_lenS hf rfl rfl Try.underlying9) hS rfl rfl ?_)
 clear hf; intro a hf
 refine step_l (st_rdB hf (Wn.none rfl) (rd_geq hf rfl rfl rfl) hS rfl rfl ?_ ?_)
 ·
  clear hf; intro hc2 a hf
  refine step_l (st_rd hf (Wn.none rfl) (rd_move hf rfl rfl) hS rfl rfl ?_)
  clear hf; intro a hf
  refine step_l (st_rd hf (Wn.some hf rfl rfl rfl rfl) (rd_fieldAddrB hf rfl rfl fb46_0 rfl) hS rfl rfl ?_)
  clear hf; intro a hf
  refine step_l (st_rd hf (Wn.some hf rfl rfl rfl rfl) (rd_load1 hf rfl rfl ag9 (by intro _ h; first | exact h.cell (by repeat (first | exact Sel.head | apply Sel.tail)) (by rfl))) hS rfl rfl ?_)
  clear hf; intro a hf
  refine step_l (st_rd hf (Wn.some hf rfl rfl rfl rfl) (rd_lenS hf rfl rfl Try.underlying9) hS rfl rfl ?_)
  clear hf; intro a hf
  refine step_l (st_rdB hf (Wn.some hf rfl rfl rfl rfl) (rd_leq hf rfl rfl rfl) hS rfl rfl ?_ ?_)
  ·
   clear hf; intro hc3 a hf
   refine step_l (st_rd hf (Wn.none rfl) (rd_pick_t hf rfl rfl rfl) hS rfl rfl ?_)
   clear hf; intro a hf
   refine step_l (st_rd hf (Wn.none rfl) (rd_move hf rfl rfl) hS rfl rfl ?_)
   clear hf; intro a hf
   refine step_l (st_rd hf (Wn.some hf rfl rfl rfl rfl) (rd_fieldAddrB hf rfl rfl fb46_1 rfl) hS rfl rfl ?_)
   clear hf; intro a hf
   refine step_l (st_rd hf (Wn.some hf rfl rfl rfl rfl) (rd_loadN hf rfl rfl ag40 sz40 (by intro _ h; exact loadN_of h (by repeat (first | exact Sel.head | apply Sel.tail)) (by repeat (first | exact Seg.nil | apply Seg.cons | apply Seg.succ)) )) hS rfl rfl ?_)
   clear hf; intro a hf
   refine step_l (st_call hf (Wn.some hf rfl rfl rfl rfl) rfl rfl rfl fn72 (SMay_c _ _ _ _ _ _ _ _ _ _ _ hS (fun _ h => hv _ (h.subA))) rfl rfl ?_)
   clear hf hS; rintro v a w ⟨rfl, hS⟩ hf
   refine step_l (st_rd hf (Wn.none rfl) (rd_pick_t hf rfl rfl rfl) hS rfl rfl ?_)
   clear hf; intro a hf
   refine step_l (st_rd hf (Wn.none rfl) (rd_assign hf rfl rfl) hS rfl rfl ?_)
   clear hf; intro a hf
   refine done_l ?_
   refine t_normal ?_
   refine c_ret ?_
   refine e_res1 hf.defers rfl (res_tmp hf rfl .nil) ?_
   refine ⟨congrArg Value.bool ?_, hS.subA⟩
   clear hf hS
   rw [mayEnt_eq]
   first | exact (by rw [mayKey_f (by omega)]; rfl) | exact (by rw [mayKey_t (by omega) (by omega)]; rfl) | (rw [hKY]; rfl)
  clear hf; intro hc3 a hf
  iterate 7 ((first | refine step_l (st_skip hf (Wn.some hf rfl rfl rfl rfl) rfl rfl ?_) | refine step_l (st_rd hf (Wn.none rfl) (rd_move hf rfl rfl) hS rfl rfl ?_) | refine step_l (st_rd hf (Wn.none rfl) (rd_assign hf rfl rfl) hS rfl rfl ?_) | refine step_l (st_rd hf (Wn.none rfl) (rd_pick_t hf rfl rfl rfl) hS rfl rfl ?_) | refine step_l (st_rd hf (Wn.none rfl) (rd_pick_f hf rfl rfl rfl) hS rfl rfl ?_)); clear hf; intro a hf)
  refine done_l ?_
  refine t_normal ?_
  refine c_ret ?_
  refine e_res1 hf.defers rfl (res_tmp hf rfl .nil) ?_
  refine ⟨congrArg Value.bool ?_, hS.subA⟩
  clear hf hS
  rw [mayEnt_eq]
  first | exact (by rw [mayKey_f (by omega)]; rfl) | exact (by rw [mayKey_t (by omega) (by omega)]; rfl) | (rw [hKY]; rfl)
 clear hf; intro hc2 a hf
 iterate 12 ((first | refine step_l (st_skip hf (Wn.some hf rfl rfl rfl rfl) rfl rfl ?_) | refine step_l (st_rd hf (Wn.none rfl) (rd_move hf rfl rfl) hS rfl rfl ?_) | refine step_l (st_rd hf (Wn.none rfl) (rd_assign hf rfl rfl) hS rfl rfl ?_) | refine step_l (st_rd hf (Wn.none rfl) (rd_pick_f hf rfl rfl rfl) hS rfl rfl ?_)); clear hf; intro a hf)
 refine done_l ?_
 refine t_normal ?_
 refine c_ret ?_
 refine e_res1 hf.defers rfl (res_tmp hf rfl .nil) ?_
 refine ⟨congrArg Value.bool ?_, hS.subA⟩
 clear hf hS
 rw [mayEnt_eq]
 first | exact (by rw [mayKey_f (by omega)]; rfl) | exact (by rw [mayKey_t (by omega) (by omega)]; rfl) | (rw [hKY]; rfl)

end Go.Proofs.Ytglmimbfelakbaa
