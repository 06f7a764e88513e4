/-
  Walked: Sam.
  Conditions: none.
-/
import Derived.Test.YtglmimbfelakbaaMlaw1
namespace Go.Proofs.Ytglmimbfelakbaa
open Go Go.Sl
set_option linter.unusedVariables false
set_option linter.unusedSimpArgs false

theorem BEq_c (bs : List UInt8) (xq : Option Addr) (xc : Nat) (bs2 : List UInt8) (xq2 : Option Addr) (xc2 : Nat) {W : World} {R : List HP} {w : World} (hS : Sat W (R) w) (hv : ∀ w, Sat W R w → SlAt w xq bs.length 1 (bvs bs)) (hv2 : ∀ w, Sat W R w → SlAt w xq2 bs2.length 1 (bvs bs2)) : Calls Try.prog 100 [.slice xq bs.length xc, .slice xq2 bs2.length xc2].toArray w (Ret fun v w' => v = .bool (decide (bs = bs2)) ∧ Sat W R w') := by
 refine fn_start 10 Try.func100 rfl rfl rfl ?_
 intro a hf
 refine c_seq ?_
 refine c_region ?_
 refine step_l (st_rd hf (Wn.none rfl) (rd_assign hf rfl rfl) hS rfl rfl ?_)
 clear hf; intro a hf
 refine done_l ?_
 refine t_normal ?_
 refine c_seq ?_
 refine c_region ?_
 refine step_l (st_rd hf (Wn.none rfl) (rd_move hf rfl rfl) hS rfl rfl ?_)
 clear hf; intro a hf
 refine step_l (st_rd hf (Wn.none rfl) (rd_str hf rfl rfl Try.underlying29 Try.underlying9 Try.underlying5 (by intro _ h; first | exact h.slOfRw (by repeat (first | exact Sel.head | apply Sel.tail)) | exact h.slOfBlkPre (by repeat (first | exact Sel.head | apply Sel.tail)) (bvs_len1 _) | exact hv _ (h.subA) | exact hv2 _ (h.subA))) hS rfl rfl ?_)
 clear hf; intro a hf
 refine step_l (st_rd hf (Wn.none rfl) (rd_move hf rfl rfl) hS rfl rfl ?_)
 clear hf; intro a hf
 refine step_l (st_rd hf (Wn.none rfl) (rd_str hf rfl rfl Try.underlying29 Try.underlying9 Try.underlying5 (by intro _ h; first | exact h.slOfRw (by repeat (first | exact Sel.head | apply Sel.tail)) | exact h.slOfBlkPre (by repeat (first | exact Sel.head | apply Sel.tail)) (bvs_len1 _) | exact hv _ (h.subA) | exact hv2 _ (h.subA))) hS rfl rfl ?_)
 clear hf; intro a hf
 refine step_l (st_rd hf (Wn.none rfl) (rd_eqlS hf rfl rfl rfl) hS rfl rfl ?_)
 clear hf; intro a hf
 refine step_l (st_rd hf (Wn.none rfl) (rd_assign hf rfl rfl) hS rfl rfl ?_)
 clear hf; intro a hf
 refine done_l ?_
 refine t_normal ?_
 refine c_ret ?_
 refine e_res1 hf.defers rfl (res_tmp hf rfl .nil) ?_
 refine ⟨?_, hS.subA⟩
 clear hf hS
 rfl

theorem SV_c (dn dc : Int) (bs : List UInt8) (xq : Option Addr) (xc : Nat) (dead : Bool) (dn2 dc2 : Int) (bs2 : List UInt8) (xq2 : Option Addr) (xc2 : Nat) (dead2 : Bool) {W : World} {R : List HP} {w : World} (hS : Sat W (R) w) (hv : ∀ w, Sat W R w → SlAt w xq bs.length 1 (bvs bs)) (hv2 : ∀ w, Sat W R w → SlAt w xq2 bs2.length 1 (bvs bs2)) : Calls Try.prog 99 [.agg #[.int .i64 dn, .int .i64 dc, .slice xq bs.length xc, .bool dead], .agg #[.int .i64 dn2, .int .i64 dc2, .slice xq2 bs2.length xc2, .bool dead2]].toArray w (Ret fun v w' => v = .bool (decide ((((dn, dc), bs, dead) : PVal) = (((dn2, dc2), bs2, dead2) : PVal))) ∧ Sat W R w') := by
 refine fn_start 24 Try.func99 rfl rfl rfl ?_
 intro a hf
 refine c_seq ?_
 refine c_region ?_
 refine step_l (st_box hf (Wn.none rfl) hS rfl rfl (by rfl) rfl rfl ?_)
 clear hf hS; intro b_1 a w hf hS
 refine step_l (st_box hf (Wn.none rfl) hS rfl rfl (by rfl) rfl rfl ?_)
 clear hf hS; intro b_2 a w hf hS
 refine step_l (st_rd hf (Wn.none rfl) (rd_assign hf rfl rfl) hS rfl rfl ?_)
 clear hf; intro a hf
 refine done_l ?_
 refine t_normal ?_
 refine c_seq ?_
 refine c_region ?_
 refine step_l (st_rd hf (Wn.none rfl) (rd_fieldAddrB hf rfl rfl fb44_0 rfl) hS rfl rfl ?_)
 clear hf; intro a hf
 refine step_l (st_rd hf (Wn.none rfl) (rd_loadN hf rfl rfl ag42 sz42 (by intro _ h; exact loadN_of h (by repeat (first | exact Sel.head | apply Sel.tail)) (by repeat (first | exact Seg.nil | apply Seg.cons | apply Seg.succ)) )) hS rfl rfl ?_)
 clear hf; intro a hf
 refine step_l (st_rd hf (Wn.none rfl) (rd_fieldAddrB hf rfl rfl fb44_0 rfl) hS rfl rfl ?_)
 clear hf; intro a hf
 refine step_l (st_rd hf (Wn.none rfl) (rd_loadN hf rfl rfl ag42 sz42 (by intro _ h; exact loadN_of h (by repeat (first | exact Sel.head | apply Sel.tail)) (by repeat (first | exact Seg.nil | apply Seg.cons | apply Seg.succ)) )) hS rfl rfl ?_)
 clear hf; intro a hf
 refine step_l (st_rdB hf (Wn.none rfl) ((rd_eqlP hf rfl rfl rfl eq_dot eqg42)) hS rfl rfl ?_ ?_)
 ·
  clear hf; intro hc3 a hf
  have hDE := hc3
  refine step_l (st_rd hf (Wn.none rfl) (rd_move hf rfl rfl) hS rfl rfl ?_)
  clear hf; intro a hf
  refine step_l (st_rd hf (Wn.some hf rfl rfl rfl rfl) (rd_fieldAddrB hf rfl rfl fb44_2 rfl) hS rfl rfl ?_)
  clear hf; intro a hf
  refine step_l (st_rd hf (Wn.some hf rfl rfl rfl rfl) (rd_load1 hf rfl rfl ag4 (by intro _ h; first | exact h.cell (by repeat (first | exact Sel.head | apply Sel.tail)) (by rfl))) hS rfl rfl ?_)
  clear hf; intro a hf
  refine step_l (st_rd hf (Wn.some hf rfl rfl rfl rfl) (rd_fieldAddrB hf rfl rfl fb44_2 rfl) hS rfl rfl ?_)
  clear hf; intro a hf
  refine step_l (st_rd hf (Wn.some hf rfl rfl rfl rfl) (rd_load1 hf rfl rfl ag4 (by intro _ h; first | exact h.cell (by repeat (first | exact Sel.head | apply Sel.tail)) (by rfl))) hS rfl rfl ?_)
  clear hf; intro a hf
  refine step_l (st_rdB hf (Wn.some hf rfl rfl rfl rfl) (rd_eqlBool hf rfl rfl rfl Try.underlying4) hS rfl rfl ?_ ?_)
  ·
   clear hf; intro hc4 a hf
   have hBE := hc4
   refine step_l (st_rd hf (Wn.none rfl) (rd_pick_t hf rfl rfl rfl) hS rfl rfl ?_)
   clear hf; intro a hf
   refine step_l (st_rd hf (Wn.none rfl) (rd_move hf rfl rfl) hS rfl rfl ?_)
   clear hf; intro a hf
   refine step_l (st_rd hf (Wn.some hf rfl rfl rfl rfl) (rd_fieldAddrB hf rfl rfl fb44_1 rfl) hS rfl rfl ?_)
   clear hf; intro a hf
   refine step_l (st_rd hf (Wn.some hf rfl rfl rfl rfl) (rd_load1 hf rfl rfl ag29 (by intro _ h; first | exact h.cell (by repeat (first | exact Sel.head | apply Sel.tail)) (by rfl))) hS rfl rfl ?_)
   clear hf; intro a hf
   refine step_l (st_rd hf (Wn.some hf rfl rfl rfl rfl) (rd_fieldAddrB hf rfl rfl fb44_1 rfl) hS rfl rfl ?_)
   clear hf; intro a hf
   refine step_l (st_rd hf (Wn.some hf rfl rfl rfl rfl) (rd_load1 hf rfl rfl ag29 (by intro _ h; first | exact h.cell (by repeat (first | exact Sel.head | apply Sel.tail)) (by rfl))) hS rfl rfl ?_)
   clear hf; intro a hf
   refine step_l (st_call hf (Wn.some hf rfl rfl rfl rfl) rfl rfl rfl fn100 (BEq_c _ _ _ _ _ _ hS (fun _ h => hv _ (h.subA)) (fun _ h => hv2 _ (h.subA))) rfl rfl ?_)
   clear hf hS; rintro v a w ⟨rfl, hS⟩ hf
   refine step_l (st_rd hf (Wn.none rfl) (rd_pick_t hf rfl rfl rfl) hS rfl rfl ?_)
   clear hf; intro a hf
   refine step_l (st_rd hf (Wn.none rfl) (rd_assign hf rfl rfl) hS rfl rfl ?_)
   clear hf; intro a hf
   refine done_l ?_
   refine t_normal ?_
   refine c_ret ?_
   refine e_res1 hf.defers rfl (res_tmp hf rfl .nil) ?_
   refine ⟨congrArg Value.bool ?_, hS.subA⟩
   clear hf hS
   first | exact pair_no1 hDE | exact tri_no3 hBE | exact tri_mid hDE hBE
  clear hf; intro hc4 a hf
  have hBE := hc4
  iterate 9 ((first | refine step_l (st_skip hf (Wn.some hf rfl rfl rfl rfl) rfl rfl ?_) | refine step_l (st_rd hf (Wn.none rfl) (rd_move hf rfl rfl) hS rfl rfl ?_) | refine step_l (st_rd hf (Wn.none rfl) (rd_assign hf rfl rfl) hS rfl rfl ?_) | refine step_l (st_rd hf (Wn.none rfl) (rd_pick_t hf rfl rfl rfl) hS rfl rfl ?_) | refine step_l (st_rd hf (Wn.none rfl) (rd_pick_f hf rfl rfl rfl) hS rfl rfl ?_)); clear hf; intro a hf)
  refine done_l ?_
  refine t_normal ?_
  refine c_ret ?_
  refine e_res1 hf.defers rfl (res_tmp hf rfl .nil) ?_
  refine ⟨congrArg Value.bool ?_, hS.subA⟩
  clear hf hS
  first | exact pair_no1 hDE | exact tri_no3 hBE | exact tri_mid hDE hBE
 clear hf; intro hc3 a hf
 have hDE := hc3
 iterate 15 ((first | refine step_l (st_skip hf (Wn.some hf rfl rfl rfl rfl) rfl rfl ?_) | refine step_l (st_rd hf (Wn.none rfl) (rd_move hf rfl rfl) hS rfl rfl ?_) | refine step_l (st_rd hf (Wn.none rfl) (rd_assign hf rfl rfl) hS rfl rfl ?_) | refine step_l (st_rd hf (Wn.none rfl) (rd_pick_f hf rfl rfl rfl) hS rfl rfl ?_)); clear hf; intro a hf)
 refine done_l ?_
 refine t_normal ?_
 refine c_ret ?_
 refine e_res1 hf.defers rfl (res_tmp hf rfl .nil) ?_
 refine ⟨congrArg Value.bool ?_, hS.subA⟩
 clear hf hS
 first | exact pair_no1 hDE | exact tri_no3 hBE | exact tri_mid hDE hBE

theorem EfValue_c (vs : List ValT) (q : Option Addr) (c : Nat) (vs2 : List ValT) (q2 : Option Addr) (c2 : Nat) {W : World} {R : List HP} {w : World} (hS : Sat W (R) w) (hv : ∀ w, Sat W R w → ValsAt w (q, c, vs)) (hv2 : ∀ w, Sat W R w → ValsAt w (q2, c2, vs2)) : Calls Try.prog 98 [.slice q vs.length c, .slice q2 vs2.length c2, .func (.func 99) #[] #[]].toArray w (Ret fun v w' => v = .bool (decide (vs.map pVal = vs2.map pVal)) ∧ Sat W R w') := by
 refine fn_start 32 Try.func98 rfl rfl rfl ?_
 intro a hf
 have hl := (hv _ hS).len; have hl2 := (hv2 _ hS).len
 refine c_seq ?_
 refine c_region ?_
 refine step_l (st_rd hf (Wn.none rfl) (rd_assign hf rfl rfl) hS rfl rfl ?_)
 clear hf; intro a hf
 refine done_l ?_
 refine t_normal ?_
 refine c_seq ?_
 refine c_seq ?_
 refine c_region ?_
 refine step_l (st_rd hf (Wn.none rfl) (rd_move hf rfl rfl) hS rfl rfl ?_)
 clear hf; intro a hf
 refine step_l (st_rd hf (Wn.none rfl) (rd_len hf rfl rfl Try.underlying38) hS rfl rfl ?_)
 clear hf; intro a hf
 refine step_l (st_rd hf (Wn.none rfl) (rd_move hf rfl rfl) hS rfl rfl ?_)
 clear hf; intro a hf
 refine step_l (st_rd hf (Wn.none rfl) (rd_len hf rfl rfl Try.underlying38) hS rfl rfl ?_)
 clear hf; intro a hf
 refine step_l (st_rdB hf (Wn.none rfl) (rd_neq hf rfl rfl rfl) hS rfl rfl ?_ ?_)
 ·
  clear hf; intro hc1 a hf
  refine done_l ?_
  refine t_normal ?_
  refine c_true hf rfl ?_
  refine c_seq ?_
  refine c_region ?_
  refine step_l (st_rd hf (Wn.none rfl) (rd_assign hf rfl rfl) hS rfl rfl ?_)
  clear hf; intro a hf
  refine done_l ?_
  refine t_normal ?_
  refine c_ret ?_
  refine t_ret ?_
  refine e_res1 hf.defers rfl (res_tmp hf rfl .nil) ?_
  refine ⟨congrArg Value.bool ?_, hS.subA⟩
  clear hf hS
  first | exact (decide_eq_false (eq_len (by omega))).symm | exact (decide_eq_false (eq_no hget hget2 hEQ)).symm | exact (decide_eq_true (eq_done hlen hok)).symm
 clear hf; intro hc1 a hf
 have hlen : vs.length = vs2.length := by omega
 refine done_l ?_
 refine t_normal ?_
 refine c_false hf rfl ?_
 refine c_skip ?_
 refine t_normal ?_
 refine c_seq ?_
 refine c_seq ?_
 refine c_region ?_
 refine step_l (st_rd hf (Wn.none rfl) (rd_move hf rfl rfl) hS rfl rfl ?_)
 clear hf; intro a hf
 refine step_l (st_rd hf (Wn.none rfl) (rd_len hf rfl rfl Try.underlying38) hS rfl rfl ?_)
 clear hf; intro a hf
 refine step_l (st_rd hf (Wn.none rfl) (rd_move hf rfl rfl) hS rfl rfl ?_)
 clear hf; intro a hf
 refine done_l ?_
 refine t_normal ?_
 refine c_block ?_
 have hk0 := Keep.of hf [(6, 9), (17, 31)] (by repeat (first | exact Keep.nil | apply Keep.drop rfl | apply Keep.take rfl))
 refine c_loopK hk0 (α := Nat) (fun k => [(17, .int .i64 (k : Nat))]) (fun k w => Sat W (R) w ∧ k ≤ vs.length ∧ (vs.take k).map pVal = (vs2.take k).map pVal) (fun k => vs.length - k) 0 ((hf.keep hk0).kb hf 17 rfl (by first | rfl | exact int_eq (by omega))) ⟨hS.subA, ⟨by omega, rfl⟩⟩ ?_
 clear hf hS; rintro k a w hf ⟨hS, ⟨hk, hok⟩⟩; (try dsimp only [List.cons_append, List.nil_append] at hf)
 refine c_seq ?_
 refine c_region ?_
 refine step_l (st_rdB hf (Wn.none rfl) (rd_lss hf rfl rfl rfl) hS rfl rfl ?_ ?_)
 ·
  clear hf; intro hc2 a hf
  obtain ⟨x, hget⟩ := get_of_lt (l := vs) (k := k) (by omega) rfl; obtain ⟨ad, rfl⟩ := (hv _ (hS.subA)).some (by omega); have hvx := fun w h => ((hv w h).in hget).1; obtain ⟨⟨dn, dc, _⟩, ⟨xq, xc, bs⟩, dead, _⟩ := x
  obtain ⟨x2, hget2⟩ := get_of_lt (l := vs2) (k := k) (by omega) rfl; obtain ⟨ad2, rfl⟩ := (hv2 _ (hS.subA)).some (by omega); have hvx2 := fun w h => ((hv2 w h).in hget2).1; obtain ⟨⟨dn2, dc2, _⟩, ⟨xq2, xc2, bs2⟩, dead2, _⟩ := x2
  refine done_l ?_
  refine t_normal ?_
  refine c_seq ?_
  refine c_true hf rfl ?_
  refine c_skip ?_
  refine t_normal ?_
  refine c_seq ?_
  refine c_block ?_
  refine c_seq ?_
  refine c_region ?_
  refine step_l (st_rd hf (Wn.none rfl) (rd_move hf rfl rfl) hS rfl rfl ?_)
  clear hf; intro a hf
  refine step_l (st_rd hf (Wn.none rfl) ((by first | exact rd_indexAddrN hf rfl rfl rfl Try.underlying38 sz44 (by omega) | exact rd_indexAddr hf rfl rfl rfl Try.underlying38 sz44 (by first | decide | omega) (by omega))) hS rfl rfl ?_)
  clear hf; intro a hf
  refine step_l (st_rd hf (Wn.none rfl) (rd_loadN hf rfl rfl ag44 sz44 (by intro _ h; exact (show AggAt _ _ _ [.int .i64 dn, .int .i64 dc, .slice xq bs.length xc, .bool dead] from (hv _ (h.subA)).el hget))) hS rfl rfl ?_)
  clear hf; intro a hf
  refine step_l (st_alloc hf (Wn.none rfl) hS rfl zr44 (by rfl) rfl rfl ?_)
  clear hf hS; intro b_x a w hf hS
  refine step_l (st_rd hf (Wn.none rfl) (rd_assign hf rfl rfl) hS rfl rfl ?_)
  clear hf; intro a hf
  refine step_l (st_store hf (Wn.none rfl) hS rfl rfl rfl (by rfl) sz44 (by rfl) (by rfl) (by repeat (first | exact Sel.head | apply Sel.tail)) (by repeat (first | exact Put.nil | apply Put.cons | apply Put.succ)) rfl ?_)
  clear hf hS; intro a w hf hS
  refine done_l ?_
  refine t_normal ?_
  refine c_seq ?_
  refine c_region ?_
  refine step_l (st_rd hf (Wn.none rfl) (rd_move hf rfl rfl) hS rfl rfl ?_)
  clear hf; intro a hf
  refine step_l (st_rd hf (Wn.none rfl) (rd_move hf rfl rfl) hS rfl rfl ?_)
  clear hf; intro a hf
  refine step_l (st_rd hf (Wn.none rfl) ((by first | exact rd_indexAddrN hf rfl rfl rfl Try.underlying38 sz44 (by omega) | exact rd_indexAddr hf rfl rfl rfl Try.underlying38 sz44 (by first | decide | omega) (by omega))) hS rfl rfl ?_)
  clear hf; intro a hf
  refine step_l (st_rd hf (Wn.none rfl) (rd_loadN hf rfl rfl ag44 sz44 (by intro _ h; exact (show AggAt _ _ _ [.int .i64 dn2, .int .i64 dc2, .slice xq2 bs2.length xc2, .bool dead2] from (hv2 _ (h.subA)).el hget2))) hS rfl rfl ?_)
  clear hf; intro a hf
  refine step_l (st_alloc hf (Wn.none rfl) hS rfl zr44 (by rfl) rfl rfl ?_)
  clear hf hS; intro b_y a w hf hS
  refine step_l (st_store hf (Wn.none rfl) hS rfl rfl rfl (by rfl) sz44 (by rfl) (by rfl) (by repeat (first | exact Sel.head | apply Sel.tail)) (by repeat (first | exact Put.nil | apply Put.cons | apply Put.succ)) rfl ?_)
  clear hf hS; intro a w hf hS
  refine done_l ?_
  refine t_normal ?_
  refine c_seq ?_
  refine c_region ?_
  refine step_l (st_rd hf (Wn.none rfl) (rd_move hf rfl rfl) hS rfl rfl ?_)
  clear hf; intro a hf
  refine step_l (st_rd hf (Wn.none rfl) (rd_loadN hf rfl rfl ag44 sz44 (by intro _ h; exact loadN_of h (by repeat (first | exact Sel.head | apply Sel.tail)) (by repeat (first | exact Seg.nil | apply Seg.cons | apply Seg.succ)) )) hS rfl rfl ?_)
  clear hf; intro a hf
  refine step_l (st_rd hf (Wn.none rfl) (rd_loadN hf rfl rfl ag44 sz44 (by intro _ h; exact loadN_of h (by repeat (first | exact Sel.head | apply Sel.tail)) (by repeat (first | exact Seg.nil | apply Seg.cons | apply Seg.succ)) )) hS rfl rfl ?_)
  clear hf; intro a hf
  refine step_l (st_call hf (Wn.none rfl) rfl rfl rfl fn99 (SV_c _ _ _ _ _ _ _ _ _ _ _ _  hS (fun _ h => hvx _ (h.subA)) (fun _ h => hvx2 _ (h.subA))) rfl rfl ?_)
  clear hf hS; rintro v a w ⟨rfl, hS⟩ hf
  first | refine split_dec (d := 29) hf rfl ?_ ?_ | refine split_bool (d := 29) hf rfl ?_ ?_
  ·
   clear hf; intro hc5 hf
   have hEQ := hc5
   refine step_l (st_rd hf (Wn.none rfl) (rd_not hf rfl rfl) hS rfl rfl ?_)
   clear hf; intro a hf
   refine done_l ?_
   refine t_normal ?_
   refine c_false hf rfl ?_
   refine c_skip ?_
   refine b_normal ?_
   refine t_normal ?_
   refine c_region ?_
   refine step_l (st_rd hf (Wn.none rfl) (rd_add hf rfl rfl rfl (by first | exact Go.IntWalk.i64_in _ (by omega) | exact rfl)) hS rfl rfl ?_)
   clear hf; intro a hf
   refine step_l (st_rd hf (Wn.none rfl) (rd_move hf rfl rfl) hS rfl rfl ?_)
   clear hf; intro a hf
   refine done_l ?_
   refine t_normal ⟨k + 1, ((hf.back (by repeat (first | exact Behind.refl | refine Behind.skip rfl ?_)) hk0).kb hf 17 rfl (by first | rfl | exact int_eq (by omega))), ⟨hS.subA, ⟨by omega, eq_step hget hget2 hok hEQ⟩⟩, by first | omega | (simp only []; omega)⟩
  clear hf; intro hc5 hf
  have hEQ := hc5
  refine step_l (st_rd hf (Wn.none rfl) (rd_not hf rfl rfl) hS rfl rfl ?_)
  clear hf; intro a hf
  refine done_l ?_
  refine t_normal ?_
  refine c_true hf rfl ?_
  refine c_seq ?_
  refine c_region ?_
  refine step_l (st_rd hf (Wn.none rfl) (rd_assign hf rfl rfl) hS rfl rfl ?_)
  clear hf; intro a hf
  refine done_l ?_
  refine t_normal ?_
  refine c_ret ?_
  refine b_ret ?_
  refine t_ret ?_
  refine t_ret ?_
  refine b_ret ?_
  refine t_ret ?_
  refine e_res1 hf.defers rfl (res_tmp hf rfl .nil) ?_
  refine ⟨congrArg Value.bool ?_, hS.subA⟩
  clear hf hS
  first | exact (decide_eq_false (eq_len (by omega))).symm | exact (decide_eq_false (eq_no hget hget2 hEQ)).symm | exact (decide_eq_true (eq_done hlen hok)).symm
 clear hf; intro hc2 a hf
 obtain rfl : k = vs.length := by omega
 refine done_l ?_
 refine t_normal ?_
 refine c_seq ?_
 refine c_false hf rfl ?_
 refine c_exit ?_
 refine t_exit ?_
 refine t_exit ?_
 refine b_exit ?_
 refine t_normal ?_
 refine c_seq ?_
 refine c_region ?_
 refine step_l (st_rd hf (Wn.none rfl) (rd_assign hf rfl rfl) hS rfl rfl ?_)
 clear hf; intro a hf
 refine done_l ?_
 refine t_normal ?_
 refine c_ret ?_
 refine e_res1 hf.defers rfl (res_tmp hf rfl .nil) ?_
 refine ⟨congrArg Value.bool ?_, hS.subA⟩
 clear hf hS
 first | exact (decide_eq_false (eq_len (by omega))).symm | exact (decide_eq_false (eq_no hget hget2 hEQ)).symm | exact (decide_eq_true (eq_done hlen hok)).symm

theorem SSame_c (s0 s1 s2 s3 s4 s5 s6 s7 : Int) (vs : List ValT) (q : Option Addr) (c : Nat) (t0 t1 t2 t3 t4 t5 t6 t7 : Int) (vs2 : List ValT) (q2 : Option Addr) (c2 : Nat) {W : World} {R : List HP} {w : World} (hS : Sat W (R) w) (hv : ∀ w, Sat W R w → ValsAt w (q, c, vs)) (hv2 : ∀ w, Sat W R w → ValsAt w (q2, c2, vs2)) : Calls Try.prog 69 [.agg #[.int .i64 s0, .int .i64 s1, .int .i64 s2, .int .i64 s3, .int .i64 s4, .int .i64 s5, .int .i64 s6, .int .i64 s7, .slice q vs.length c], .agg #[.int .i64 t0, .int .i64 t1, .int .i64 t2, .int .i64 t3, .int .i64 t4, .int .i64 t5, .int .i64 t6, .int .i64 t7, .slice q2 vs2.length c2]].toArray w (Ret fun v w' => v = .bool (decide ((([s0, s1, s2, s3, s4, s5, s6, s7], vs.map pVal) : PSib) = (([t0, t1, t2, t3, t4, t5, t6, t7], vs2.map pVal) : PSib))) ∧ Sat W R w') := by
 refine fn_start 17 Try.func69 rfl rfl rfl ?_
 intro a hf
 refine c_seq ?_
 refine c_region ?_
 refine step_l (st_box hf (Wn.none rfl) hS rfl rfl (by rfl) rfl rfl ?_)
 clear hf hS; intro b_1 a w hf hS
 refine step_l (st_box hf (Wn.none rfl) hS rfl rfl (by rfl) rfl rfl ?_)
 clear hf hS; intro b_2 a w hf hS
 refine step_l (st_rd hf (Wn.none rfl) (rd_assign hf rfl rfl) hS rfl rfl ?_)
 clear hf; intro a hf
 refine done_l ?_
 refine t_normal ?_
 refine c_seq ?_
 refine c_region ?_
 refine step_l (st_rd hf (Wn.none rfl) (rd_fieldAddrB hf rfl rfl fb40_0 rfl) hS rfl rfl ?_)
 clear hf; intro a hf
 refine step_l (st_rd hf (Wn.none rfl) (rd_loadN hf rfl rfl ag37 sz37 (by intro _ h; exact loadN_of h (by repeat (first | exact Sel.head | apply Sel.tail)) (by repeat (first | exact Seg.nil | apply Seg.cons | apply Seg.succ)) )) hS rfl rfl ?_)
 clear hf; intro a hf
 refine step_l (st_rd hf (Wn.none rfl) (rd_fieldAddrB hf rfl rfl fb40_0 rfl) hS rfl rfl ?_)
 clear hf; intro a hf
 refine step_l (st_rd hf (Wn.none rfl) (rd_loadN hf rfl rfl ag37 sz37 (by intro _ h; exact loadN_of h (by repeat (first | exact Sel.head | apply Sel.tail)) (by repeat (first | exact Seg.nil | apply Seg.cons | apply Seg.succ)) )) hS rfl rfl ?_)
 clear hf; intro a hf
 refine step_l (st_rdB hf (Wn.none rfl) ((rd_eqlA (l := [s0, s1, s2, s3, s4, s5, s6, s7]) (l' := [t0, t1, t2, t3, t4, t5, t6, t7]) hf rfl rfl rfl Try.underlying37 info2 cells2 ag2 Try.underlying2 eqg37 rfl rfl)) hS rfl rfl ?_ ?_)
 ·
  clear hf; intro hc3 a hf
  have hVE := hc3
  refine step_l (st_rd hf (Wn.none rfl) (rd_move hf rfl rfl) hS rfl rfl ?_)
  clear hf; intro a hf
  refine step_l (st_rd hf (Wn.some hf rfl rfl rfl rfl) (rd_fieldAddrB hf rfl rfl fb40_1 rfl) hS rfl rfl ?_)
  clear hf; intro a hf
  refine step_l (st_rd hf (Wn.some hf rfl rfl rfl rfl) (rd_load1 hf rfl rfl ag38 (by intro _ h; first | exact h.cell (by repeat (first | exact Sel.head | apply Sel.tail)) (by rfl))) hS rfl rfl ?_)
  clear hf; intro a hf
  refine step_l (st_rd hf (Wn.some hf rfl rfl rfl rfl) (rd_fieldAddrB hf rfl rfl fb40_1 rfl) hS rfl rfl ?_)
  clear hf; intro a hf
  refine step_l (st_rd hf (Wn.some hf rfl rfl rfl rfl) (rd_load1 hf rfl rfl ag38 (by intro _ h; first | exact h.cell (by repeat (first | exact Sel.head | apply Sel.tail)) (by rfl))) hS rfl rfl ?_)
  clear hf; intro a hf
  refine step_l (st_call hf (Wn.some hf rfl rfl rfl rfl) rfl rfl rfl fn98 (EfValue_c _ _ _ _ _ _  hS (fun _ h => hv _ (h.subA)) (fun _ h => hv2 _ (h.subA))) rfl rfl ?_)
  clear hf hS; rintro v a w ⟨rfl, hS⟩ hf
  refine step_l (st_rd hf (Wn.none rfl) (rd_pick_t hf rfl rfl rfl) hS rfl rfl ?_)
  clear hf; intro a hf
  refine step_l (st_rd hf (Wn.none rfl) (rd_assign hf rfl rfl) hS rfl rfl ?_)
  clear hf; intro a hf
  refine done_l ?_
  refine t_normal ?_
  refine c_ret ?_
  refine e_res1 hf.defers rfl (res_tmp hf rfl .nil) ?_
  refine ⟨congrArg Value.bool ?_, hS.subA⟩
  clear hf hS
  first | exact pair_no1 hVE | exact pair_last hVE
 clear hf; intro hc3 a hf
 have hVE := hc3
 iterate 8 ((first | refine step_l (st_skip hf (Wn.some hf rfl rfl rfl rfl) rfl rfl ?_) | refine step_l (st_rd hf (Wn.none rfl) (rd_move hf rfl rfl) hS rfl rfl ?_) | refine step_l (st_rd hf (Wn.none rfl) (rd_assign hf rfl rfl) hS rfl rfl ?_) | refine step_l (st_rd hf (Wn.none rfl) (rd_pick_f hf rfl rfl rfl) hS rfl rfl ?_)); clear hf; intro a hf)
 refine done_l ?_
 refine t_normal ?_
 refine c_ret ?_
 refine e_res1 hf.defers rfl (res_tmp hf rfl .nil) ?_
 refine ⟨congrArg Value.bool ?_, hS.subA⟩
 clear hf hS
 first | exact pair_no1 hVE | exact pair_last hVE

theorem SEnt_c (ky : List UInt8) (s0 s1 s2 s3 s4 s5 s6 s7 : Int) (xs : List ValT) (xq : Option Addr) (xc : Nat) (ky2 : List UInt8) (t0 t1 t2 t3 t4 t5 t6 t7 : Int) (xs2 : List ValT) (xq2 : Option Addr) (xc2 : Nat) {W : World} {R : List HP} {w : World} (hS : Sat W (R) w) (hv : ∀ w, Sat W R w → ValsAt w (xq, xc, xs)) (hv2 : ∀ w, Sat W R w → ValsAt w (xq2, xc2, xs2)) : Calls Try.prog 30 [.agg #[.string (str ky), .int .i64 s0, .int .i64 s1, .int .i64 s2, .int .i64 s3, .int .i64 s4, .int .i64 s5, .int .i64 s6, .int .i64 s7, .slice xq xs.length xc], .agg #[.string (str ky2), .int .i64 t0, .int .i64 t1, .int .i64 t2, .int .i64 t3, .int .i64 t4, .int .i64 t5, .int .i64 t6, .int .i64 t7, .slice xq2 xs2.length xc2]].toArray w (Ret fun v w' => v = .bool (decide (((ky, [s0, s1, s2, s3, s4, s5, s6, s7], xs.map pVal) : PEnt) = ((ky2, [t0, t1, t2, t3, t4, t5, t6, t7], xs2.map pVal) : PEnt))) ∧ Sat W R w') := by
 refine fn_start 17 Try.func30 rfl rfl rfl ?_
 intro a hf
 refine c_seq ?_
 refine c_region ?_
 refine step_l (st_box hf (Wn.none rfl) hS rfl rfl (by rfl) rfl rfl ?_)
 clear hf hS; intro b_1 a w hf hS
 refine step_l (st_box hf (Wn.none rfl) hS rfl rfl (by rfl) rfl rfl ?_)
 clear hf hS; intro b_2 a w hf hS
 refine step_l (st_rd hf (Wn.none rfl) (rd_assign hf rfl rfl) hS rfl rfl ?_)
 clear hf; intro a hf
 refine done_l ?_
 refine t_normal ?_
 refine c_seq ?_
 refine c_region ?_
 refine step_l (st_rd hf (Wn.none rfl) (rd_fieldAddrB hf rfl rfl fb46_0 rfl) hS rfl rfl ?_)
 clear hf; intro a hf
 refine step_l (st_rd hf (Wn.none rfl) (rd_load1 hf rfl rfl ag9 (by intro _ h; first | exact h.cell (by repeat (first | exact Sel.head | apply Sel.tail)) (by rfl))) hS rfl rfl ?_)
 clear hf; intro a hf
 refine step_l (st_rd hf (Wn.none rfl) (rd_fieldAddrB hf rfl rfl fb46_0 rfl) hS rfl rfl ?_)
 clear hf; intro a hf
 refine step_l (st_rd hf (Wn.none rfl) (rd_load1 hf rfl rfl ag9 (by intro _ h; first | exact h.cell (by repeat (first | exact Sel.head | apply Sel.tail)) (by rfl))) hS rfl rfl ?_)
 clear hf; intro a hf
 refine step_l (st_rdB hf (Wn.none rfl) (rd_eqlS hf rfl rfl rfl) hS rfl rfl ?_ ?_)
 ·
  clear hf; intro hc3 a hf
  have hKE := hc3
  refine step_l (st_rd hf (Wn.none rfl) (rd_move hf rfl rfl) hS rfl rfl ?_)
  clear hf; intro a hf
  refine step_l (st_rd hf (Wn.some hf rfl rfl rfl rfl) (rd_fieldAddrB hf rfl rfl fb46_1 rfl) hS rfl rfl ?_)
  clear hf; intro a hf
  refine step_l (st_rd hf (Wn.some hf rfl rfl rfl rfl) (rd_loadN hf rfl rfl ag40 sz40 (by intro _ h; exact loadN_of h (by repeat (first | exact Sel.head | apply Sel.tail)) (by repeat (first | exact Seg.nil | apply Seg.cons | apply Seg.succ)) )) hS rfl rfl ?_)
  clear hf; intro a hf
  refine step_l (st_rd hf (Wn.some hf rfl rfl rfl rfl) (rd_fieldAddrB hf rfl rfl fb46_1 rfl) hS rfl rfl ?_)
  clear hf; intro a hf
  refine step_l (st_rd hf (Wn.some hf rfl rfl rfl rfl) (rd_loadN hf rfl rfl ag40 sz40 (by intro _ h; exact loadN_of h (by repeat (first | exact Sel.head | apply Sel.tail)) (by repeat (first | exact Seg.nil | apply Seg.cons | apply Seg.succ)) )) hS rfl rfl ?_)
  clear hf; intro a hf
  refine step_l (st_call hf (Wn.some hf rfl rfl rfl rfl) rfl rfl rfl fn69 (SSame_c _ _ _ _ _ _ _ _ _ _ _ _ _ _ _ _ _ _ _ _ _ _  hS (fun _ h => hv _ (h.subA)) (fun _ h => hv2 _ (h.subA))) rfl rfl ?_)
  clear hf hS; rintro v a w ⟨rfl, hS⟩ hf
  refine step_l (st_rd hf (Wn.none rfl) (rd_pick_t hf rfl rfl rfl) hS rfl rfl ?_)
  clear hf; intro a hf
  refine step_l (st_rd hf (Wn.none rfl) (rd_assign hf rfl rfl) hS rfl rfl ?_)
  clear hf; intro a hf
  refine done_l ?_
  refine t_normal ?_
  refine c_ret ?_
  refine e_res1 hf.defers rfl (res_tmp hf rfl .nil) ?_
  refine ⟨congrArg Value.bool ?_, hS.subA⟩
  clear hf hS
  first | exact pair_no1 hKE | exact pair_last hKE
 clear hf; intro hc3 a hf
 have hKE := hc3
 iterate 8 ((first | refine step_l (st_skip hf (Wn.some hf rfl rfl rfl rfl) rfl rfl ?_) | refine step_l (st_rd hf (Wn.none rfl) (rd_move hf rfl rfl) hS rfl rfl ?_) | refine step_l (st_rd hf (Wn.none rfl) (rd_assign hf rfl rfl) hS rfl rfl ?_) | refine step_l (st_rd hf (Wn.none rfl) (rd_pick_f hf rfl rfl rfl) hS rfl rfl ?_)); clear hf; intro a hf)
 refine done_l ?_
 refine t_normal ?_
 refine c_ret ?_
 refine e_res1 hf.defers rfl (res_tmp hf rfl .nil) ?_
 refine ⟨congrArg Value.bool ?_, hS.subA⟩
 clear hf hS
 first | exact pair_no1 hKE | exact pair_last hKE

theorem EqDot_c (ds : List DotT) (q : Option Addr) (c : Nat) (ds2 : List DotT) (q2 : Option Addr) (c2 : Nat) {W : World} {R : List HP} {w : World} (hS : Sat W (R) w) (hv : ∀ w, Sat W R w → DotsAt w (q, c, ds)) (hv2 : ∀ w, Sat W R w → DotsAt w (q2, c2, ds2)) : Calls Try.prog 70 [.slice q ds.length c, .slice q2 ds2.length c2].toArray w (Ret fun v w' => v = .bool (decide (ds.map pDot = ds2.map pDot)) ∧ Sat W R w') := by
 refine fn_start 26 Try.func70 rfl rfl rfl ?_
 intro a hf
 have hl := (hv _ hS).len; have hl2 := (hv2 _ hS).len
 refine c_seq ?_
 refine c_region ?_
 refine step_l (st_rd hf (Wn.none rfl) (rd_assign hf rfl rfl) hS rfl rfl ?_)
 clear hf; intro a hf
 refine done_l ?_
 refine t_normal ?_
 refine c_seq ?_
 refine c_seq ?_
 refine c_region ?_
 refine step_l (st_rd hf (Wn.none rfl) (rd_move hf rfl rfl) hS rfl rfl ?_)
 clear hf; intro a hf
 refine step_l (st_rd hf (Wn.none rfl) (rd_len hf rfl rfl Try.underlying50) hS rfl rfl ?_)
 clear hf; intro a hf
 refine step_l (st_rd hf (Wn.none rfl) (rd_move hf rfl rfl) hS rfl rfl ?_)
 clear hf; intro a hf
 refine step_l (st_rd hf (Wn.none rfl) (rd_len hf rfl rfl Try.underlying50) hS rfl rfl ?_)
 clear hf; intro a hf
 refine step_l (st_rdB hf (Wn.none rfl) (rd_neq hf rfl rfl rfl) hS rfl rfl ?_ ?_)
 ·
  clear hf; intro hc1 a hf
  refine done_l ?_
  refine t_normal ?_
  refine c_true hf rfl ?_
  refine c_seq ?_
  refine c_region ?_
  refine step_l (st_rd hf (Wn.none rfl) (rd_assign hf rfl rfl) hS rfl rfl ?_)
  clear hf; intro a hf
  refine done_l ?_
  refine t_normal ?_
  refine c_ret ?_
  refine t_ret ?_
  refine e_res1 hf.defers rfl (res_tmp hf rfl .nil) ?_
  refine ⟨congrArg Value.bool ?_, hS.subA⟩
  clear hf hS
  first | exact (decide_eq_false (eq_len (by omega))).symm | exact (decide_eq_false (eq_no hget hget2 hEQ)).symm | exact (decide_eq_true (eq_done hlen hok)).symm
 clear hf; intro hc1 a hf
 have hlen : ds.length = ds2.length := by omega
 refine done_l ?_
 refine t_normal ?_
 refine c_false hf rfl ?_
 refine c_skip ?_
 refine t_normal ?_
 refine c_seq ?_
 refine c_seq ?_
 refine c_region ?_
 refine step_l (st_rd hf (Wn.none rfl) (rd_move hf rfl rfl) hS rfl rfl ?_)
 clear hf; intro a hf
 refine step_l (st_rd hf (Wn.none rfl) (rd_len hf rfl rfl Try.underlying50) hS rfl rfl ?_)
 clear hf; intro a hf
 refine step_l (st_rd hf (Wn.none rfl) (rd_move hf rfl rfl) hS rfl rfl ?_)
 clear hf; intro a hf
 refine done_l ?_
 refine t_normal ?_
 refine c_block ?_
 have hk0 := Keep.of hf [(4, 5), (13, 25)] (by repeat (first | exact Keep.nil | apply Keep.drop rfl | apply Keep.take rfl))
 refine c_loopK hk0 (α := Nat) (fun k => [(13, .int .i64 (k : Nat))]) (fun k w => Sat W (R) w ∧ k ≤ ds.length ∧ (ds.take k).map pDot = (ds2.take k).map pDot) (fun k => ds.length - k) 0 ((hf.keep hk0).kb hf 13 rfl (by first | rfl | exact int_eq (by omega))) ⟨hS.subA, ⟨by omega, rfl⟩⟩ ?_
 clear hf hS; rintro k a w hf ⟨hS, ⟨hk, hok⟩⟩; (try dsimp only [List.cons_append, List.nil_append] at hf)
 refine c_seq ?_
 refine c_region ?_
 refine step_l (st_rdB hf (Wn.none rfl) (rd_lss hf rfl rfl rfl) hS rfl rfl ?_ ?_)
 ·
  clear hf; intro hc2 a hf
  obtain ⟨x, hget⟩ := get_of_lt (l := ds) (k := k) (by omega) rfl; obtain ⟨ad, rfl⟩ := (hv _ (hS.subA)).some (by omega); obtain ⟨dn, dc, _⟩ := x
  obtain ⟨x2, hget2⟩ := get_of_lt (l := ds2) (k := k) (by omega) rfl; obtain ⟨ad2, rfl⟩ := (hv2 _ (hS.subA)).some (by omega); obtain ⟨dn2, dc2, _⟩ := x2
  refine done_l ?_
  refine t_normal ?_
  refine c_seq ?_
  refine c_true hf rfl ?_
  refine c_skip ?_
  refine t_normal ?_
  refine c_seq ?_
  refine c_block ?_
  refine c_seq ?_
  refine c_region ?_
  refine step_l (st_rd hf (Wn.none rfl) (rd_move hf rfl rfl) hS rfl rfl ?_)
  clear hf; intro a hf
  refine step_l (st_rd hf (Wn.none rfl) (rd_assign hf rfl rfl) hS rfl rfl ?_)
  clear hf; intro a hf
  refine done_l ?_
  refine t_normal ?_
  refine c_seq ?_
  refine any_begin mixed hS.drew ?_
  replace hS := hS.drew
  have hT := hS
  refine any_takeA (i := 0) hf rfl (Wn.none rfl) (rd_move hf rfl rfl) hT rfl rfl ?_
  clear hf; intro a hf
  refine any_takeA (i := 1) hf rfl (Wn.none rfl) (rd_move hf rfl rfl) hT rfl rfl ?_
  clear hf; intro a hf
  refine any_takeA (i := 2) hf rfl (Wn.none rfl) ((by first | exact rd_indexAddrN hf rfl rfl rfl Try.underlying50 sz42 (by omega) | exact rd_indexAddr hf rfl rfl rfl Try.underlying50 sz42 (by first | decide | omega) (by omega))) hT rfl rfl ?_
  clear hf; intro a hf
  refine any_takeA (i := 3) hf rfl (Wn.none rfl) (rd_loadN hf rfl rfl ag42 sz42 (by intro _ h; exact (show AggAt _ _ _ [.int .i64 dn, .int .i64 dc] from (hv _ (h.subA)).el hget))) hT rfl rfl ?_
  clear hf; intro a hf
  refine any_takeA (i := 4) hf rfl (Wn.none rfl) (rd_move hf rfl rfl) hT rfl rfl ?_
  clear hf; intro a hf
  refine any_takeA (i := 5) hf rfl (Wn.none rfl) (rd_move hf rfl rfl) hT rfl rfl ?_
  clear hf; intro a hf
  refine any_takeA (i := 6) hf rfl (Wn.none rfl) ((by first | exact rd_indexAddrN hf rfl rfl rfl Try.underlying50 sz42 (by omega) | exact rd_indexAddr hf rfl rfl rfl Try.underlying50 sz42 (by first | decide | omega) (by omega))) hT rfl rfl ?_
  clear hf; intro a hf
  refine any_takeA (i := 7) hf rfl (Wn.none rfl) (rd_loadN hf rfl rfl ag42 sz42 (by intro _ h; exact (show AggAt _ _ _ [.int .i64 dn2, .int .i64 dc2] from (hv2 _ (h.subA)).el hget2))) hT rfl rfl ?_
  clear hf; intro a hf
  refine any_takeB (i := 8) hf rfl (by kernel_rfl) (by kernel_rfl) (by kernel_rfl) (fun _ _ _ _ h => h) (Wn.none rfl) ((rd_neqP hf rfl rfl rfl eq_dot eqg42)) hT rfl rfl ?_ ?_
  ·
   clear hf; intro hc3 a hf
   have hEQ := hc3
   refine any_done (by kernel_rfl) ?_
   refine t_normal ?_
   refine c_true hf rfl ?_
   refine c_seq ?_
   refine c_region ?_
   refine step_l (st_rd hf (Wn.none rfl) (rd_assign hf rfl rfl) hS rfl rfl ?_)
   clear hf; intro a hf
   refine done_l ?_
   refine t_normal ?_
   refine c_ret ?_
   refine b_ret ?_
   refine t_ret ?_
   refine t_ret ?_
   refine b_ret ?_
   refine t_ret ?_
   refine e_res1 hf.defers rfl (res_tmp hf rfl .nil) ?_
   refine ⟨congrArg Value.bool ?_, hS.subA⟩
   clear hf hS
   first | exact (decide_eq_false (eq_len (by omega))).symm | exact (decide_eq_false (eq_no hget hget2 hEQ)).symm | exact (decide_eq_true (eq_done hlen hok)).symm
  clear hf; intro hc3 a hf
  have hEQ := hc3
  refine any_done (by kernel_rfl) ?_
  refine t_normal ?_
  refine c_false hf rfl ?_
  refine c_skip ?_
  refine b_normal ?_
  refine t_normal ?_
  refine c_region ?_
  refine step_l (st_rd hf (Wn.none rfl) (rd_add hf rfl rfl rfl (by first | exact Go.IntWalk.i64_in _ (by omega) | exact rfl)) hS rfl rfl ?_)
  clear hf; intro a hf
  refine step_l (st_rd hf (Wn.none rfl) (rd_move hf rfl rfl) hS rfl rfl ?_)
  clear hf; intro a hf
  refine done_l ?_
  refine t_normal ⟨k + 1, ((hf.back (by repeat (first | exact Behind.refl | refine Behind.skip rfl ?_)) hk0).kb hf 13 rfl (by first | rfl | exact int_eq (by omega))), ⟨hS.subA, ⟨by omega, eq_step hget hget2 hok (Classical.not_not.1 hEQ)⟩⟩, by first | omega | (simp only []; omega)⟩
 clear hf; intro hc2 a hf
 obtain rfl : k = ds.length := by omega
 refine done_l ?_
 refine t_normal ?_
 refine c_seq ?_
 refine c_false hf rfl ?_
 refine c_exit ?_
 refine t_exit ?_
 refine t_exit ?_
 refine b_exit ?_
 refine t_normal ?_
 refine c_seq ?_
 refine c_region ?_
 refine step_l (st_rd hf (Wn.none rfl) (rd_assign hf rfl rfl) hS rfl rfl ?_)
 clear hf; intro a hf
 refine done_l ?_
 refine t_normal ?_
 refine c_ret ?_
 refine e_res1 hf.defers rfl (res_tmp hf rfl .nil) ?_
 refine ⟨congrArg Value.bool ?_, hS.subA⟩
 clear hf hS
 first | exact (decide_eq_false (eq_len (by omega))).symm | exact (decide_eq_false (eq_no hget hget2 hEQ)).symm | exact (decide_eq_true (eq_done hlen hok)).symm

theorem EqMem_c (ds : List MemT) (q : Option Addr) (c : Nat) (ds2 : List MemT) (q2 : Option Addr) (c2 : Nat) {W : World} {R : List HP} {w : World} (hS : Sat W (R) w) (hv : ∀ w, Sat W R w → DotsAt w (q, c, ds)) (hv2 : ∀ w, Sat W R w → DotsAt w (q2, c2, ds2)) : Calls Try.prog 33 [.slice q ds.length c, .slice q2 ds2.length c2].toArray w (Ret fun v w' => v = .bool (decide (ds.map pDot = ds2.map pDot)) ∧ Sat W R w') := by
 refine fn_start 26 Try.func33 rfl rfl rfl ?_
 intro a hf
 have hl := (hv _ hS).len; have hl2 := (hv2 _ hS).len
 refine c_seq ?_
 refine c_region ?_
 refine step_l (st_rd hf (Wn.none rfl) (rd_assign hf rfl rfl) hS rfl rfl ?_)
 clear hf; intro a hf
 refine done_l ?_
 refine t_normal ?_
 refine c_seq ?_
 refine c_seq ?_
 refine c_region ?_
 refine step_l (st_rd hf (Wn.none rfl) (rd_move hf rfl rfl) hS rfl rfl ?_)
 clear hf; intro a hf
 refine step_l (st_rd hf (Wn.none rfl) (rd_len hf rfl rfl Try.underlying24) hS rfl rfl ?_)
 clear hf; intro a hf
 refine step_l (st_rd hf (Wn.none rfl) (rd_move hf rfl rfl) hS rfl rfl ?_)
 clear hf; intro a hf
 refine step_l (st_rd hf (Wn.none rfl) (rd_len hf rfl rfl Try.underlying24) hS rfl rfl ?_)
 clear hf; intro a hf
 refine step_l (st_rdB hf (Wn.none rfl) (rd_neq hf rfl rfl rfl) hS rfl rfl ?_ ?_)
 ·
  clear hf; intro hc1 a hf
  refine done_l ?_
  refine t_normal ?_
  refine c_true hf rfl ?_
  refine c_seq ?_
  refine c_region ?_
  refine step_l (st_rd hf (Wn.none rfl) (rd_assign hf rfl rfl) hS rfl rfl ?_)
  clear hf; intro a hf
  refine done_l ?_
  refine t_normal ?_
  refine c_ret ?_
  refine t_ret ?_
  refine e_res1 hf.defers rfl (res_tmp hf rfl .nil) ?_
  refine ⟨congrArg Value.bool ?_, hS.subA⟩
  clear hf hS
  first | exact (decide_eq_false (eq_len (by omega))).symm | exact (decide_eq_false (eq_no hget hget2 hEQ)).symm | exact (decide_eq_true (eq_done hlen hok)).symm
 clear hf; intro hc1 a hf
 have hlen : ds.length = ds2.length := by omega
 refine done_l ?_
 refine t_normal ?_
 refine c_false hf rfl ?_
 refine c_skip ?_
 refine t_normal ?_
 refine c_seq ?_
 refine c_seq ?_
 refine c_region ?_
 refine step_l (st_rd hf (Wn.none rfl) (rd_move hf rfl rfl) hS rfl rfl ?_)
 clear hf; intro a hf
 refine step_l (st_rd hf (Wn.none rfl) (rd_len hf rfl rfl Try.underlying24) hS rfl rfl ?_)
 clear hf; intro a hf
 refine step_l (st_rd hf (Wn.none rfl) (rd_move hf rfl rfl) hS rfl rfl ?_)
 clear hf; intro a hf
 refine done_l ?_
 refine t_normal ?_
 refine c_block ?_
 have hk0 := Keep.of hf [(4, 5), (13, 25)] (by repeat (first | exact Keep.nil | apply Keep.drop rfl | apply Keep.take rfl))
 refine c_loopK hk0 (α := Nat) (fun k => [(13, .int .i64 (k : Nat))]) (fun k w => Sat W (R) w ∧ k ≤ ds.length ∧ (ds.take k).map pDot = (ds2.take k).map pDot) (fun k => ds.length - k) 0 ((hf.keep hk0).kb hf 13 rfl (by first | rfl | exact int_eq (by omega))) ⟨hS.subA, ⟨by omega, rfl⟩⟩ ?_
 clear hf hS; rintro k a w hf ⟨hS, ⟨hk, hok⟩⟩; (try dsimp only [List.cons_append, List.nil_append] at hf)
 refine c_seq ?_
 refine c_region ?_
 refine step_l (st_rdB hf (Wn.none rfl) (rd_lss hf rfl rfl rfl) hS rfl rfl ?_ ?_)
 ·
  clear hf; intro hc2 a hf
  obtain ⟨x, hget⟩ := get_of_lt (l := ds) (k := k) (by omega) rfl; obtain ⟨ad, rfl⟩ := (hv _ (hS.subA)).some (by omega); obtain ⟨dn, dc, _⟩ := x
  obtain ⟨x2, hget2⟩ := get_of_lt (l := ds2) (k := k) (by omega) rfl; obtain ⟨ad2, rfl⟩ := (hv2 _ (hS.subA)).some (by omega); obtain ⟨dn2, dc2, _⟩ := x2
  refine done_l ?_
  refine t_normal ?_
  refine c_seq ?_
  refine c_true hf rfl ?_
  refine c_skip ?_
  refine t_normal ?_
  refine c_seq ?_
  refine c_block ?_
  refine c_seq ?_
  refine c_region ?_
  refine step_l (st_rd hf (Wn.none rfl) (rd_move hf rfl rfl) hS rfl rfl ?_)
  clear hf; intro a hf
  refine step_l (st_rd hf (Wn.none rfl) (rd_assign hf rfl rfl) hS rfl rfl ?_)
  clear hf; intro a hf
  refine done_l ?_
  refine t_normal ?_
  refine c_seq ?_
  refine any_begin mixed hS.drew ?_
  replace hS := hS.drew
  have hT := hS
  refine any_takeA (i := 0) hf rfl (Wn.none rfl) (rd_move hf rfl rfl) hT rfl rfl ?_
  clear hf; intro a hf
  refine any_takeA (i := 1) hf rfl (Wn.none rfl) (rd_move hf rfl rfl) hT rfl rfl ?_
  clear hf; intro a hf
  refine any_takeA (i := 2) hf rfl (Wn.none rfl) ((by first | exact rd_indexAddrN hf rfl rfl rfl Try.underlying24 sz67 (by omega) | exact rd_indexAddr hf rfl rfl rfl Try.underlying24 sz67 (by first | decide | omega) (by omega))) hT rfl rfl ?_
  clear hf; intro a hf
  refine any_takeA (i := 3) hf rfl (Wn.none rfl) (rd_loadN hf rfl rfl ag67 sz67 (by intro _ h; exact (show AggAt _ _ _ [.int .i64 dn, .int .i64 dc] from (hv _ (h.subA)).el hget))) hT rfl rfl ?_
  clear hf; intro a hf
  refine any_takeA (i := 4) hf rfl (Wn.none rfl) (rd_move hf rfl rfl) hT rfl rfl ?_
  clear hf; intro a hf
  refine any_takeA (i := 5) hf rfl (Wn.none rfl) (rd_move hf rfl rfl) hT rfl rfl ?_
  clear hf; intro a hf
  refine any_takeA (i := 6) hf rfl (Wn.none rfl) ((by first | exact rd_indexAddrN hf rfl rfl rfl Try.underlying24 sz67 (by omega) | exact rd_indexAddr hf rfl rfl rfl Try.underlying24 sz67 (by first | decide | omega) (by omega))) hT rfl rfl ?_
  clear hf; intro a hf
  refine any_takeA (i := 7) hf rfl (Wn.none rfl) (rd_loadN hf rfl rfl ag67 sz67 (by intro _ h; exact (show AggAt _ _ _ [.int .i64 dn2, .int .i64 dc2] from (hv2 _ (h.subA)).el hget2))) hT rfl rfl ?_
  clear hf; intro a hf
  refine any_takeB (i := 8) hf rfl (by kernel_rfl) (by kernel_rfl) (by kernel_rfl) (fun _ _ _ _ h => h) (Wn.none rfl) ((rd_neqP hf rfl rfl rfl eq_mem eqg67)) hT rfl rfl ?_ ?_
  ·
   clear hf; intro hc3 a hf
   have hEQ := hc3
   refine any_done (by kernel_rfl) ?_
   refine t_normal ?_
   refine c_true hf rfl ?_
   refine c_seq ?_
   refine c_region ?_
   refine step_l (st_rd hf (Wn.none rfl) (rd_assign hf rfl rfl) hS rfl rfl ?_)
   clear hf; intro a hf
   refine done_l ?_
   refine t_normal ?_
   refine c_ret ?_
   refine b_ret ?_
   refine t_ret ?_
   refine t_ret ?_
   refine b_ret ?_
   refine t_ret ?_
   refine e_res1 hf.defers rfl (res_tmp hf rfl .nil) ?_
   refine ⟨congrArg Value.bool ?_, hS.subA⟩
   clear hf hS
   first | exact (decide_eq_false (eq_len (by omega))).symm | exact (decide_eq_false (eq_no hget hget2 hEQ)).symm | exact (decide_eq_true (eq_done hlen hok)).symm
  clear hf; intro hc3 a hf
  have hEQ := hc3
  refine any_done (by kernel_rfl) ?_
  refine t_normal ?_
  refine c_false hf rfl ?_
  refine c_skip ?_
  refine b_normal ?_
  refine t_normal ?_
  refine c_region ?_
  refine step_l (st_rd hf (Wn.none rfl) (rd_add hf rfl rfl rfl (by first | exact Go.IntWalk.i64_in _ (by omega) | exact rfl)) hS rfl rfl ?_)
  clear hf; intro a hf
  refine step_l (st_rd hf (Wn.none rfl) (rd_move hf rfl rfl) hS rfl rfl ?_)
  clear hf; intro a hf
  refine done_l ?_
  refine t_normal ⟨k + 1, ((hf.back (by repeat (first | exact Behind.refl | refine Behind.skip rfl ?_)) hk0).kb hf 13 rfl (by first | rfl | exact int_eq (by omega))), ⟨hS.subA, ⟨by omega, eq_step hget hget2 hok (Classical.not_not.1 hEQ)⟩⟩, by first | omega | (simp only []; omega)⟩
 clear hf; intro hc2 a hf
 obtain rfl : k = ds.length := by omega
 refine done_l ?_
 refine t_normal ?_
 refine c_seq ?_
 refine c_false hf rfl ?_
 refine c_exit ?_
 refine t_exit ?_
 refine t_exit ?_
 refine b_exit ?_
 refine t_normal ?_
 refine c_seq ?_
 refine c_region ?_
 refine step_l (st_rd hf (Wn.none rfl) (rd_assign hf rfl rfl) hS rfl rfl ?_)
 clear hf; intro a hf
 refine done_l ?_
 refine t_normal ?_
 refine c_ret ?_
 refine e_res1 hf.defers rfl (res_tmp hf rfl .nil) ?_
 refine ⟨congrArg Value.bool ?_, hS.subA⟩
 clear hf hS
 first | exact (decide_eq_false (eq_len (by omega))).symm | exact (decide_eq_false (eq_no hget hget2 hEQ)).symm | exact (decide_eq_true (eq_done hlen hok)).symm

theorem SDig_c (ky : List UInt8) (s0 s1 s2 s3 s4 s5 s6 s7 : Int) (xs : List DotT) (xq : Option Addr) (xc : Nat) (ky2 : List UInt8) (t0 t1 t2 t3 t4 t5 t6 t7 : Int) (xs2 : List DotT) (xq2 : Option Addr) (xc2 : Nat) {W : World} {R : List HP} {w : World} (hS : Sat W (R) w) (hv : ∀ w, Sat W R w → DotsAt w (xq, xc, xs)) (hv2 : ∀ w, Sat W R w → DotsAt w (xq2, xc2, xs2)) : Calls Try.prog 32 [.agg #[.string (str ky), .int .i64 s0, .int .i64 s1, .int .i64 s2, .int .i64 s3, .int .i64 s4, .int .i64 s5, .int .i64 s6, .int .i64 s7, .slice xq xs.length xc], .agg #[.string (str ky2), .int .i64 t0, .int .i64 t1, .int .i64 t2, .int .i64 t3, .int .i64 t4, .int .i64 t5, .int .i64 t6, .int .i64 t7, .slice xq2 xs2.length xc2]].toArray w (Ret fun v w' => v = .bool (decide (((ky, [s0, s1, s2, s3, s4, s5, s6, s7], xs.map pDot) : PDig) = ((ky2, [t0, t1, t2, t3, t4, t5, t6, t7], xs2.map pDot) : PDig))) ∧ Sat W R w') := by
 refine fn_start 24 Try.func32 rfl rfl rfl ?_
 intro a hf
 refine c_seq ?_
 refine c_region ?_
 refine step_l (st_box hf (Wn.none rfl) hS rfl rfl (by rfl) rfl rfl ?_)
 clear hf hS; intro b_1 a w hf hS
 refine step_l (st_box hf (Wn.none rfl) hS rfl rfl (by rfl) rfl rfl ?_)
 clear hf hS; intro b_2 a w hf hS
 refine step_l (st_rd hf (Wn.none rfl) (rd_assign hf rfl rfl) hS rfl rfl ?_)
 clear hf; intro a hf
 refine done_l ?_
 refine t_normal ?_
 refine c_seq ?_
 refine c_region ?_
 refine step_l (st_rd hf (Wn.none rfl) (rd_fieldAddrB hf rfl rfl fb52_0 rfl) hS rfl rfl ?_)
 clear hf; intro a hf
 refine step_l (st_rd hf (Wn.none rfl) (rd_load1 hf rfl rfl ag9 (by intro _ h; first | exact h.cell (by repeat (first | exact Sel.head | apply Sel.tail)) (by rfl))) hS rfl rfl ?_)
 clear hf; intro a hf
 refine step_l (st_rd hf (Wn.none rfl) (rd_fieldAddrB hf rfl rfl fb52_0 rfl) hS rfl rfl ?_)
 clear hf; intro a hf
 refine step_l (st_rd hf (Wn.none rfl) (rd_load1 hf rfl rfl ag9 (by intro _ h; first | exact h.cell (by repeat (first | exact Sel.head | apply Sel.tail)) (by rfl))) hS rfl rfl ?_)
 clear hf; intro a hf
 refine step_l (st_rdB hf (Wn.none rfl) (rd_eqlS hf rfl rfl rfl) hS rfl rfl ?_ ?_)
 ·
  clear hf; intro hc3 a hf
  have hKE := hc3
  refine step_l (st_rd hf (Wn.none rfl) (rd_move hf rfl rfl) hS rfl rfl ?_)
  clear hf; intro a hf
  refine step_l (st_rd hf (Wn.some hf rfl rfl rfl rfl) (rd_fieldAddrB hf rfl rfl fb52_1 rfl) hS rfl rfl ?_)
  clear hf; intro a hf
  refine step_l (st_rd hf (Wn.some hf rfl rfl rfl rfl) (rd_loadN hf rfl rfl ag37 sz37 (by intro _ h; exact loadN_of h (by repeat (first | exact Sel.head | apply Sel.tail)) (by repeat (first | exact Seg.nil | apply Seg.cons | apply Seg.succ)) )) hS rfl rfl ?_)
  clear hf; intro a hf
  refine step_l (st_rd hf (Wn.some hf rfl rfl rfl rfl) (rd_fieldAddrB hf rfl rfl fb52_1 rfl) hS rfl rfl ?_)
  clear hf; intro a hf
  refine step_l (st_rd hf (Wn.some hf rfl rfl rfl rfl) (rd_loadN hf rfl rfl ag37 sz37 (by intro _ h; exact loadN_of h (by repeat (first | exact Sel.head | apply Sel.tail)) (by repeat (first | exact Seg.nil | apply Seg.cons | apply Seg.succ)) )) hS rfl rfl ?_)
  clear hf; intro a hf
  refine step_l (st_rdB hf (Wn.some hf rfl rfl rfl rfl) ((rd_eqlA (l := [s0, s1, s2, s3, s4, s5, s6, s7]) (l' := [t0, t1, t2, t3, t4, t5, t6, t7]) hf rfl rfl rfl Try.underlying37 info2 cells2 ag2 Try.underlying2 eqg37 rfl rfl)) hS rfl rfl ?_ ?_)
  ·
   clear hf; intro hc4 a hf
   have hVE := hc4
   refine step_l (st_rd hf (Wn.none rfl) (rd_pick_t hf rfl rfl rfl) hS rfl rfl ?_)
   clear hf; intro a hf
   refine step_l (st_rd hf (Wn.none rfl) (rd_move hf rfl rfl) hS rfl rfl ?_)
   clear hf; intro a hf
   refine step_l (st_rd hf (Wn.some hf rfl rfl rfl rfl) (rd_fieldAddrB hf rfl rfl fb52_2 rfl) hS rfl rfl ?_)
   clear hf; intro a hf
   refine step_l (st_rd hf (Wn.some hf rfl rfl rfl rfl) (rd_load1 hf rfl rfl ag50 (by intro _ h; first | exact h.cell (by repeat (first | exact Sel.head | apply Sel.tail)) (by rfl))) hS rfl rfl ?_)
   clear hf; intro a hf
   refine step_l (st_rd hf (Wn.some hf rfl rfl rfl rfl) (rd_fieldAddrB hf rfl rfl fb52_2 rfl) hS rfl rfl ?_)
   clear hf; intro a hf
   refine step_l (st_rd hf (Wn.some hf rfl rfl rfl rfl) (rd_load1 hf rfl rfl ag50 (by intro _ h; first | exact h.cell (by repeat (first | exact Sel.head | apply Sel.tail)) (by rfl))) hS rfl rfl ?_)
   clear hf; intro a hf
   refine step_l (st_call hf (Wn.some hf rfl rfl rfl rfl) rfl rfl rfl fn70 (EqDot_c _ _ _ _ _ _  hS (fun _ h => hv _ (h.subA)) (fun _ h => hv2 _ (h.subA))) rfl rfl ?_)
   clear hf hS; rintro v a w ⟨rfl, hS⟩ hf
   refine step_l (st_rd hf (Wn.none rfl) (rd_pick_t hf rfl rfl rfl) hS rfl rfl ?_)
   clear hf; intro a hf
   refine step_l (st_rd hf (Wn.none rfl) (rd_assign hf rfl rfl) hS rfl rfl ?_)
   clear hf; intro a hf
   refine done_l ?_
   refine t_normal ?_
   refine c_ret ?_
   refine e_res1 hf.defers rfl (res_tmp hf rfl .nil) ?_
   refine ⟨congrArg Value.bool ?_, hS.subA⟩
   clear hf hS
   first | exact pair_no1 hKE | exact tri_no2 hVE | exact tri_last hKE hVE
  clear hf; intro hc4 a hf
  have hVE := hc4
  iterate 9 ((first | refine step_l (st_skip hf (Wn.some hf rfl rfl rfl rfl) rfl rfl ?_) | refine step_l (st_rd hf (Wn.none rfl) (rd_move hf rfl rfl) hS rfl rfl ?_) | refine step_l (st_rd hf (Wn.none rfl) (rd_assign hf rfl rfl) hS rfl rfl ?_) | refine step_l (st_rd hf (Wn.none rfl) (rd_pick_t hf rfl rfl rfl) hS rfl rfl ?_) | refine step_l (st_rd hf (Wn.none rfl) (rd_pick_f hf rfl rfl rfl) hS rfl rfl ?_)); clear hf; intro a hf)
  refine done_l ?_
  refine t_normal ?_
  refine c_ret ?_
  refine e_res1 hf.defers rfl (res_tmp hf rfl .nil) ?_
  refine ⟨congrArg Value.bool ?_, hS.subA⟩
  clear hf hS
  first | exact pair_no1 hKE | exact tri_no2 hVE | exact tri_last hKE hVE
 clear hf; intro hc3 a hf
 have hKE := hc3
 iterate 15 ((first | refine step_l (st_skip hf (Wn.some hf rfl rfl rfl rfl) rfl rfl ?_) | refine step_l (st_rd hf (Wn.none rfl) (rd_move hf rfl rfl) hS rfl rfl ?_) | refine step_l (st_rd hf (Wn.none rfl) (rd_assign hf rfl rfl) hS rfl rfl ?_) | refine step_l (st_rd hf (Wn.none rfl) (rd_pick_f hf rfl rfl rfl) hS rfl rfl ?_)); clear hf; intro a hf)
 refine done_l ?_
 refine t_normal ?_
 refine c_ret ?_
 refine e_res1 hf.defers rfl (res_tmp hf rfl .nil) ?_
 refine ⟨congrArg Value.bool ?_, hS.subA⟩
 clear hf hS
 first | exact pair_no1 hKE | exact tri_no2 hVE | exact tri_last hKE hVE

theorem EfEntry_c (es : List EntT) (q : Option Addr) (c : Nat) (es2 : List EntT) (q2 : Option Addr) (c2 : Nat) {W : World} {R : List HP} {w : World} (hS : Sat W (R) w) (hv : ∀ w, Sat W R w → EntsAt w (q, c, es)) (hv2 : ∀ w, Sat W R w → EntsAt w (q2, c2, es2)) : Calls Try.prog 29 [.slice q es.length c, .slice q2 es2.length c2, .func (.func 30) #[] #[]].toArray w (Ret fun v w' => v = .bool (decide (es.map pEnt = es2.map pEnt)) ∧ Sat W R w') := by
 refine fn_start 32 Try.func29 rfl rfl rfl ?_
 intro a hf
 have hl := (hv _ hS).len; have hl2 := (hv2 _ hS).len
 refine c_seq ?_
 refine c_region ?_
 refine step_l (st_rd hf (Wn.none rfl) (rd_assign hf rfl rfl) hS rfl rfl ?_)
 clear hf; intro a hf
 refine done_l ?_
 refine t_normal ?_
 refine c_seq ?_
 refine c_seq ?_
 refine c_region ?_
 refine step_l (st_rd hf (Wn.none rfl) (rd_move hf rfl rfl) hS rfl rfl ?_)
 clear hf; intro a hf
 refine step_l (st_rd hf (Wn.none rfl) (rd_len hf rfl rfl Try.underlying22) hS rfl rfl ?_)
 clear hf; intro a hf
 refine step_l (st_rd hf (Wn.none rfl) (rd_move hf rfl rfl) hS rfl rfl ?_)
 clear hf; intro a hf
 refine step_l (st_rd hf (Wn.none rfl) (rd_len hf rfl rfl Try.underlying22) hS rfl rfl ?_)
 clear hf; intro a hf
 refine step_l (st_rdB hf (Wn.none rfl) (rd_neq hf rfl rfl rfl) hS rfl rfl ?_ ?_)
 ·
  clear hf; intro hc1 a hf
  refine done_l ?_
  refine t_normal ?_
  refine c_true hf rfl ?_
  refine c_seq ?_
  refine c_region ?_
  refine step_l (st_rd hf (Wn.none rfl) (rd_assign hf rfl rfl) hS rfl rfl ?_)
  clear hf; intro a hf
  refine done_l ?_
  refine t_normal ?_
  refine c_ret ?_
  refine t_ret ?_
  refine e_res1 hf.defers rfl (res_tmp hf rfl .nil) ?_
  refine ⟨congrArg Value.bool ?_, hS.subA⟩
  clear hf hS
  first | exact (decide_eq_false (eq_len (by omega))).symm | exact (decide_eq_false (eq_no hget hget2 hEQ)).symm | exact (decide_eq_true (eq_done hlen hok)).symm
 clear hf; intro hc1 a hf
 have hlen : es.length = es2.length := by omega
 refine done_l ?_
 refine t_normal ?_
 refine c_false hf rfl ?_
 refine c_skip ?_
 refine t_normal ?_
 refine c_seq ?_
 refine c_seq ?_
 refine c_region ?_
 refine step_l (st_rd hf (Wn.none rfl) (rd_move hf rfl rfl) hS rfl rfl ?_)
 clear hf; intro a hf
 refine step_l (st_rd hf (Wn.none rfl) (rd_len hf rfl rfl Try.underlying22) hS rfl rfl ?_)
 clear hf; intro a hf
 refine step_l (st_rd hf (Wn.none rfl) (rd_move hf rfl rfl) hS rfl rfl ?_)
 clear hf; intro a hf
 refine done_l ?_
 refine t_normal ?_
 refine c_block ?_
 have hk0 := Keep.of hf [(6, 9), (17, 31)] (by repeat (first | exact Keep.nil | apply Keep.drop rfl | apply Keep.take rfl))
 refine c_loopK hk0 (α := Nat) (fun k => [(17, .int .i64 (k : Nat))]) (fun k w => Sat W (R) w ∧ k ≤ es.length ∧ (es.take k).map pEnt = (es2.take k).map pEnt) (fun k => es.length - k) 0 ((hf.keep hk0).kb hf 17 rfl (by first | rfl | exact int_eq (by omega))) ⟨hS.subA, ⟨by omega, rfl⟩⟩ ?_
 clear hf hS; rintro k a w hf ⟨hS, ⟨hk, hok⟩⟩; (try dsimp only [List.cons_append, List.nil_append] at hf)
 refine c_seq ?_
 refine c_region ?_
 refine step_l (st_rdB hf (Wn.none rfl) (rd_lss hf rfl rfl rfl) hS rfl rfl ?_ ?_)
 ·
  clear hf; intro hc2 a hf
  obtain ⟨x, hget⟩ := get_of_lt (l := es) (k := k) (by omega) rfl; obtain ⟨ad, rfl⟩ := (hv _ (hS.subA)).some (by omega); have h8 := ((hv _ (hS.subA)).in hget).1; have hvx := fun w h => ((hv w h).in hget).2; obtain ⟨ky, ⟨seen, ⟨xq, xc, xs⟩, _⟩, _⟩ := x; obtain ⟨s0, s1, s2, s3, s4, s5, s6, s7, rfl⟩ := len8 h8
  obtain ⟨x2, hget2⟩ := get_of_lt (l := es2) (k := k) (by omega) rfl; obtain ⟨ad2, rfl⟩ := (hv2 _ (hS.subA)).some (by omega); have h82 := ((hv2 _ (hS.subA)).in hget2).1; have hvx2 := fun w h => ((hv2 w h).in hget2).2; obtain ⟨ky2, ⟨seen2, ⟨xq2, xc2, xs2⟩, _⟩, _⟩ := x2; obtain ⟨t0, t1, t2, t3, t4, t5, t6, t7, rfl⟩ := len8 h82
  refine done_l ?_
  refine t_normal ?_
  refine c_seq ?_
  refine c_true hf rfl ?_
  refine c_skip ?_
  refine t_normal ?_
  refine c_seq ?_
  refine c_block ?_
  refine c_seq ?_
  refine c_region ?_
  refine step_l (st_rd hf (Wn.none rfl) (rd_move hf rfl rfl) hS rfl rfl ?_)
  clear hf; intro a hf
  refine step_l (st_rd hf (Wn.none rfl) ((by first | exact rd_indexAddrN hf rfl rfl rfl Try.underlying22 sz46 (by omega) | exact rd_indexAddr hf rfl rfl rfl Try.underlying22 sz46 (by first | decide | omega) (by omega))) hS rfl rfl ?_)
  clear hf; intro a hf
  refine step_l (st_rd hf (Wn.none rfl) (rd_loadN hf rfl rfl ag46 sz46 (by intro _ h; exact (show AggAt _ _ _ [.string (str ky), .int .i64 s0, .int .i64 s1, .int .i64 s2, .int .i64 s3, .int .i64 s4, .int .i64 s5, .int .i64 s6, .int .i64 s7, .slice xq xs.length xc] from (hv _ (h.subA)).el hget))) hS rfl rfl ?_)
  clear hf; intro a hf
  refine step_l (st_alloc hf (Wn.none rfl) hS rfl zr46 (by rfl) rfl rfl ?_)
  clear hf hS; intro b_x a w hf hS
  refine step_l (st_rd hf (Wn.none rfl) (rd_assign hf rfl rfl) hS rfl rfl ?_)
  clear hf; intro a hf
  refine step_l (st_store hf (Wn.none rfl) hS rfl rfl rfl (by rfl) sz46 (by rfl) (by rfl) (by repeat (first | exact Sel.head | apply Sel.tail)) (by repeat (first | exact Put.nil | apply Put.cons | apply Put.succ)) rfl ?_)
  clear hf hS; intro a w hf hS
  refine done_l ?_
  refine t_normal ?_
  refine c_seq ?_
  refine c_region ?_
  refine step_l (st_rd hf (Wn.none rfl) (rd_move hf rfl rfl) hS rfl rfl ?_)
  clear hf; intro a hf
  refine step_l (st_rd hf (Wn.none rfl) (rd_move hf rfl rfl) hS rfl rfl ?_)
  clear hf; intro a hf
  refine step_l (st_rd hf (Wn.none rfl) ((by first | exact rd_indexAddrN hf rfl rfl rfl Try.underlying22 sz46 (by omega) | exact rd_indexAddr hf rfl rfl rfl Try.underlying22 sz46 (by first | decide | omega) (by omega))) hS rfl rfl ?_)
  clear hf; intro a hf
  refine step_l (st_rd hf (Wn.none rfl) (rd_loadN hf rfl rfl ag46 sz46 (by intro _ h; exact (show AggAt _ _ _ [.string (str ky2), .int .i64 t0, .int .i64 t1, .int .i64 t2, .int .i64 t3, .int .i64 t4, .int .i64 t5, .int .i64 t6, .int .i64 t7, .slice xq2 xs2.length xc2] from (hv2 _ (h.subA)).el hget2))) hS rfl rfl ?_)
  clear hf; intro a hf
  refine step_l (st_alloc hf (Wn.none rfl) hS rfl zr46 (by rfl) rfl rfl ?_)
  clear hf hS; intro b_y a w hf hS
  refine step_l (st_store hf (Wn.none rfl) hS rfl rfl rfl (by rfl) sz46 (by rfl) (by rfl) (by repeat (first | exact Sel.head | apply Sel.tail)) (by repeat (first | exact Put.nil | apply Put.cons | apply Put.succ)) rfl ?_)
  clear hf hS; intro a w hf hS
  refine done_l ?_
  refine t_normal ?_
  refine c_seq ?_
  refine c_region ?_
  refine step_l (st_rd hf (Wn.none rfl) (rd_move hf rfl rfl) hS rfl rfl ?_)
  clear hf; intro a hf
  refine step_l (st_rd hf (Wn.none rfl) (rd_loadN hf rfl rfl ag46 sz46 (by intro _ h; exact loadN_of h (by repeat (first | exact Sel.head | apply Sel.tail)) (by repeat (first | exact Seg.nil | apply Seg.cons | apply Seg.succ)) )) hS rfl rfl ?_)
  clear hf; intro a hf
  refine step_l (st_rd hf (Wn.none rfl) (rd_loadN hf rfl rfl ag46 sz46 (by intro _ h; exact loadN_of h (by repeat (first | exact Sel.head | apply Sel.tail)) (by repeat (first | exact Seg.nil | apply Seg.cons | apply Seg.succ)) )) hS rfl rfl ?_)
  clear hf; intro a hf
  refine step_l (st_call hf (Wn.none rfl) rfl rfl rfl fn30 (SEnt_c _ _ _ _ _ _ _ _ _ _ _ _ _ _ _ _ _ _ _ _ _ _ _ _  hS (fun _ h => hvx _ (h.subA)) (fun _ h => hvx2 _ (h.subA))) rfl rfl ?_)
  clear hf hS; rintro v a w ⟨rfl, hS⟩ hf
  first | refine split_dec (d := 29) hf rfl ?_ ?_ | refine split_bool (d := 29) hf rfl ?_ ?_
  ·
   clear hf; intro hc5 hf
   have hEQ := hc5
   refine step_l (st_rd hf (Wn.none rfl) (rd_not hf rfl rfl) hS rfl rfl ?_)
   clear hf; intro a hf
   refine done_l ?_
   refine t_normal ?_
   refine c_false hf rfl ?_
   refine c_skip ?_
   refine b_normal ?_
   refine t_normal ?_
   refine c_region ?_
   refine step_l (st_rd hf (Wn.none rfl) (rd_add hf rfl rfl rfl (by first | exact Go.IntWalk.i64_in _ (by omega) | exact rfl)) hS rfl rfl ?_)
   clear hf; intro a hf
   refine step_l (st_rd hf (Wn.none rfl) (rd_move hf rfl rfl) hS rfl rfl ?_)
   clear hf; intro a hf
   refine done_l ?_
   refine t_normal ⟨k + 1, ((hf.back (by repeat (first | exact Behind.refl | refine Behind.skip rfl ?_)) hk0).kb hf 17 rfl (by first | rfl | exact int_eq (by omega))), ⟨hS.subA, ⟨by omega, eq_step hget hget2 hok hEQ⟩⟩, by first | omega | (simp only []; omega)⟩
  clear hf; intro hc5 hf
  have hEQ := hc5
  refine step_l (st_rd hf (Wn.none rfl) (rd_not hf rfl rfl) hS rfl rfl ?_)
  clear hf; intro a hf
  refine done_l ?_
  refine t_normal ?_
  refine c_true hf rfl ?_
  refine c_seq ?_
  refine c_region ?_
  refine step_l (st_rd hf (Wn.none rfl) (rd_assign hf rfl rfl) hS rfl rfl ?_)
  clear hf; intro a hf
  refine done_l ?_
  refine t_normal ?_
  refine c_ret ?_
  refine b_ret ?_
  refine t_ret ?_
  refine t_ret ?_
  refine b_ret ?_
  refine t_ret ?_
  refine e_res1 hf.defers rfl (res_tmp hf rfl .nil) ?_
  refine ⟨congrArg Value.bool ?_, hS.subA⟩
  clear hf hS
  first | exact (decide_eq_false (eq_len (by omega))).symm | exact (decide_eq_false (eq_no hget hget2 hEQ)).symm | exact (decide_eq_true (eq_done hlen hok)).symm
 clear hf; intro hc2 a hf
 obtain rfl : k = es.length := by omega
 refine done_l ?_
 refine t_normal ?_
 refine c_seq ?_
 refine c_false hf rfl ?_
 refine c_exit ?_
 refine t_exit ?_
 refine t_exit ?_
 refine b_exit ?_
 refine t_normal ?_
 refine c_seq ?_
 refine c_region ?_
 refine step_l (st_rd hf (Wn.none rfl) (rd_assign hf rfl rfl) hS rfl rfl ?_)
 clear hf; intro a hf
 refine done_l ?_
 refine t_normal ?_
 refine c_ret ?_
 refine e_res1 hf.defers rfl (res_tmp hf rfl .nil) ?_
 refine ⟨congrArg Value.bool ?_, hS.subA⟩
 clear hf hS
 first | exact (decide_eq_false (eq_len (by omega))).symm | exact (decide_eq_false (eq_no hget hget2 hEQ)).symm | exact (decide_eq_true (eq_done hlen hok)).symm

theorem EfDigest_c (ds : List DigT) (q : Option Addr) (c : Nat) (ds2 : List DigT) (q2 : Option Addr) (c2 : Nat) {W : World} {R : List HP} {w : World} (hS : Sat W (R) w) (hv : ∀ w, Sat W R w → DigsAt w (q, c, ds)) (hv2 : ∀ w, Sat W R w → DigsAt w (q2, c2, ds2)) : Calls Try.prog 31 [.slice q ds.length c, .slice q2 ds2.length c2, .func (.func 32) #[] #[]].toArray w (Ret fun v w' => v = .bool (decide (ds.map pDig = ds2.map pDig)) ∧ Sat W R w') := by
 refine fn_start 32 Try.func31 rfl rfl rfl ?_
 intro a hf
 have hl := (hv _ hS).len; have hl2 := (hv2 _ hS).len
 refine c_seq ?_
 refine c_region ?_
 refine step_l (st_rd hf (Wn.none rfl) (rd_assign hf rfl rfl) hS rfl rfl ?_)
 clear hf; intro a hf
 refine done_l ?_
 refine t_normal ?_
 refine c_seq ?_
 refine c_seq ?_
 refine c_region ?_
 refine step_l (st_rd hf (Wn.none rfl) (rd_move hf rfl rfl) hS rfl rfl ?_)
 clear hf; intro a hf
 refine step_l (st_rd hf (Wn.none rfl) (rd_len hf rfl rfl Try.underlying23) hS rfl rfl ?_)
 clear hf; intro a hf
 refine step_l (st_rd hf (Wn.none rfl) (rd_move hf rfl rfl) hS rfl rfl ?_)
 clear hf; intro a hf
 refine step_l (st_rd hf (Wn.none rfl) (rd_len hf rfl rfl Try.underlying23) hS rfl rfl ?_)
 clear hf; intro a hf
 refine step_l (st_rdB hf (Wn.none rfl) (rd_neq hf rfl rfl rfl) hS rfl rfl ?_ ?_)
 ·
  clear hf; intro hc1 a hf
  refine done_l ?_
  refine t_normal ?_
  refine c_true hf rfl ?_
  refine c_seq ?_
  refine c_region ?_
  refine step_l (st_rd hf (Wn.none rfl) (rd_assign hf rfl rfl) hS rfl rfl ?_)
  clear hf; intro a hf
  refine done_l ?_
  refine t_normal ?_
  refine c_ret ?_
  refine t_ret ?_
  refine e_res1 hf.defers rfl (res_tmp hf rfl .nil) ?_
  refine ⟨congrArg Value.bool ?_, hS.subA⟩
  clear hf hS
  first | exact (decide_eq_false (eq_len (by omega))).symm | exact (decide_eq_false (eq_no hget hget2 hEQ)).symm | exact (decide_eq_true (eq_done hlen hok)).symm
 clear hf; intro hc1 a hf
 have hlen : ds.length = ds2.length := by omega
 refine done_l ?_
 refine t_normal ?_
 refine c_false hf rfl ?_
 refine c_skip ?_
 refine t_normal ?_
 refine c_seq ?_
 refine c_seq ?_
 refine c_region ?_
 refine step_l (st_rd hf (Wn.none rfl) (rd_move hf rfl rfl) hS rfl rfl ?_)
 clear hf; intro a hf
 refine step_l (st_rd hf (Wn.none rfl) (rd_len hf rfl rfl Try.underlying23) hS rfl rfl ?_)
 clear hf; intro a hf
 refine step_l (st_rd hf (Wn.none rfl) (rd_move hf rfl rfl) hS rfl rfl ?_)
 clear hf; intro a hf
 refine done_l ?_
 refine t_normal ?_
 refine c_block ?_
 have hk0 := Keep.of hf [(6, 9), (17, 31)] (by repeat (first | exact Keep.nil | apply Keep.drop rfl | apply Keep.take rfl))
 refine c_loopK hk0 (α := Nat) (fun k => [(17, .int .i64 (k : Nat))]) (fun k w => Sat W (R) w ∧ k ≤ ds.length ∧ (ds.take k).map pDig = (ds2.take k).map pDig) (fun k => ds.length - k) 0 ((hf.keep hk0).kb hf 17 rfl (by first | rfl | exact int_eq (by omega))) ⟨hS.subA, ⟨by omega, rfl⟩⟩ ?_
 clear hf hS; rintro k a w hf ⟨hS, ⟨hk, hok⟩⟩; (try dsimp only [List.cons_append, List.nil_append] at hf)
 refine c_seq ?_
 refine c_region ?_
 refine step_l (st_rdB hf (Wn.none rfl) (rd_lss hf rfl rfl rfl) hS rfl rfl ?_ ?_)
 ·
  clear hf; intro hc2 a hf
  obtain ⟨x, hget⟩ := get_of_lt (l := ds) (k := k) (by omega) rfl; obtain ⟨ad, rfl⟩ := (hv _ (hS.subA)).some (by omega); have h8 := ((hv _ (hS.subA)).in hget).1; have hvx := fun w h => ((hv w h).in hget).2; obtain ⟨ky, seen, ⟨xq, xc, xs⟩, _⟩ := x; obtain ⟨s0, s1, s2, s3, s4, s5, s6, s7, rfl⟩ := len8 h8
  obtain ⟨x2, hget2⟩ := get_of_lt (l := ds2) (k := k) (by omega) rfl; obtain ⟨ad2, rfl⟩ := (hv2 _ (hS.subA)).some (by omega); have h82 := ((hv2 _ (hS.subA)).in hget2).1; have hvx2 := fun w h => ((hv2 w h).in hget2).2; obtain ⟨ky2, seen2, ⟨xq2, xc2, xs2⟩, _⟩ := x2; obtain ⟨t0, t1, t2, t3, t4, t5, t6, t7, rfl⟩ := len8 h82
  refine done_l ?_
  refine t_normal ?_
  refine c_seq ?_
  refine c_true hf rfl ?_
  refine c_skip ?_
  refine t_normal ?_
  refine c_seq ?_
  refine c_block ?_
  refine c_seq ?_
  refine c_region ?_
  refine step_l (st_rd hf (Wn.none rfl) (rd_move hf rfl rfl) hS rfl rfl ?_)
  clear hf; intro a hf
  refine step_l (st_rd hf (Wn.none rfl) ((by first | exact rd_indexAddrN hf rfl rfl rfl Try.underlying23 sz52 (by omega) | exact rd_indexAddr hf rfl rfl rfl Try.underlying23 sz52 (by first | decide | omega) (by omega))) hS rfl rfl ?_)
  clear hf; intro a hf
  refine step_l (st_rd hf (Wn.none rfl) (rd_loadN hf rfl rfl ag52 sz52 (by intro _ h; exact (show AggAt _ _ _ [.string (str ky), .int .i64 s0, .int .i64 s1, .int .i64 s2, .int .i64 s3, .int .i64 s4, .int .i64 s5, .int .i64 s6, .int .i64 s7, .slice xq xs.length xc] from (hv _ (h.subA)).el hget))) hS rfl rfl ?_)
  clear hf; intro a hf
  refine step_l (st_alloc hf (Wn.none rfl) hS rfl zr52 (by rfl) rfl rfl ?_)
  clear hf hS; intro b_x a w hf hS
  refine step_l (st_rd hf (Wn.none rfl) (rd_assign hf rfl rfl) hS rfl rfl ?_)
  clear hf; intro a hf
  refine step_l (st_store hf (Wn.none rfl) hS rfl rfl rfl (by rfl) sz52 (by rfl) (by rfl) (by repeat (first | exact Sel.head | apply Sel.tail)) (by repeat (first | exact Put.nil | apply Put.cons | apply Put.succ)) rfl ?_)
  clear hf hS; intro a w hf hS
  refine done_l ?_
  refine t_normal ?_
  refine c_seq ?_
  refine c_region ?_
  refine step_l (st_rd hf (Wn.none rfl) (rd_move hf rfl rfl) hS rfl rfl ?_)
  clear hf; intro a hf
  refine step_l (st_rd hf (Wn.none rfl) (rd_move hf rfl rfl) hS rfl rfl ?_)
  clear hf; intro a hf
  refine step_l (st_rd hf (Wn.none rfl) ((by first | exact rd_indexAddrN hf rfl rfl rfl Try.underlying23 sz52 (by omega) | exact rd_indexAddr hf rfl rfl rfl Try.underlying23 sz52 (by first | decide | omega) (by omega))) hS rfl rfl ?_)
  clear hf; intro a hf
  refine step_l (st_rd hf (Wn.none rfl) (rd_loadN hf rfl rfl ag52 sz52 (by intro _ h; exact (show AggAt _ _ _ [.string (str ky2), .int .i64 t0, .int .i64 t1, .int .i64 t2, .int .i64 t3, .int .i64 t4, .int .i64 t5, .int .i64 t6, .int .i64 t7, .slice xq2 xs2.length xc2] from (hv2 _ (h.subA)).el hget2))) hS rfl rfl ?_)
  clear hf; intro a hf
  refine step_l (st_alloc hf (Wn.none rfl) hS rfl zr52 (by rfl) rfl rfl ?_)
  clear hf hS; intro b_y a w hf hS
  refine step_l (st_store hf (Wn.none rfl) hS rfl rfl rfl (by rfl) sz52 (by rfl) (by rfl) (by repeat (first | exact Sel.head | apply Sel.tail)) (by repeat (first | exact Put.nil | apply Put.cons | apply Put.succ)) rfl ?_)
  clear hf hS; intro a w hf hS
  refine done_l ?_
  refine t_normal ?_
  refine c_seq ?_
  refine c_region ?_
  refine step_l (st_rd hf (Wn.none rfl) (rd_move hf rfl rfl) hS rfl rfl ?_)
  clear hf; intro a hf
  refine step_l (st_rd hf (Wn.none rfl) (rd_loadN hf rfl rfl ag52 sz52 (by intro _ h; exact loadN_of h (by repeat (first | exact Sel.head | apply Sel.tail)) (by repeat (first | exact Seg.nil | apply Seg.cons | apply Seg.succ)) )) hS rfl rfl ?_)
  clear hf; intro a hf
  refine step_l (st_rd hf (Wn.none rfl) (rd_loadN hf rfl rfl ag52 sz52 (by intro _ h; exact loadN_of h (by repeat (first | exact Sel.head | apply Sel.tail)) (by repeat (first | exact Seg.nil | apply Seg.cons | apply Seg.succ)) )) hS rfl rfl ?_)
  clear hf; intro a hf
  refine step_l (st_call hf (Wn.none rfl) rfl rfl rfl fn32 (SDig_c _ _ _ _ _ _ _ _ _ _ _ _ _ _ _ _ _ _ _ _ _ _ _ _  hS (fun _ h => hvx _ (h.subA)) (fun _ h => hvx2 _ (h.subA))) rfl rfl ?_)
  clear hf hS; rintro v a w ⟨rfl, hS⟩ hf
  first | refine split_dec (d := 29) hf rfl ?_ ?_ | refine split_bool (d := 29) hf rfl ?_ ?_
  ·
   clear hf; intro hc5 hf
   have hEQ := hc5
   refine step_l (st_rd hf (Wn.none rfl) (rd_not hf rfl rfl) hS rfl rfl ?_)
   clear hf; intro a hf
   refine done_l ?_
   refine t_normal ?_
   refine c_false hf rfl ?_
   refine c_skip ?_
   refine b_normal ?_
   refine t_normal ?_
   refine c_region ?_
   refine step_l (st_rd hf (Wn.none rfl) (rd_add hf rfl rfl rfl (by first | exact Go.IntWalk.i64_in _ (by omega) | exact rfl)) hS rfl rfl ?_)
   clear hf; intro a hf
   refine step_l (st_rd hf (Wn.none rfl) (rd_move hf rfl rfl) hS rfl rfl ?_)
   clear hf; intro a hf
   refine done_l ?_
   refine t_normal ⟨k + 1, ((hf.back (by repeat (first | exact Behind.refl | refine Behind.skip rfl ?_)) hk0).kb hf 17 rfl (by first | rfl | exact int_eq (by omega))), ⟨hS.subA, ⟨by omega, eq_step hget hget2 hok hEQ⟩⟩, by first | omega | (simp only []; omega)⟩
  clear hf; intro hc5 hf
  have hEQ := hc5
  refine step_l (st_rd hf (Wn.none rfl) (rd_not hf rfl rfl) hS rfl rfl ?_)
  clear hf; intro a hf
  refine done_l ?_
  refine t_normal ?_
  refine c_true hf rfl ?_
  refine c_seq ?_
  refine c_region ?_
  refine step_l (st_rd hf (Wn.none rfl) (rd_assign hf rfl rfl) hS rfl rfl ?_)
  clear hf; intro a hf
  refine done_l ?_
  refine t_normal ?_
  refine c_ret ?_
  refine b_ret ?_
  refine t_ret ?_
  refine t_ret ?_
  refine b_ret ?_
  refine t_ret ?_
  refine e_res1 hf.defers rfl (res_tmp hf rfl .nil) ?_
  refine ⟨congrArg Value.bool ?_, hS.subA⟩
  clear hf hS
  first | exact (decide_eq_false (eq_len (by omega))).symm | exact (decide_eq_false (eq_no hget hget2 hEQ)).symm | exact (decide_eq_true (eq_done hlen hok)).symm
 clear hf; intro hc2 a hf
 obtain rfl : k = ds.length := by omega
 refine done_l ?_
 refine t_normal ?_
 refine c_seq ?_
 refine c_false hf rfl ?_
 refine c_exit ?_
 refine t_exit ?_
 refine t_exit ?_
 refine b_exit ?_
 refine t_normal ?_
 refine c_seq ?_
 refine c_region ?_
 refine step_l (st_rd hf (Wn.none rfl) (rd_assign hf rfl rfl) hS rfl rfl ?_)
 clear hf; intro a hf
 refine done_l ?_
 refine t_normal ?_
 refine c_ret ?_
 refine e_res1 hf.defers rfl (res_tmp hf rfl .nil) ?_
 refine ⟨congrArg Value.bool ?_, hS.subA⟩
 clear hf hS
 first | exact (decide_eq_false (eq_len (by omega))).symm | exact (decide_eq_false (eq_no hget hget2 hEQ)).symm | exact (decide_eq_true (eq_done hlen hok)).symm

set_option maxRecDepth 100000 in
set_option maxHeartbeats 4000000 in
theorem MSame_c (kd fr tn op fo : Int) (ky : List UInt8) (bk : Int) (es : List EntT) (qe : Option Addr) (ce : Nat) (ds : List DigT) (qd : Option Addr) (cd : Nat) (ms : List MemT) (qm : Option Addr) (cm : Nat) (kd2 fr2 tn2 op2 fo2 : Int) (ky2 : List UInt8) (bk2 : Int) (es2 : List EntT) (qe2 : Option Addr) (ce2 : Nat) (ds2 : List DigT) (qd2 : Option Addr) (cd2 : Nat) (ms2 : List MemT) (qm2 : Option Addr) (cm2 : Nat) {W : World} {R : List HP} {w : World} (hS : Sat W (R) w) (hve : ∀ w, Sat W R w → EntsAt w (qe, ce, es)) (hvd : ∀ w, Sat W R w → DigsAt w (qd, cd, ds)) (hvm : ∀ w, Sat W R w → DotsAt w (qm, cm, ms)) (hve2 : ∀ w, Sat W R w → EntsAt w (qe2, ce2, es2)) (hvd2 : ∀ w, Sat W R w → DigsAt w (qd2, cd2, ds2)) (hvm2 : ∀ w, Sat W R w → DotsAt w (qm2, cm2, ms2)) : Calls Try.prog 12 [.agg #[.int .i64 kd, .int .i64 fr, .int .i64 tn, .int .i64 op, .int .i64 fo, .string (str ky), .int .i64 bk, .slice qe es.length ce, .slice qd ds.length cd, .slice qm ms.length cm], .agg #[.int .i64 kd2, .int .i64 fr2, .int .i64 tn2, .int .i64 op2, .int .i64 fo2, .string (str ky2), .int .i64 bk2, .slice qe2 es2.length ce2, .slice qd2 ds2.length cd2, .slice qm2 ms2.length cm2]].toArray w (Ret fun v w' => v = .bool (sameM (⟨kd, fr, tn, op, fo, ky, bk, es.map pEnt, ds.map pDig, ms.map pDot⟩ : PMsg) (⟨kd2, fr2, tn2, op2, fo2, ky2, bk2, es2.map pEnt, ds2.map pDig, ms2.map pDot⟩ : PMsg)) ∧ Sat W R w') := by
 refine fn_start 77 Try.func12 rfl rfl rfl ?_
 intro a hf
 obtain ⟨op', hop⟩ : ∃ x, plI (hasP 0 kd) op = x := ⟨_, rfl⟩; obtain ⟨fo', hfo⟩ : ∃ x, plI (hasP 1 kd) fo = x := ⟨_, rfl⟩; obtain ⟨ky', hky⟩ : ∃ x, plB (hasP 2 kd) ky = x := ⟨_, rfl⟩; obtain ⟨bk', hbk⟩ : ∃ x, plI (hasP 3 kd) bk = x := ⟨_, rfl⟩; obtain ⟨⟨qe', ce', es'⟩, hes⟩ : ∃ x, plS (hasP 4 kd) (qe, ce, es) = x := ⟨_, rfl⟩; obtain ⟨⟨qd', cd', ds'⟩, hds⟩ : ∃ x, plS (hasP 5 kd) (qd, cd, ds) = x := ⟨_, rfl⟩; obtain ⟨⟨qm', cm', ms'⟩, hms⟩ : ∃ x, plS (hasP 6 kd) (qm, cm, ms) = x := ⟨_, rfl⟩; have hpl := plP_eq (fr := fr) (tn := tn) hop hfo hky hbk hes hds hms; dsimp only at hpl; have hve' : ∀ w, Sat W R w → EntsAt w (qe', ce', es') := (by intro w h; rw [← hes]; exact plS_at (hve w h) (EntsAt.nil w)); have hvd' : ∀ w, Sat W R w → DigsAt w (qd', cd', ds') := (by intro w h; rw [← hds]; exact plS_at (hvd w h) (DigsAt.nil w)); have hvm' : ∀ w, Sat W R w → DotsAt w (qm', cm', ms') := (by intro w h; rw [← hms]; exact plS_at (hvm w h) (DotsAt.nil w)); have hE0 : hasP 4 kd = false → es'.length = 0 := plS_len0 hes
 obtain ⟨op2', hop2⟩ : ∃ x2, plI (hasP 0 kd2) op2 = x2 := ⟨_, rfl⟩; obtain ⟨fo2', hfo2⟩ : ∃ x2, plI (hasP 1 kd2) fo2 = x2 := ⟨_, rfl⟩; obtain ⟨ky2', hky2⟩ : ∃ x2, plB (hasP 2 kd2) ky2 = x2 := ⟨_, rfl⟩; obtain ⟨bk2', hbk2⟩ : ∃ x2, plI (hasP 3 kd2) bk2 = x2 := ⟨_, rfl⟩; obtain ⟨⟨qe2', ce2', es2'⟩, hes2⟩ : ∃ x2, plS (hasP 4 kd2) (qe2, ce2, es2) = x2 := ⟨_, rfl⟩; obtain ⟨⟨qd2', cd2', ds2'⟩, hds2⟩ : ∃ x2, plS (hasP 5 kd2) (qd2, cd2, ds2) = x2 := ⟨_, rfl⟩; obtain ⟨⟨qm2', cm2', ms2'⟩, hms2⟩ : ∃ x2, plS (hasP 6 kd2) (qm2, cm2, ms2) = x2 := ⟨_, rfl⟩; have hpl2 := plP_eq (fr := fr2) (tn := tn2) hop2 hfo2 hky2 hbk2 hes2 hds2 hms2; dsimp only at hpl2; have hve2' : ∀ w, Sat W R w → EntsAt w (qe2', ce2', es2') := (by intro w h; rw [← hes2]; exact plS_at (hve2 w h) (EntsAt.nil w)); have hvd2' : ∀ w, Sat W R w → DigsAt w (qd2', cd2', ds2') := (by intro w h; rw [← hds2]; exact plS_at (hvd2 w h) (DigsAt.nil w)); have hvm2' : ∀ w, Sat W R w → DotsAt w (qm2', cm2', ms2') := (by intro w h; rw [← hms2]; exact plS_at (hvm2 w h) (DotsAt.nil w)); have hE02 : hasP 4 kd2 = false → es2'.length = 0 := plS_len0 hes2
 have hlm := (hvm' _ hS).len; have hlm2 := (hvm2' _ hS).len
 refine c_seq ?_
 refine c_region ?_
 refine step_l (st_box hf (Wn.none rfl) hS rfl rfl (by rfl) rfl rfl ?_)
 clear hf hS; intro b_m a w hf hS
 refine step_l (st_box hf (Wn.none rfl) hS rfl rfl (by rfl) rfl rfl ?_)
 clear hf hS; intro b_n a w hf hS
 refine step_l (st_rd hf (Wn.none rfl) (rd_assign hf rfl rfl) hS rfl rfl ?_)
 clear hf; intro a hf
 refine done_l ?_
 refine t_normal ?_
 refine c_seq ?_
 have hq1 := Keep.of hf [(5, 8)] (by repeat (first | exact Keep.nil | apply Keep.drop rfl | apply Keep.take rfl))
 refine c_joinK (n := 77) hq1 [] (fun w => Sat W (Blk b_m [.int .i64 kd, .int .i64 fr, .int .i64 tn, .int .i64 op', .int .i64 fo', .string (str ky'), .int .i64 bk', .slice qe' es'.length ce', .slice qd' ds'.length cd', .slice qm' ms'.length cm'] 26 :: Blk b_n [.int .i64 kd2, .int .i64 fr2, .int .i64 tn2, .int .i64 op2', .int .i64 fo2', .string (str ky2'), .int .i64 bk2', .slice qe2' es2'.length ce2', .slice qd2' ds2'.length cd2', .slice qm2' ms2'.length cm2'] 26 :: R) w) ?_ ?_
 ·
  skip
  refine any_begin (S := Sat W (R)) mixed (hS.drew.subA) ?_
  have hT : Sat W (R) _ := hS.drew.subA
  replace hS := hS.drew
  refine any_two (i := 0) (j := 2) rfl rfl (by kernel_rfl) ?_ ?_
  ·
   skip
   refine st_rd hf (Wn.none rfl) (rd_loadN hf rfl rfl ag26 sz26 (by intro _ h; exact loadN_of h (by repeat (first | exact Sel.head | apply Sel.tail)) (by repeat (first | exact Seg.nil | apply Seg.cons | apply Seg.succ)) )) hS rfl rfl ?_
   clear hf; intro a hf
   refine ⟨hT, ?_⟩
   refine any_two (i := 1) (j := 2) rfl rfl (by kernel_rfl) ?_ ?_
   ·
    skip
    refine st_call hf (Wn.none rfl) rfl rfl rfl fn28 (Plain_c _ _ _ _ _ _ _ _ _ _ _ _ _ _ _ _ hS) rfl rfl ?_
    clear hf hS; rintro v a w ⟨rfl, hS⟩ hf; rw [hop, hfo, hky, hbk, hes, hds, hms] at hf; dsimp only [slv] at hf
    replace hT := hS.sub' hT (by repeat (first | exact Sub.refl | exact Sub.none | exact Sub.behind | (apply Sub.cons; (focus ((repeat (first | exact Sel.head | apply Sel.tail)); done))) | apply Sub.skip))
    refine ⟨hT, ?_⟩
    refine any_one (i := 2) rfl (by kernel_rfl) (st_rd hf (Wn.none rfl) (rd_loadN hf rfl rfl ag26 sz26 (by intro _ h; exact loadN_of h (by repeat (first | exact Sel.head | apply Sel.tail)) (by repeat (first | exact Seg.nil | apply Seg.cons | apply Seg.succ)) )) hS rfl rfl ?_)
    clear hf; intro a hf
    refine ⟨hT, ?_⟩
    refine any_one (i := 3) rfl (by kernel_rfl) (st_call hf (Wn.none rfl) rfl rfl rfl fn28 (Plain_c _ _ _ _ _ _ _ _ _ _ _ _ _ _ _ _ hS) rfl rfl ?_)
    clear hf hS; rintro v a w ⟨rfl, hS⟩ hf; rw [hop2, hfo2, hky2, hbk2, hes2, hds2, hms2] at hf; dsimp only [slv] at hf
    replace hT := hS.sub' hT (by repeat (first | exact Sub.refl | exact Sub.none | exact Sub.behind | (apply Sub.cons; (focus ((repeat (first | exact Sel.head | apply Sel.tail)); done))) | apply Sub.skip))
    refine ⟨hT, ?_⟩
    refine any_one (i := 4) rfl (by kernel_rfl) (st_store hf (Wn.none rfl) hS rfl rfl rfl (by rfl) sz26 (by rfl) (by rfl) (by repeat (first | exact Sel.head | apply Sel.tail)) (by repeat (first | exact Put.nil | apply Put.cons | apply Put.succ)) rfl ?_)
    clear hf hS; intro a w hf hS
    replace hT := hS.sub' hT (by repeat (first | exact Sub.refl | exact Sub.none | exact Sub.behind | (apply Sub.cons; (focus ((repeat (first | exact Sel.head | apply Sel.tail)); done))) | apply Sub.skip))
    refine ⟨hT, ?_⟩
    refine any_one (i := 5) rfl (by kernel_rfl) (st_store hf (Wn.none rfl) hS rfl rfl rfl (by rfl) sz26 (by rfl) (by rfl) (by repeat (first | exact Sel.head | apply Sel.tail)) (by repeat (first | exact Put.nil | apply Put.cons | apply Put.succ)) rfl ?_)
    clear hf hS; intro a w hf hS
    replace hT := hS.sub' hT (by repeat (first | exact Sub.refl | exact Sub.none | exact Sub.behind | (apply Sub.cons; (focus ((repeat (first | exact Sel.head | apply Sel.tail)); done))) | apply Sub.skip))
    refine ⟨hT, ?_⟩
    refine any_done (by kernel_rfl) ?_
    refine t_normal ⟨(hf.back (by repeat (first | exact Behind.refl | refine Behind.skip rfl ?_)) hq1), hS.subA⟩
   ·
    skip
    refine st_rd hf (Wn.none rfl) (rd_loadN hf rfl rfl ag26 sz26 (by intro _ h; exact loadN_of h (by repeat (first | exact Sel.head | apply Sel.tail)) (by repeat (first | exact Seg.nil | apply Seg.cons | apply Seg.succ)) )) hS rfl rfl ?_
    clear hf; intro a hf
    refine ⟨hT, ?_⟩
    refine any_one (i := 1) rfl (by kernel_rfl) (st_call hf (Wn.none rfl) rfl rfl rfl fn28 (Plain_c _ _ _ _ _ _ _ _ _ _ _ _ _ _ _ _ hS) rfl rfl ?_)
    clear hf hS; rintro v a w ⟨rfl, hS⟩ hf; rw [hop, hfo, hky, hbk, hes, hds, hms] at hf; dsimp only [slv] at hf
    replace hT := hS.sub' hT (by repeat (first | exact Sub.refl | exact Sub.none | exact Sub.behind | (apply Sub.cons; (focus ((repeat (first | exact Sel.head | apply Sel.tail)); done))) | apply Sub.skip))
    refine ⟨hT, ?_⟩
    refine any_one (i := 3) rfl (by kernel_rfl) (st_call hf (Wn.none rfl) rfl rfl rfl fn28 (Plain_c _ _ _ _ _ _ _ _ _ _ _ _ _ _ _ _ hS) rfl rfl ?_)
    clear hf hS; rintro v a w ⟨rfl, hS⟩ hf; rw [hop2, hfo2, hky2, hbk2, hes2, hds2, hms2] at hf; dsimp only [slv] at hf
    replace hT := hS.sub' hT (by repeat (first | exact Sub.refl | exact Sub.none | exact Sub.behind | (apply Sub.cons; (focus ((repeat (first | exact Sel.head | apply Sel.tail)); done))) | apply Sub.skip))
    refine ⟨hT, ?_⟩
    refine any_one (i := 4) rfl (by kernel_rfl) (st_store hf (Wn.none rfl) hS rfl rfl rfl (by rfl) sz26 (by rfl) (by rfl) (by repeat (first | exact Sel.head | apply Sel.tail)) (by repeat (first | exact Put.nil | apply Put.cons | apply Put.succ)) rfl ?_)
    clear hf hS; intro a w hf hS
    replace hT := hS.sub' hT (by repeat (first | exact Sub.refl | exact Sub.none | exact Sub.behind | (apply Sub.cons; (focus ((repeat (first | exact Sel.head | apply Sel.tail)); done))) | apply Sub.skip))
    refine ⟨hT, ?_⟩
    refine any_one (i := 5) rfl (by kernel_rfl) (st_store hf (Wn.none rfl) hS rfl rfl rfl (by rfl) sz26 (by rfl) (by rfl) (by repeat (first | exact Sel.head | apply Sel.tail)) (by repeat (first | exact Put.nil | apply Put.cons | apply Put.succ)) rfl ?_)
    clear hf hS; intro a w hf hS
    replace hT := hS.sub' hT (by repeat (first | exact Sub.refl | exact Sub.none | exact Sub.behind | (apply Sub.cons; (focus ((repeat (first | exact Sel.head | apply Sel.tail)); done))) | apply Sub.skip))
    refine ⟨hT, ?_⟩
    refine any_done (by kernel_rfl) ?_
    refine t_normal ⟨(hf.back (by repeat (first | exact Behind.refl | refine Behind.skip rfl ?_)) hq1), hS.subA⟩
  ·
   skip
   refine st_rd hf (Wn.none rfl) (rd_loadN hf rfl rfl ag26 sz26 (by intro _ h; exact loadN_of h (by repeat (first | exact Sel.head | apply Sel.tail)) (by repeat (first | exact Seg.nil | apply Seg.cons | apply Seg.succ)) )) hS rfl rfl ?_
   clear hf; intro a hf
   refine ⟨hT, ?_⟩
   refine any_one (i := 0) rfl (by kernel_rfl) (st_rd hf (Wn.none rfl) (rd_loadN hf rfl rfl ag26 sz26 (by intro _ h; exact loadN_of h (by repeat (first | exact Sel.head | apply Sel.tail)) (by repeat (first | exact Seg.nil | apply Seg.cons | apply Seg.succ)) )) hS rfl rfl ?_)
   clear hf; intro a hf
   refine ⟨hT, ?_⟩
   refine any_one (i := 1) rfl (by kernel_rfl) (st_call hf (Wn.none rfl) rfl rfl rfl fn28 (Plain_c _ _ _ _ _ _ _ _ _ _ _ _ _ _ _ _ hS) rfl rfl ?_)
   clear hf hS; rintro v a w ⟨rfl, hS⟩ hf; rw [hop, hfo, hky, hbk, hes, hds, hms] at hf; dsimp only [slv] at hf
   replace hT := hS.sub' hT (by repeat (first | exact Sub.refl | exact Sub.none | exact Sub.behind | (apply Sub.cons; (focus ((repeat (first | exact Sel.head | apply Sel.tail)); done))) | apply Sub.skip))
   refine ⟨hT, ?_⟩
   refine any_one (i := 3) rfl (by kernel_rfl) (st_call hf (Wn.none rfl) rfl rfl rfl fn28 (Plain_c _ _ _ _ _ _ _ _ _ _ _ _ _ _ _ _ hS) rfl rfl ?_)
   clear hf hS; rintro v a w ⟨rfl, hS⟩ hf; rw [hop2, hfo2, hky2, hbk2, hes2, hds2, hms2] at hf; dsimp only [slv] at hf
   replace hT := hS.sub' hT (by repeat (first | exact Sub.refl | exact Sub.none | exact Sub.behind | (apply Sub.cons; (focus ((repeat (first | exact Sel.head | apply Sel.tail)); done))) | apply Sub.skip))
   refine ⟨hT, ?_⟩
   refine any_one (i := 4) rfl (by kernel_rfl) (st_store hf (Wn.none rfl) hS rfl rfl rfl (by rfl) sz26 (by rfl) (by rfl) (by repeat (first | exact Sel.head | apply Sel.tail)) (by repeat (first | exact Put.nil | apply Put.cons | apply Put.succ)) rfl ?_)
   clear hf hS; intro a w hf hS
   replace hT := hS.sub' hT (by repeat (first | exact Sub.refl | exact Sub.none | exact Sub.behind | (apply Sub.cons; (focus ((repeat (first | exact Sel.head | apply Sel.tail)); done))) | apply Sub.skip))
   refine ⟨hT, ?_⟩
   refine any_one (i := 5) rfl (by kernel_rfl) (st_store hf (Wn.none rfl) hS rfl rfl rfl (by rfl) sz26 (by rfl) (by rfl) (by repeat (first | exact Sel.head | apply Sel.tail)) (by repeat (first | exact Put.nil | apply Put.cons | apply Put.succ)) rfl ?_)
   clear hf hS; intro a w hf hS
   replace hT := hS.sub' hT (by repeat (first | exact Sub.refl | exact Sub.none | exact Sub.behind | (apply Sub.cons; (focus ((repeat (first | exact Sel.head | apply Sel.tail)); done))) | apply Sub.skip))
   refine ⟨hT, ?_⟩
   refine any_done (by kernel_rfl) ?_
   refine t_normal ⟨(hf.back (by repeat (first | exact Behind.refl | refine Behind.skip rfl ?_)) hq1), hS.subA⟩
 ·
  clear hf hS; intro a w hf hS; (try dsimp only [List.cons_append, List.nil_append] at hf)
  refine t_normal ?_
  refine c_seq ?_
  refine c_region ?_
  refine step_l (st_rd hf (Wn.none rfl) (rd_fieldAddrB hf rfl rfl fb26_0 rfl) hS rfl rfl ?_)
  clear hf; intro a hf
  refine step_l (st_rd hf (Wn.none rfl) (rd_load1 hf rfl rfl ag3 (by intro _ h; first | exact h.cell (by repeat (first | exact Sel.head | apply Sel.tail)) (by rfl))) hS rfl rfl ?_)
  clear hf; intro a hf
  refine step_l (st_rd hf (Wn.none rfl) (rd_fieldAddrB hf rfl rfl fb26_0 rfl) hS rfl rfl ?_)
  clear hf; intro a hf
  refine step_l (st_rd hf (Wn.none rfl) (rd_load1 hf rfl rfl ag3 (by intro _ h; first | exact h.cell (by repeat (first | exact Sel.head | apply Sel.tail)) (by rfl))) hS rfl rfl ?_)
  clear hf; intro a hf
  refine step_l (st_rdB hf (Wn.none rfl) (rd_eql hf rfl rfl rfl) hS rfl rfl ?_ ?_)
  ·
   clear hf; intro hc3 a hf
   refine step_l (st_rd hf (Wn.none rfl) (rd_move hf rfl rfl) hS rfl rfl ?_)
   clear hf; intro a hf
   refine step_l (st_rd hf (Wn.some hf rfl rfl rfl rfl) (rd_fieldAddrB hf rfl rfl fb26_1 rfl) hS rfl rfl ?_)
   clear hf; intro a hf
   refine step_l (st_rd hf (Wn.some hf rfl rfl rfl rfl) (rd_load1 hf rfl rfl ag3 (by intro _ h; first | exact h.cell (by repeat (first | exact Sel.head | apply Sel.tail)) (by rfl))) hS rfl rfl ?_)
   clear hf; intro a hf
   refine step_l (st_rd hf (Wn.some hf rfl rfl rfl rfl) (rd_fieldAddrB hf rfl rfl fb26_1 rfl) hS rfl rfl ?_)
   clear hf; intro a hf
   refine step_l (st_rd hf (Wn.some hf rfl rfl rfl rfl) (rd_load1 hf rfl rfl ag3 (by intro _ h; first | exact h.cell (by repeat (first | exact Sel.head | apply Sel.tail)) (by rfl))) hS rfl rfl ?_)
   clear hf; intro a hf
   refine step_l (st_rdB hf (Wn.some hf rfl rfl rfl rfl) (rd_eql hf rfl rfl rfl) hS rfl rfl ?_ ?_)
   ·
    clear hf; intro hc4 a hf
    refine step_l (st_rd hf (Wn.none rfl) (rd_pick_t hf rfl rfl rfl) hS rfl rfl ?_)
    clear hf; intro a hf
    refine step_l (st_rd hf (Wn.none rfl) (rd_move hf rfl rfl) hS rfl rfl ?_)
    clear hf; intro a hf
    refine step_l (st_rd hf (Wn.some hf rfl rfl rfl rfl) (rd_fieldAddrB hf rfl rfl fb26_2 rfl) hS rfl rfl ?_)
    clear hf; intro a hf
    refine step_l (st_rd hf (Wn.some hf rfl rfl rfl rfl) (rd_load1 hf rfl rfl ag3 (by intro _ h; first | exact h.cell (by repeat (first | exact Sel.head | apply Sel.tail)) (by rfl))) hS rfl rfl ?_)
    clear hf; intro a hf
    refine step_l (st_rd hf (Wn.some hf rfl rfl rfl rfl) (rd_fieldAddrB hf rfl rfl fb26_2 rfl) hS rfl rfl ?_)
    clear hf; intro a hf
    refine step_l (st_rd hf (Wn.some hf rfl rfl rfl rfl) (rd_load1 hf rfl rfl ag3 (by intro _ h; first | exact h.cell (by repeat (first | exact Sel.head | apply Sel.tail)) (by rfl))) hS rfl rfl ?_)
    clear hf; intro a hf
    refine step_l (st_rdB hf (Wn.some hf rfl rfl rfl rfl) (rd_eql hf rfl rfl rfl) hS rfl rfl ?_ ?_)
    ·
     clear hf; intro hc5 a hf
     refine step_l (st_rd hf (Wn.none rfl) (rd_pick_t hf rfl rfl rfl) hS rfl rfl ?_)
     clear hf; intro a hf
     refine step_l (st_rd hf (Wn.none rfl) (rd_move hf rfl rfl) hS rfl rfl ?_)
     clear hf; intro a hf
     refine step_l (st_rd hf (Wn.some hf rfl rfl rfl rfl) (rd_fieldAddrB hf rfl rfl fb26_3 rfl) hS rfl rfl ?_)
     clear hf; intro a hf
     refine step_l (st_rd hf (Wn.some hf rfl rfl rfl rfl) (rd_load1 hf rfl rfl ag2 (by intro _ h; first | exact h.cell (by repeat (first | exact Sel.head | apply Sel.tail)) (by rfl))) hS rfl rfl ?_)
     clear hf; intro a hf
     refine step_l (st_rd hf (Wn.some hf rfl rfl rfl rfl) (rd_fieldAddrB hf rfl rfl fb26_3 rfl) hS rfl rfl ?_)
     clear hf; intro a hf
     refine step_l (st_rd hf (Wn.some hf rfl rfl rfl rfl) (rd_load1 hf rfl rfl ag2 (by intro _ h; first | exact h.cell (by repeat (first | exact Sel.head | apply Sel.tail)) (by rfl))) hS rfl rfl ?_)
     clear hf; intro a hf
     refine step_l (st_rdB hf (Wn.some hf rfl rfl rfl rfl) (rd_eql hf rfl rfl rfl) hS rfl rfl ?_ ?_)
     ·
      clear hf; intro hc6 a hf
      refine step_l (st_rd hf (Wn.none rfl) (rd_pick_t hf rfl rfl rfl) hS rfl rfl ?_)
      clear hf; intro a hf
      refine step_l (st_rd hf (Wn.none rfl) (rd_move hf rfl rfl) hS rfl rfl ?_)
      clear hf; intro a hf
      refine step_l (st_rd hf (Wn.some hf rfl rfl rfl rfl) (rd_fieldAddrB hf rfl rfl fb26_4 rfl) hS rfl rfl ?_)
      clear hf; intro a hf
      refine step_l (st_rd hf (Wn.some hf rfl rfl rfl rfl) (rd_load1 hf rfl rfl ag3 (by intro _ h; first | exact h.cell (by repeat (first | exact Sel.head | apply Sel.tail)) (by rfl))) hS rfl rfl ?_)
      clear hf; intro a hf
      refine step_l (st_rd hf (Wn.some hf rfl rfl rfl rfl) (rd_fieldAddrB hf rfl rfl fb26_4 rfl) hS rfl rfl ?_)
      clear hf; intro a hf
      refine step_l (st_rd hf (Wn.some hf rfl rfl rfl rfl) (rd_load1 hf rfl rfl ag3 (by intro _ h; first | exact h.cell (by repeat (first | exact Sel.head | apply Sel.tail)) (by rfl))) hS rfl rfl ?_)
      clear hf; intro a hf
      refine step_l (st_rdB hf (Wn.some hf rfl rfl rfl rfl) (rd_eql hf rfl rfl rfl) hS rfl rfl ?_ ?_)
      ·
       clear hf; intro hc7 a hf
       refine step_l (st_rd hf (Wn.none rfl) (rd_pick_t hf rfl rfl rfl) hS rfl rfl ?_)
       clear hf; intro a hf
       refine step_l (st_rd hf (Wn.none rfl) (rd_move hf rfl rfl) hS rfl rfl ?_)
       clear hf; intro a hf
       refine step_l (st_rd hf (Wn.some hf rfl rfl rfl rfl) (rd_fieldAddrB hf rfl rfl fb26_5 rfl) hS rfl rfl ?_)
       clear hf; intro a hf
       refine step_l (st_rd hf (Wn.some hf rfl rfl rfl rfl) (rd_load1 hf rfl rfl ag9 (by intro _ h; first | exact h.cell (by repeat (first | exact Sel.head | apply Sel.tail)) (by rfl))) hS rfl rfl ?_)
       clear hf; intro a hf
       refine step_l (st_rd hf (Wn.some hf rfl rfl rfl rfl) (rd_fieldAddrB hf rfl rfl fb26_5 rfl) hS rfl rfl ?_)
       clear hf; intro a hf
       refine step_l (st_rd hf (Wn.some hf rfl rfl rfl rfl) (rd_load1 hf rfl rfl ag9 (by intro _ h; first | exact h.cell (by repeat (first | exact Sel.head | apply Sel.tail)) (by rfl))) hS rfl rfl ?_)
       clear hf; intro a hf
       refine step_l (st_rdB hf (Wn.some hf rfl rfl rfl rfl) (rd_eqlS hf rfl rfl rfl) hS rfl rfl ?_ ?_)
       ·
        clear hf; intro hc8 a hf
        refine step_l (st_rd hf (Wn.none rfl) (rd_pick_t hf rfl rfl rfl) hS rfl rfl ?_)
        clear hf; intro a hf
        refine step_l (st_rd hf (Wn.none rfl) (rd_move hf rfl rfl) hS rfl rfl ?_)
        clear hf; intro a hf
        refine step_l (st_rd hf (Wn.some hf rfl rfl rfl rfl) (rd_fieldAddrB hf rfl rfl fb26_6 rfl) hS rfl rfl ?_)
        clear hf; intro a hf
        refine step_l (st_rd hf (Wn.some hf rfl rfl rfl rfl) (rd_load1 hf rfl rfl ag3 (by intro _ h; first | exact h.cell (by repeat (first | exact Sel.head | apply Sel.tail)) (by rfl))) hS rfl rfl ?_)
        clear hf; intro a hf
        refine step_l (st_rd hf (Wn.some hf rfl rfl rfl rfl) (rd_fieldAddrB hf rfl rfl fb26_6 rfl) hS rfl rfl ?_)
        clear hf; intro a hf
        refine step_l (st_rd hf (Wn.some hf rfl rfl rfl rfl) (rd_load1 hf rfl rfl ag3 (by intro _ h; first | exact h.cell (by repeat (first | exact Sel.head | apply Sel.tail)) (by rfl))) hS rfl rfl ?_)
        clear hf; intro a hf
        refine step_l (st_rdB hf (Wn.some hf rfl rfl rfl rfl) (rd_eql hf rfl rfl rfl) hS rfl rfl ?_ ?_)
        ·
         clear hf; intro hc9 a hf
         refine step_l (st_rd hf (Wn.none rfl) (rd_pick_t hf rfl rfl rfl) hS rfl rfl ?_)
         clear hf; intro a hf
         refine step_l (st_rd hf (Wn.none rfl) (rd_move hf rfl rfl) hS rfl rfl ?_)
         clear hf; intro a hf
         refine step_l (st_rd hf (Wn.some hf rfl rfl rfl rfl) (rd_fieldAddrB hf rfl rfl fb26_7 rfl) hS rfl rfl ?_)
         clear hf; intro a hf
         refine step_l (st_rd hf (Wn.some hf rfl rfl rfl rfl) (rd_load1 hf rfl rfl ag22 (by intro _ h; first | exact h.cell (by repeat (first | exact Sel.head | apply Sel.tail)) (by rfl))) hS rfl rfl ?_)
         clear hf; intro a hf
         refine step_l (st_rd hf (Wn.some hf rfl rfl rfl rfl) (rd_fieldAddrB hf rfl rfl fb26_7 rfl) hS rfl rfl ?_)
         clear hf; intro a hf
         refine step_l (st_rd hf (Wn.some hf rfl rfl rfl rfl) (rd_load1 hf rfl rfl ag22 (by intro _ h; first | exact h.cell (by repeat (first | exact Sel.head | apply Sel.tail)) (by rfl))) hS rfl rfl ?_)
         clear hf; intro a hf
         refine step_l (st_call hf (Wn.some hf rfl rfl rfl rfl) rfl rfl rfl fn29 (EfEntry_c _ _ _ _ _ _  hS (fun _ h => hve' _ (h.subA)) (fun _ h => hve2' _ (h.subA))) rfl rfl ?_)
         clear hf hS; rintro v a w ⟨rfl, hS⟩ hf
         first | refine split_dec (d := 61) hf rfl ?_ ?_ | refine split_bool (d := 61) hf rfl ?_ ?_
         ·
          clear hf; intro hc10 hf
          refine step_l (st_rd hf (Wn.none rfl) (rd_pick_t hf rfl rfl rfl) hS rfl rfl ?_)
          clear hf; intro a hf
          refine step_l (st_rd hf (Wn.none rfl) (rd_move hf rfl rfl) hS rfl rfl ?_)
          clear hf; intro a hf
          refine step_l (st_rd hf (Wn.some hf rfl rfl rfl rfl) (rd_fieldAddrB hf rfl rfl fb26_8 rfl) hS rfl rfl ?_)
          clear hf; intro a hf
          refine step_l (st_rd hf (Wn.some hf rfl rfl rfl rfl) (rd_load1 hf rfl rfl ag23 (by intro _ h; first | exact h.cell (by repeat (first | exact Sel.head | apply Sel.tail)) (by rfl))) hS rfl rfl ?_)
          clear hf; intro a hf
          refine step_l (st_rd hf (Wn.some hf rfl rfl rfl rfl) (rd_fieldAddrB hf rfl rfl fb26_8 rfl) hS rfl rfl ?_)
          clear hf; intro a hf
          refine step_l (st_rd hf (Wn.some hf rfl rfl rfl rfl) (rd_load1 hf rfl rfl ag23 (by intro _ h; first | exact h.cell (by repeat (first | exact Sel.head | apply Sel.tail)) (by rfl))) hS rfl rfl ?_)
          clear hf; intro a hf
          refine step_l (st_call hf (Wn.some hf rfl rfl rfl rfl) rfl rfl rfl fn31 (EfDigest_c _ _ _ _ _ _  hS (fun _ h => hvd' _ (h.subA)) (fun _ h => hvd2' _ (h.subA))) rfl rfl ?_)
          clear hf hS; rintro v a w ⟨rfl, hS⟩ hf
          first | refine split_dec (d := 68) hf rfl ?_ ?_ | refine split_bool (d := 68) hf rfl ?_ ?_
          ·
           clear hf; intro hc11 hf
           refine step_l (st_rd hf (Wn.none rfl) (rd_pick_t hf rfl rfl rfl) hS rfl rfl ?_)
           clear hf; intro a hf
           refine step_l (st_rd hf (Wn.none rfl) (rd_move hf rfl rfl) hS rfl rfl ?_)
           clear hf; intro a hf
           refine step_l (st_rd hf (Wn.some hf rfl rfl rfl rfl) (rd_fieldAddrB hf rfl rfl fb26_9 rfl) hS rfl rfl ?_)
           clear hf; intro a hf
           refine step_l (st_rd hf (Wn.some hf rfl rfl rfl rfl) (rd_load1 hf rfl rfl ag24 (by intro _ h; first | exact h.cell (by repeat (first | exact Sel.head | apply Sel.tail)) (by rfl))) hS rfl rfl ?_)
           clear hf; intro a hf
           refine step_l (st_rd hf (Wn.some hf rfl rfl rfl rfl) (rd_fieldAddrB hf rfl rfl fb26_9 rfl) hS rfl rfl ?_)
           clear hf; intro a hf
           refine step_l (st_rd hf (Wn.some hf rfl rfl rfl rfl) (rd_load1 hf rfl rfl ag24 (by intro _ h; first | exact h.cell (by repeat (first | exact Sel.head | apply Sel.tail)) (by rfl))) hS rfl rfl ?_)
           clear hf; intro a hf
           refine step_l (st_call hf (Wn.some hf rfl rfl rfl rfl) rfl rfl rfl fn33 (EqMem_c _ _ _ _ _ _  hS (fun _ h => hvm' _ (h.subA)) (fun _ h => hvm2' _ (h.subA))) rfl rfl ?_)
           clear hf hS; rintro v a w ⟨rfl, hS⟩ hf
           refine step_l (st_rd hf (Wn.none rfl) (rd_pick_t hf rfl rfl rfl) hS rfl rfl ?_)
           clear hf; intro a hf
           refine step_l (st_rd hf (Wn.none rfl) (rd_assign hf rfl rfl) hS rfl rfl ?_)
           clear hf; intro a hf
           refine done_l ?_
           refine t_normal ?_
           refine c_ret ?_
           refine e_res1 hf.defers rfl (res_tmp hf rfl .nil) ?_
           refine ⟨congrArg Value.bool ?_, hS.subA⟩
           clear hf hS
           first | exact (sameM_no hpl hpl2 (by intro e; injection e; contradiction)).symm | exact (sameM_last hpl hpl2 (show kd = kd2 by first | assumption | exact Classical.not_not.1 (by assumption)) (show fr = fr2 by first | assumption | exact Classical.not_not.1 (by assumption)) (show tn = tn2 by first | assumption | exact Classical.not_not.1 (by assumption)) (show op' = op2' by first | assumption | exact Classical.not_not.1 (by assumption)) (show fo' = fo2' by first | assumption | exact Classical.not_not.1 (by assumption)) (show ky' = ky2' by first | assumption | exact Classical.not_not.1 (by assumption)) (show bk' = bk2' by first | assumption | exact Classical.not_not.1 (by assumption)) (show es'.map pEnt = es2'.map pEnt by first | assumption | exact Classical.not_not.1 (by assumption)) (show ds'.map pDig = ds2'.map pDig by first | assumption | exact Classical.not_not.1 (by assumption))).symm
          clear hf; intro hc11 hf
          iterate 9 ((first | refine step_l (st_skip hf (Wn.some hf rfl rfl rfl rfl) rfl rfl ?_) | refine step_l (st_rd hf (Wn.none rfl) (rd_move hf rfl rfl) hS rfl rfl ?_) | refine step_l (st_rd hf (Wn.none rfl) (rd_assign hf rfl rfl) hS rfl rfl ?_) | refine step_l (st_rd hf (Wn.none rfl) (rd_pick_t hf rfl rfl rfl) hS rfl rfl ?_) | refine step_l (st_rd hf (Wn.none rfl) (rd_pick_f hf rfl rfl rfl) hS rfl rfl ?_)); clear hf; intro a hf)
          refine done_l ?_
          refine t_normal ?_
          refine c_ret ?_
          refine e_res1 hf.defers rfl (res_tmp hf rfl .nil) ?_
          refine ⟨congrArg Value.bool ?_, hS.subA⟩
          clear hf hS
          first | exact (sameM_no hpl hpl2 (by intro e; injection e; contradiction)).symm | exact (sameM_last hpl hpl2 (show kd = kd2 by first | assumption | exact Classical.not_not.1 (by assumption)) (show fr = fr2 by first | assumption | exact Classical.not_not.1 (by assumption)) (show tn = tn2 by first | assumption | exact Classical.not_not.1 (by assumption)) (show op' = op2' by first | assumption | exact Classical.not_not.1 (by assumption)) (show fo' = fo2' by first | assumption | exact Classical.not_not.1 (by assumption)) (show ky' = ky2' by first | assumption | exact Classical.not_not.1 (by assumption)) (show bk' = bk2' by first | assumption | exact Classical.not_not.1 (by assumption)) (show es'.map pEnt = es2'.map pEnt by first | assumption | exact Classical.not_not.1 (by assumption)) (show ds'.map pDig = ds2'.map pDig by first | assumption | exact Classical.not_not.1 (by assumption))).symm
         clear hf; intro hc10 hf
         iterate 16 ((first | refine step_l (st_skip hf (Wn.some hf rfl rfl rfl rfl) rfl rfl ?_) | refine step_l (st_rd hf (Wn.none rfl) (rd_move hf rfl rfl) hS rfl rfl ?_) | refine step_l (st_rd hf (Wn.none rfl) (rd_assign hf rfl rfl) hS rfl rfl ?_) | refine step_l (st_rd hf (Wn.none rfl) (rd_pick_t hf rfl rfl rfl) hS rfl rfl ?_) | refine step_l (st_rd hf (Wn.none rfl) (rd_pick_f hf rfl rfl rfl) hS rfl rfl ?_)); clear hf; intro a hf)
         refine done_l ?_
         refine t_normal ?_
         refine c_ret ?_
         refine e_res1 hf.defers rfl (res_tmp hf rfl .nil) ?_
         refine ⟨congrArg Value.bool ?_, hS.subA⟩
         clear hf hS
         first | exact (sameM_no hpl hpl2 (by intro e; injection e; contradiction)).symm | exact (sameM_last hpl hpl2 (show kd = kd2 by first | assumption | exact Classical.not_not.1 (by assumption)) (show fr = fr2 by first | assumption | exact Classical.not_not.1 (by assumption)) (show tn = tn2 by first | assumption | exact Classical.not_not.1 (by assumption)) (show op' = op2' by first | assumption | exact Classical.not_not.1 (by assumption)) (show fo' = fo2' by first | assumption | exact Classical.not_not.1 (by assumption)) (show ky' = ky2' by first | assumption | exact Classical.not_not.1 (by assumption)) (show bk' = bk2' by first | assumption | exact Classical.not_not.1 (by assumption)) (show es'.map pEnt = es2'.map pEnt by first | assumption | exact Classical.not_not.1 (by assumption)) (show ds'.map pDig = ds2'.map pDig by first | assumption | exact Classical.not_not.1 (by assumption))).symm
        clear hf; intro hc9 a hf
        iterate 23 ((first | refine step_l (st_skip hf (Wn.some hf rfl rfl rfl rfl) rfl rfl ?_) | refine step_l (st_rd hf (Wn.none rfl) (rd_move hf rfl rfl) hS rfl rfl ?_) | refine step_l (st_rd hf (Wn.none rfl) (rd_assign hf rfl rfl) hS rfl rfl ?_) | refine step_l (st_rd hf (Wn.none rfl) (rd_pick_t hf rfl rfl rfl) hS rfl rfl ?_) | refine step_l (st_rd hf (Wn.none rfl) (rd_pick_f hf rfl rfl rfl) hS rfl rfl ?_)); clear hf; intro a hf)
        refine done_l ?_
        refine t_normal ?_
        refine c_ret ?_
        refine e_res1 hf.defers rfl (res_tmp hf rfl .nil) ?_
        refine ⟨congrArg Value.bool ?_, hS.subA⟩
        clear hf hS
        first | exact (sameM_no hpl hpl2 (by intro e; injection e; contradiction)).symm | exact (sameM_last hpl hpl2 (show kd = kd2 by first | assumption | exact Classical.not_not.1 (by assumption)) (show fr = fr2 by first | assumption | exact Classical.not_not.1 (by assumption)) (show tn = tn2 by first | assumption | exact Classical.not_not.1 (by assumption)) (show op' = op2' by first | assumption | exact Classical.not_not.1 (by assumption)) (show fo' = fo2' by first | assumption | exact Classical.not_not.1 (by assumption)) (show ky' = ky2' by first | assumption | exact Classical.not_not.1 (by assumption)) (show bk' = bk2' by first | assumption | exact Classical.not_not.1 (by assumption)) (show es'.map pEnt = es2'.map pEnt by first | assumption | exact Classical.not_not.1 (by assumption)) (show ds'.map pDig = ds2'.map pDig by first | assumption | exact Classical.not_not.1 (by assumption))).symm
       clear hf; intro hc8 a hf
       iterate 30 ((first | refine step_l (st_skip hf (Wn.some hf rfl rfl rfl rfl) rfl rfl ?_) | refine step_l (st_rd hf (Wn.none rfl) (rd_move hf rfl rfl) hS rfl rfl ?_) | refine step_l (st_rd hf (Wn.none rfl) (rd_assign hf rfl rfl) hS rfl rfl ?_) | refine step_l (st_rd hf (Wn.none rfl) (rd_pick_t hf rfl rfl rfl) hS rfl rfl ?_) | refine step_l (st_rd hf (Wn.none rfl) (rd_pick_f hf rfl rfl rfl) hS rfl rfl ?_)); clear hf; intro a hf)
       refine done_l ?_
       refine t_normal ?_
       refine c_ret ?_
       refine e_res1 hf.defers rfl (res_tmp hf rfl .nil) ?_
       refine ⟨congrArg Value.bool ?_, hS.subA⟩
       clear hf hS
       first | exact (sameM_no hpl hpl2 (by intro e; injection e; contradiction)).symm | exact (sameM_last hpl hpl2 (show kd = kd2 by first | assumption | exact Classical.not_not.1 (by assumption)) (show fr = fr2 by first | assumption | exact Classical.not_not.1 (by assumption)) (show tn = tn2 by first | assumption | exact Classical.not_not.1 (by assumption)) (show op' = op2' by first | assumption | exact Classical.not_not.1 (by assumption)) (show fo' = fo2' by first | assumption | exact Classical.not_not.1 (by assumption)) (show ky' = ky2' by first | assumption | exact Classical.not_not.1 (by assumption)) (show bk' = bk2' by first | assumption | exact Classical.not_not.1 (by assumption)) (show es'.map pEnt = es2'.map pEnt by first | assumption | exact Classical.not_not.1 (by assumption)) (show ds'.map pDig = ds2'.map pDig by first | assumption | exact Classical.not_not.1 (by assumption))).symm
      clear hf; intro hc7 a hf
      iterate 37 ((first | refine step_l (st_skip hf (Wn.some hf rfl rfl rfl rfl) rfl rfl ?_) | refine step_l (st_rd hf (Wn.none rfl) (rd_move hf rfl rfl) hS rfl rfl ?_) | refine step_l (st_rd hf (Wn.none rfl) (rd_assign hf rfl rfl) hS rfl rfl ?_) | refine step_l (st_rd hf (Wn.none rfl) (rd_pick_t hf rfl rfl rfl) hS rfl rfl ?_) | refine step_l (st_rd hf (Wn.none rfl) (rd_pick_f hf rfl rfl rfl) hS rfl rfl ?_)); clear hf; intro a hf)
      refine done_l ?_
      refine t_normal ?_
      refine c_ret ?_
      refine e_res1 hf.defers rfl (res_tmp hf rfl .nil) ?_
      refine ⟨congrArg Value.bool ?_, hS.subA⟩
      clear hf hS
      first | exact (sameM_no hpl hpl2 (by intro e; injection e; contradiction)).symm | exact (sameM_last hpl hpl2 (show kd = kd2 by first | assumption | exact Classical.not_not.1 (by assumption)) (show fr = fr2 by first | assumption | exact Classical.not_not.1 (by assumption)) (show tn = tn2 by first | assumption | exact Classical.not_not.1 (by assumption)) (show op' = op2' by first | assumption | exact Classical.not_not.1 (by assumption)) (show fo' = fo2' by first | assumption | exact Classical.not_not.1 (by assumption)) (show ky' = ky2' by first | assumption | exact Classical.not_not.1 (by assumption)) (show bk' = bk2' by first | assumption | exact Classical.not_not.1 (by assumption)) (show es'.map pEnt = es2'.map pEnt by first | assumption | exact Classical.not_not.1 (by assumption)) (show ds'.map pDig = ds2'.map pDig by first | assumption | exact Classical.not_not.1 (by assumption))).symm
     clear hf; intro hc6 a hf
     iterate 44 ((first | refine step_l (st_skip hf (Wn.some hf rfl rfl rfl rfl) rfl rfl ?_) | refine step_l (st_rd hf (Wn.none rfl) (rd_move hf rfl rfl) hS rfl rfl ?_) | refine step_l (st_rd hf (Wn.none rfl) (rd_assign hf rfl rfl) hS rfl rfl ?_) | refine step_l (st_rd hf (Wn.none rfl) (rd_pick_t hf rfl rfl rfl) hS rfl rfl ?_) | refine step_l (st_rd hf (Wn.none rfl) (rd_pick_f hf rfl rfl rfl) hS rfl rfl ?_)); clear hf; intro a hf)
     refine done_l ?_
     refine t_normal ?_
     refine c_ret ?_
     refine e_res1 hf.defers rfl (res_tmp hf rfl .nil) ?_
     refine ⟨congrArg Value.bool ?_, hS.subA⟩
     clear hf hS
     first | exact (sameM_no hpl hpl2 (by intro e; injection e; contradiction)).symm | exact (sameM_last hpl hpl2 (show kd = kd2 by first | assumption | exact Classical.not_not.1 (by assumption)) (show fr = fr2 by first | assumption | exact Classical.not_not.1 (by assumption)) (show tn = tn2 by first | assumption | exact Classical.not_not.1 (by assumption)) (show op' = op2' by first | assumption | exact Classical.not_not.1 (by assumption)) (show fo' = fo2' by first | assumption | exact Classical.not_not.1 (by assumption)) (show ky' = ky2' by first | assumption | exact Classical.not_not.1 (by assumption)) (show bk' = bk2' by first | assumption | exact Classical.not_not.1 (by assumption)) (show es'.map pEnt = es2'.map pEnt by first | assumption | exact Classical.not_not.1 (by assumption)) (show ds'.map pDig = ds2'.map pDig by first | assumption | exact Classical.not_not.1 (by assumption))).symm
    clear hf; intro hc5 a hf
    iterate 51 ((first | refine step_l (st_skip hf (Wn.some hf rfl rfl rfl rfl) rfl rfl ?_) | refine step_l (st_rd hf (Wn.none rfl) (rd_move hf rfl rfl) hS rfl rfl ?_) | refine step_l (st_rd hf (Wn.none rfl) (rd_assign hf rfl rfl) hS rfl rfl ?_) | refine step_l (st_rd hf (Wn.none rfl) (rd_pick_t hf rfl rfl rfl) hS rfl rfl ?_) | refine step_l (st_rd hf (Wn.none rfl) (rd_pick_f hf rfl rfl rfl) hS rfl rfl ?_)); clear hf; intro a hf)
    refine done_l ?_
    refine t_normal ?_
    refine c_ret ?_
    refine e_res1 hf.defers rfl (res_tmp hf rfl .nil) ?_
    refine ⟨congrArg Value.bool ?_, hS.subA⟩
    clear hf hS
    first | exact (sameM_no hpl hpl2 (by intro e; injection e; contradiction)).symm | exact (sameM_last hpl hpl2 (show kd = kd2 by first | assumption | exact Classical.not_not.1 (by assumption)) (show fr = fr2 by first | assumption | exact Classical.not_not.1 (by assumption)) (show tn = tn2 by first | assumption | exact Classical.not_not.1 (by assumption)) (show op' = op2' by first | assumption | exact Classical.not_not.1 (by assumption)) (show fo' = fo2' by first | assumption | exact Classical.not_not.1 (by assumption)) (show ky' = ky2' by first | assumption | exact Classical.not_not.1 (by assumption)) (show bk' = bk2' by first | assumption | exact Classical.not_not.1 (by assumption)) (show es'.map pEnt = es2'.map pEnt by first | assumption | exact Classical.not_not.1 (by assumption)) (show ds'.map pDig = ds2'.map pDig by first | assumption | exact Classical.not_not.1 (by assumption))).symm
   clear hf; intro hc4 a hf
   iterate 58 ((first | refine step_l (st_skip hf (Wn.some hf rfl rfl rfl rfl) rfl rfl ?_) | refine step_l (st_rd hf (Wn.none rfl) (rd_move hf rfl rfl) hS rfl rfl ?_) | refine step_l (st_rd hf (Wn.none rfl) (rd_assign hf rfl rfl) hS rfl rfl ?_) | refine step_l (st_rd hf (Wn.none rfl) (rd_pick_t hf rfl rfl rfl) hS rfl rfl ?_) | refine step_l (st_rd hf (Wn.none rfl) (rd_pick_f hf rfl rfl rfl) hS rfl rfl ?_)); clear hf; intro a hf)
   refine done_l ?_
   refine t_normal ?_
   refine c_ret ?_
   refine e_res1 hf.defers rfl (res_tmp hf rfl .nil) ?_
   refine ⟨congrArg Value.bool ?_, hS.subA⟩
   clear hf hS
   first | exact (sameM_no hpl hpl2 (by intro e; injection e; contradiction)).symm | exact (sameM_last hpl hpl2 (show kd = kd2 by first | assumption | exact Classical.not_not.1 (by assumption)) (show fr = fr2 by first | assumption | exact Classical.not_not.1 (by assumption)) (show tn = tn2 by first | assumption | exact Classical.not_not.1 (by assumption)) (show op' = op2' by first | assumption | exact Classical.not_not.1 (by assumption)) (show fo' = fo2' by first | assumption | exact Classical.not_not.1 (by assumption)) (show ky' = ky2' by first | assumption | exact Classical.not_not.1 (by assumption)) (show bk' = bk2' by first | assumption | exact Classical.not_not.1 (by assumption)) (show es'.map pEnt = es2'.map pEnt by first | assumption | exact Classical.not_not.1 (by assumption)) (show ds'.map pDig = ds2'.map pDig by first | assumption | exact Classical.not_not.1 (by assumption))).symm
  clear hf; intro hc3 a hf
  iterate 64 ((first | refine step_l (st_skip hf (Wn.some hf rfl rfl rfl rfl) rfl rfl ?_) | refine step_l (st_rd hf (Wn.none rfl) (rd_move hf rfl rfl) hS rfl rfl ?_) | refine step_l (st_rd hf (Wn.none rfl) (rd_assign hf rfl rfl) hS rfl rfl ?_) | refine step_l (st_rd hf (Wn.none rfl) (rd_pick_f hf rfl rfl rfl) hS rfl rfl ?_)); clear hf; intro a hf)
  refine done_l ?_
  refine t_normal ?_
  refine c_ret ?_
  refine e_res1 hf.defers rfl (res_tmp hf rfl .nil) ?_
  refine ⟨congrArg Value.bool ?_, hS.subA⟩
  clear hf hS
  first | exact (sameM_no hpl hpl2 (by intro e; injection e; contradiction)).symm | exact (sameM_last hpl hpl2 (show kd = kd2 by first | assumption | exact Classical.not_not.1 (by assumption)) (show fr = fr2 by first | assumption | exact Classical.not_not.1 (by assumption)) (show tn = tn2 by first | assumption | exact Classical.not_not.1 (by assumption)) (show op' = op2' by first | assumption | exact Classical.not_not.1 (by assumption)) (show fo' = fo2' by first | assumption | exact Classical.not_not.1 (by assumption)) (show ky' = ky2' by first | assumption | exact Classical.not_not.1 (by assumption)) (show bk' = bk2' by first | assumption | exact Classical.not_not.1 (by assumption)) (show es'.map pEnt = es2'.map pEnt by first | assumption | exact Classical.not_not.1 (by assumption)) (show ds'.map pDig = ds2'.map pDig by first | assumption | exact Classical.not_not.1 (by assumption))).symm

end Go.Proofs.Ytglmimbfelakbaa
