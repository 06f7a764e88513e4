/-
  Walked: Mlaw.
  Conditions: none.
-/
import Derived.Test.YtglmimbfelakbaaGreatEnc1
namespace Go.Proofs.YtglmimbfelakbaaGreat
open Go Go.Sl
set_option linter.unusedVariables false
set_option linter.unusedSimpArgs false

theorem light_c (kd fr tn op fo : Int) (ky : List UInt8) (bk : Int) (es : List EntT) (qe : Option Addr) (ce : Nat) (ds : List DigT) (qd : Option Addr) (cd : Nat) (ms : List MemT) (qm : Option Addr) (cm : Nat) {W : World} {R : List HP} {w : World} (hS : Sat W (R) w) (hve : ∀ w, Sat W R w → EntsAt w (qe, ce, es)) (hvd : ∀ w, Sat W R w → DigsAt w (qd, cd, ds)) (hvm : ∀ w, Sat W R w → DotsAt w (qm, cm, ms)) (hle : es.length ≤ 9223372036854775806) (hld : ds.length ≤ 9223372036854775806) (hlm : ms.length ≤ 9223372036854775806) : Calls Tryz.prog 4 [.agg #[.int .i64 kd, .int .i64 fr, .int .i64 tn, .int .i64 op, .int .i64 fo, .string (str ky), .int .i64 bk, .slice qe es.length ce, .slice qd ds.length cd, .slice qm ms.length cm]].toArray w (Ret fun v w' => ∃ bb : Bool, v = .bool bb ∧ (bb = true → es.length ≤ 20 ∧ ds.length ≤ 20 ∧ ms.length ≤ 20) ∧ Sat W R w') := by
 refine fn_start 48 Tryz.func4 rfl rfl rfl ?_
 intro a hf
 refine c_seq (c_region ?_)
 refine step_l (st_box hf (Wn.none rfl) hS rfl rfl (by rfl) rfl rfl ?_)
 clear hf hS; intro b_m a w hf hS
 refine aN hf hS ?_; clear hf; intro a hf
 refine done_l (t_normal (c_seq (c_seq (c_region ?_))))
 refine fA hf hS fb26_7 ?_; clear hf; intro a hf
 refine sR hf hS (rd_ld hf ag22) ?_; clear hf; intro a hf
 refine sR hf hS (rd_len hf rfl rfl Tryz.underlying22) ?_; clear hf; intro a hf
 refine sB hf hS (rd_gtr hf rfl rfl rfl) ?_ ?_
 ·
  clear hf; intro hc2 a hf
  iterate 12 ((first | refine kS hf ?_ | refine mN hf hS ?_ | refine pT hf hS ?_); clear hf; intro a hf)
  refine done_l (t_normal ?_)
  refine c_true hf rfl ?_
  refine c_seq (c_region ?_)
  refine aN hf hS ?_; clear hf; intro a hf
  refine done_l (t_normal (c_ret (t_ret ?_)))
  refine eT hf ?_
  first
  | exact ⟨_, rfl, fun _ => ⟨by omega, by omega, by omega⟩, hS.subA⟩
  | exact ⟨_, rfl, fun h => Bool.noConfusion h, hS.subA⟩
 clear hf; intro hc2 a hf
 refine mN hf hS ?_; clear hf; intro a hf
 refine fG hf hS fb26_8 ?_; clear hf; intro a hf
 refine sG hf hS (rd_ld hf ag23) ?_; clear hf; intro a hf
 refine sG hf hS (rd_len hf rfl rfl Tryz.underlying23) ?_; clear hf; intro a hf
 refine step_l (st_rdB hf (Wn.some hf rfl rfl rfl rfl) (rd_gtr hf rfl rfl rfl) hS rfl rfl ?_ ?_)
 ·
  clear hf; intro hc3 a hf
  iterate 7 ((first | refine kS hf ?_ | refine mN hf hS ?_ | refine pT hf hS ?_ | refine pF hf hS ?_); clear hf; intro a hf)
  refine done_l (t_normal ?_)
  refine c_true hf rfl ?_
  refine c_seq (c_region ?_)
  refine aN hf hS ?_; clear hf; intro a hf
  refine done_l (t_normal (c_ret (t_ret ?_)))
  refine eT hf ?_
  first
  | exact ⟨_, rfl, fun _ => ⟨by omega, by omega, by omega⟩, hS.subA⟩
  | exact ⟨_, rfl, fun h => Bool.noConfusion h, hS.subA⟩
 clear hf; intro hc3 a hf
 iterate 2 ((first | refine mN hf hS ?_ | refine pF hf hS ?_); clear hf; intro a hf)
 refine fG hf hS fb26_9 ?_; clear hf; intro a hf
 refine sG hf hS (rd_ld hf ag24) ?_; clear hf; intro a hf
 refine sG hf hS (rd_len hf rfl rfl Tryz.underlying24) ?_; clear hf; intro a hf
 refine step_l (st_rdB hf (Wn.some hf rfl rfl rfl rfl) (rd_gtr hf rfl rfl rfl) hS rfl rfl ?_ ?_)
 ·
  clear hf; intro hc4 a hf
  refine pF hf hS ?_; clear hf; intro a hf
  refine done_l (t_normal ?_)
  refine c_true hf rfl ?_
  refine c_seq (c_region ?_)
  refine aN hf hS ?_; clear hf; intro a hf
  refine done_l (t_normal (c_ret (t_ret ?_)))
  refine eT hf ?_
  first
  | exact ⟨_, rfl, fun _ => ⟨by omega, by omega, by omega⟩, hS.subA⟩
  | exact ⟨_, rfl, fun h => Bool.noConfusion h, hS.subA⟩
 clear hf; intro hc4 a hf
 refine pF hf hS ?_; clear hf; intro a hf
 refine done_l (t_normal ?_)
 refine c_false hf rfl ?_
 refine c_skip (t_normal (c_seq (c_seq (c_region ?_))))
 refine fA hf hS fb26_7 ?_; clear hf; intro a hf
 refine sR hf hS (rd_ld hf ag22) ?_; clear hf; intro a hf
 refine sR hf hS (rd_len hf rfl rfl Tryz.underlying22) ?_; clear hf; intro a hf
 refine mN hf hS ?_; clear hf; intro a hf
 refine done_l (t_normal (c_block ?_))
 have hk0 := Keep.ofA hf [(2, 2), (4, 4), (26, 35)]
 refine c_loopK hk0 (α := Nat) (fun k => [(26, .int .i64 (k : Nat))]) (fun k w => Sat W (Blk b_m [.int .i64 kd, .int .i64 fr, .int .i64 tn, .int .i64 op, .int .i64 fo, .string (str ky), .int .i64 bk, .slice qe es.length ce, .slice qd ds.length cd, .slice qm ms.length cm] 26 :: R) w ∧ k ≤ es.length) (fun k => es.length - k) 0 ((hf.keep hk0).kb hf 26 rfl (by first | rfl | exact int_eq (by omega))) ⟨hS.subA, by omega⟩ ?_
 clear hf hS; rintro k a w hf ⟨hS, hk⟩; (try dsimp only [List.cons_append, List.nil_append] at hf)
 refine c_seq (c_region ?_)
 refine sB hf hS (rd_lss hf rfl rfl rfl) ?_ ?_
 ·
  clear hf; intro hc5 a hf
  obtain ⟨x, hget⟩ := get_of_lt (l := es) (k := k) (by omega) rfl; obtain ⟨ad, rfl⟩ := (hve _ (hS.subA)).some (by omega); have h8 := ((hve _ (hS.subA)).in hget).1; have hvx := fun w h => ((hve w h).in hget).2; obtain ⟨kyx, ⟨seen, ⟨xq, xc, xs⟩, _⟩, _⟩ := x; obtain ⟨s0, s1, s2, s3, s4, s5, s6, s7, rfl⟩ := len8 h8
  refine done_l (t_normal (c_seq ?_))
  refine c_true hf rfl ?_
  refine c_skip (t_normal (c_seq (c_block (c_seq (c_region ?_)))))
  refine sR hf hS ((by first | exact rd_indexAddrN hf rfl rfl rfl Tryz.underlying22 sz46 (by omega) | exact rd_indexAddr hf rfl rfl rfl Tryz.underlying22 sz46 (by first | decide | omega) (by omega))) ?_; clear hf; intro a hf
  refine sR hf hS (rd_loadN hf rfl rfl ag46 sz46 (by intro _ h; exact (show AggAt _ _ _ [.string (str kyx), .int .i64 s0, .int .i64 s1, .int .i64 s2, .int .i64 s3, .int .i64 s4, .int .i64 s5, .int .i64 s6, .int .i64 s7, .slice xq xs.length xc] from (hve _ (h.subA)).el hget))) ?_; clear hf; intro a hf
  refine sA hf hS zr46 ?_
  clear hf hS; intro b_e a w hf hS
  refine sS hf hS sz46 ?_
  clear hf hS; intro a w hf hS
  refine done_l (t_normal (c_seq (c_region ?_)))
  refine fA hf hS fb46_1 ?_; clear hf; intro a hf
  refine fA hf hS fb44_1 ?_; clear hf; intro a hf
  refine sR hf hS (rd_ld hf ag42) ?_; clear hf; intro a hf
  refine sR hf hS (rd_len hf rfl rfl Tryz.underlying42) ?_; clear hf; intro a hf
  refine sB hf hS (rd_gtr hf rfl rfl rfl) ?_ ?_
  ·
   clear hf; intro hc7 a hf
   refine done_l (t_normal ?_)
   refine c_true hf rfl ?_
   refine c_seq (c_region ?_)
   refine aN hf hS ?_; clear hf; intro a hf
   refine done_l (t_normal (c_ret (b_ret (t_ret (t_ret (b_ret (t_ret ?_)))))))
   refine eT hf ?_
   first
   | exact ⟨_, rfl, fun _ => ⟨by omega, by omega, by omega⟩, hS.subA⟩
   | exact ⟨_, rfl, fun h => Bool.noConfusion h, hS.subA⟩
  clear hf; intro hc7 a hf
  refine done_l (t_normal ?_)
  refine c_false hf rfl ?_
  refine c_skip (b_normal (t_normal (c_region ?_)))
  refine sP hf hS ?_; clear hf; intro a hf
  refine mN hf hS ?_; clear hf; intro a hf
  refine done_l ?_
  refine t_normal ⟨k + 1, ((hf.backA hk0).kb hf 26 rfl (by first | rfl | exact int_eq (by omega))), ⟨hS.subA, by omega⟩, by first | omega | (simp only []; omega)⟩
 clear hf; intro hc5 a hf
 obtain rfl : k = es.length := by omega
 refine done_l (t_normal (c_seq ?_))
 refine c_false hf rfl ?_
 refine c_exit (t_exit (t_exit (b_exit (t_normal (c_seq (c_seq (c_region ?_)))))))
 refine fA hf hS fb26_8 ?_; clear hf; intro a hf
 refine sR hf hS (rd_ld hf ag23) ?_; clear hf; intro a hf
 refine sR hf hS (rd_len hf rfl rfl Tryz.underlying23) ?_; clear hf; intro a hf
 refine mN hf hS ?_; clear hf; intro a hf
 refine done_l (t_normal (c_block ?_))
 have hk1 := Keep.ofA hf [(2, 2), (6, 6), (39, 47)]
 refine c_loopK hk1 (α := Nat) (fun k => [(39, .int .i64 (k : Nat))]) (fun k w => Sat W (Blk b_m [.int .i64 kd, .int .i64 fr, .int .i64 tn, .int .i64 op, .int .i64 fo, .string (str ky), .int .i64 bk, .slice qe es.length ce, .slice qd ds.length cd, .slice qm ms.length cm] 26 :: R) w ∧ k ≤ ds.length) (fun k => ds.length - k) 0 ((hf.keep hk1).kb hf 39 rfl (by first | rfl | exact int_eq (by omega))) ⟨hS.subA, by omega⟩ ?_
 clear hf hS; rintro k a w hf ⟨hS, hk⟩; (try dsimp only [List.cons_append, List.nil_append] at hf)
 refine c_seq (c_region ?_)
 refine sB hf hS (rd_lss hf rfl rfl rfl) ?_ ?_
 ·
  clear hf; intro hc8 a hf
  obtain ⟨x, hget⟩ := get_of_lt (l := ds) (k := k) (by omega) rfl; obtain ⟨ad, rfl⟩ := (hvd _ (hS.subA)).some (by omega); have h8 := ((hvd _ (hS.subA)).in hget).1; have hvx := fun w h => ((hvd w h).in hget).2; obtain ⟨kyx, seen, ⟨xq, xc, xs⟩, _⟩ := x; obtain ⟨s0, s1, s2, s3, s4, s5, s6, s7, rfl⟩ := len8 h8
  refine done_l (t_normal (c_seq ?_))
  refine c_true hf rfl ?_
  refine c_skip (t_normal (c_seq (c_block (c_seq (c_region ?_)))))
  refine sR hf hS ((by first | exact rd_indexAddrN hf rfl rfl rfl Tryz.underlying23 sz49 (by omega) | exact rd_indexAddr hf rfl rfl rfl Tryz.underlying23 sz49 (by first | decide | omega) (by omega))) ?_; clear hf; intro a hf
  refine sR hf hS (rd_loadN hf rfl rfl ag49 sz49 (by intro _ h; exact (show AggAt _ _ _ [.string (str kyx), .int .i64 s0, .int .i64 s1, .int .i64 s2, .int .i64 s3, .int .i64 s4, .int .i64 s5, .int .i64 s6, .int .i64 s7, .slice xq xs.length xc] from (hvd _ (h.subA)).el hget))) ?_; clear hf; intro a hf
  refine sA hf hS zr49 ?_
  clear hf hS; intro b_d a w hf hS
  refine sS hf hS sz49 ?_
  clear hf hS; intro a w hf hS
  refine done_l (t_normal (c_seq (c_region ?_)))
  refine fA hf hS fb49_2 ?_; clear hf; intro a hf
  refine sR hf hS (rd_ld hf ag47) ?_; clear hf; intro a hf
  refine sR hf hS (rd_len hf rfl rfl Tryz.underlying47) ?_; clear hf; intro a hf
  refine sB hf hS (rd_gtr hf rfl rfl rfl) ?_ ?_
  ·
   clear hf; intro hc10 a hf
   refine done_l (t_normal ?_)
   refine c_true hf rfl ?_
   refine c_seq (c_region ?_)
   refine aN hf hS ?_; clear hf; intro a hf
   refine done_l (t_normal (c_ret (b_ret (t_ret (t_ret (b_ret (t_ret ?_)))))))
   refine eT hf ?_
   first
   | exact ⟨_, rfl, fun _ => ⟨by omega, by omega, by omega⟩, hS.subA⟩
   | exact ⟨_, rfl, fun h => Bool.noConfusion h, hS.subA⟩
  clear hf; intro hc10 a hf
  refine done_l (t_normal ?_)
  refine c_false hf rfl ?_
  refine c_skip (b_normal (t_normal (c_region ?_)))
  refine sP hf hS ?_; clear hf; intro a hf
  refine mN hf hS ?_; clear hf; intro a hf
  refine done_l ?_
  refine t_normal ⟨k + 1, ((hf.backA hk1).kb hf 39 rfl (by first | rfl | exact int_eq (by omega))), ⟨hS.subA, by omega⟩, by first | omega | (simp only []; omega)⟩
 clear hf; intro hc8 a hf
 obtain rfl : k = ds.length := by omega
 refine done_l (t_normal (c_seq ?_))
 refine c_false hf rfl ?_
 refine c_exit (t_exit (t_exit (b_exit (t_normal (c_seq (c_region ?_))))))
 refine aN hf hS ?_; clear hf; intro a hf
 refine done_l (t_normal (c_ret ?_))
 refine eT hf ?_
 first
 | exact ⟨_, rfl, fun _ => ⟨by omega, by omega, by omega⟩, hS.subA⟩
 | exact ⟨_, rfl, fun h => Bool.noConfusion h, hS.subA⟩

theorem awake_c  {W : World} {R : List HP} {w : World} (hS : Sat W (R) w)  : Calls Tryz.prog 5 [].toArray w (Ret fun v w' => v = .bool true ∧ Sat W R w') := by
 refine fn_start 27 Tryz.func5 rfl rfl rfl ?_
 intro a hf
 refine c_seq (c_region ?_)
 refine aN hf hS ?_; clear hf; intro a hf
 refine done_l (t_normal (c_seq (c_region ?_)))
 refine sR hf hS (rd_build hf rfl rfl zr26 (by rfl) pl26 (.cons rfl (by first | rfl) (by rfl) (by repeat (first | exact Put.nil | apply Put.cons | apply Put.succ)) (.cons rfl (by first | rfl) (by rfl) (by repeat (first | exact Put.nil | apply Put.cons | apply Put.succ)) (.cons rfl (by first | rfl) (by rfl) (by repeat (first | exact Put.nil | apply Put.cons | apply Put.succ)) (.cons rfl (by first | rfl) (by rfl) (by repeat (first | exact Put.nil | apply Put.cons | apply Put.succ)) (.cons rfl (by first | rfl) (by rfl) (by repeat (first | exact Put.nil | apply Put.cons | apply Put.succ)) .nil)))))) ?_; clear hf; intro a hf
 refine step_l (st_call hf (Wn.none rfl) rfl rfl rfl fn10 (Enc_c 4 1 2 3 0 [97] 0 [] none 0 [] none 0 [] none 0 hS (fun w _ => EntsAt.nil w) (fun w _ => DigsAt.nil w) (fun w _ => DotsAt.nil w) (by decide) (by decide) (by decide)) rfl rfl ?_)
 clear hf hS; rintro v a w ⟨qe, cape, rfl, hS⟩ hf; have e1 : encB (⟨4, 1, 2, 3, 0, [97], 0, List.map pEnt [], List.map pDig [], List.map pDot []⟩ : PMsg) = _ := awake_b; have e2 : encE (⟨4, 1, 2, 3, 0, [97], 0, List.map pEnt [], List.map pDig [], List.map pDot []⟩ : PMsg) = _ := awake_e; rw [e1, e2] at hf; rw [e1] at hS; obtain ⟨ad, rfl⟩ := (hS.slOfRw (by repeat (first | exact Sel.head | apply Sel.tail))).some (by decide)
 refine mN hf hS ?_; clear hf; intro a hf
 refine sR hf hS (rd_extract hf rfl rfl rfl) ?_; clear hf; intro a hf
 refine sR hf hS (rd_extract hf rfl rfl rfl) ?_; clear hf; intro a hf
 iterate 2 (refine aN hf hS ?_; clear hf; intro a hf)
 refine done_l (t_normal (c_seq (c_region ?_)))
 refine mN hf hS ?_; clear hf; intro a hf
 refine sB hf hS (rd_eql hf rfl rfl rfl) ?_ ?_
 ·
  clear hf; intro hc1 a hf
  first
  | (first | exact Bool.noConfusion hc1 | exact absurd rfl hc1; done)
  | (
   iterate 2 ((first | refine mN hf hS ?_ | refine step_l (st_rd hf (Wn.some hf rfl rfl rfl rfl) (rd_move hf rfl rfl) hS rfl rfl ?_)); clear hf; intro a hf)
   refine sG hf hS (rd_len hf rfl rfl Tryz.underlying28) ?_; clear hf; intro a hf
   refine step_l (st_rdB hf (Wn.some hf rfl rfl rfl rfl) (rd_eql hf rfl rfl rfl) hS rfl rfl ?_ ?_)
   ·
    clear hf; intro hc2 a hf
    first
    | (first | exact Bool.noConfusion hc2 | exact absurd rfl hc2; done)
    | (
     iterate 3 ((first | refine mN hf hS ?_ | refine step_l (st_rd hf (Wn.some hf rfl rfl rfl rfl) (rd_move hf rfl rfl) hS rfl rfl ?_) | refine pT hf hS ?_); clear hf; intro a hf)
     refine sG hf hS ((by first | exact rd_indexAddrN1 hf rfl rfl rfl Tryz.underlying28 sz5 (by decide) | exact rd_indexAddr hf rfl rfl rfl Tryz.underlying28 sz5 (by first | decide | omega) (by decide))) ?_; clear hf; intro a hf
     refine sG hf hS (rd_load1 hf rfl rfl ag5 (by intro _ h; exact (h.slOfRw (by repeat (first | exact Sel.head | apply Sel.tail))).get (j := 3) rfl)) ?_; clear hf; intro a hf
     refine step_l (st_rdB hf (Wn.some hf rfl rfl rfl rfl) (rd_eql hf rfl rfl rfl) hS rfl rfl ?_ ?_)
     ·
      clear hf; intro hc3 a hf
      first
      | (first | exact Bool.noConfusion hc3 | exact absurd rfl hc3; done)
      | (
       iterate 3 ((first | refine mN hf hS ?_ | refine step_l (st_rd hf (Wn.some hf rfl rfl rfl rfl) (rd_move hf rfl rfl) hS rfl rfl ?_) | refine pT hf hS ?_); clear hf; intro a hf)
       refine sG hf hS ((by first | exact rd_indexAddrN1 hf rfl rfl rfl Tryz.underlying28 sz5 (by decide) | exact rd_indexAddr hf rfl rfl rfl Tryz.underlying28 sz5 (by first | decide | omega) (by decide))) ?_; clear hf; intro a hf
       refine sG hf hS (rd_load1 hf rfl rfl ag5 (by intro _ h; exact (h.slOfRw (by repeat (first | exact Sel.head | apply Sel.tail))).get (j := 5) rfl)) ?_; clear hf; intro a hf
       refine sG hf hS (rd_eql hf rfl rfl rfl) ?_; clear hf; intro a hf
       iterate 2 ((first | refine aN hf hS ?_ | refine pT hf hS ?_); clear hf; intro a hf)
       refine done_l (t_normal (c_ret ?_))
       refine eT hf ?_
       exact ⟨rfl, hS.subA⟩
       )
     clear hf; intro hc3 a hf
     first
     | (first | exact Bool.noConfusion hc3 | exact absurd rfl hc3; done)
     | (
      iterate 8 ((first | refine kS hf ?_ | refine mN hf hS ?_ | refine aN hf hS ?_ | refine pT hf hS ?_ | refine pF hf hS ?_); clear hf; intro a hf)
      refine done_l (t_normal (c_ret ?_))
      refine eT hf ?_
      exact ⟨rfl, hS.subA⟩
      )
     )
   clear hf; intro hc2 a hf
   first
   | (first | exact Bool.noConfusion hc2 | exact absurd rfl hc2; done)
   | (
    iterate 14 ((first | refine kS hf ?_ | refine mN hf hS ?_ | refine aN hf hS ?_ | refine pT hf hS ?_ | refine pF hf hS ?_); clear hf; intro a hf)
    refine done_l (t_normal (c_ret ?_))
    refine eT hf ?_
    exact ⟨rfl, hS.subA⟩
    )
   )
 clear hf; intro hc1 a hf
 first
 | (first | exact Bool.noConfusion hc1 | exact absurd rfl hc1; done)
 | (
  iterate 18 ((first | refine kS hf ?_ | refine mN hf hS ?_ | refine aN hf hS ?_ | refine pF hf hS ?_); clear hf; intro a hf)
  refine done_l (t_normal (c_ret ?_))
  refine eT hf ?_
  exact ⟨rfl, hS.subA⟩
  )

end Go.Proofs.YtglmimbfelakbaaGreat
