/-
  Walked: few parts, the same.
  Conditions: none.
-/
import Derived.Test.YtcflbdpjoanbgaaGreatNla1
import Derived.Test.YtcflbdpjoanbgaaGreatRSam1
import Derived.Test.YtcflbdpjoanbgaaGreatNt3
namespace Go.Proofs.YtcflbdpjoanbgaaGreat
open Go Go.Sl
set_option linter.unusedVariables false
set_option linter.unusedSimpArgs false
theorem fn11 : fnB Tryz.prog 11 = true := by kernel_rfl
theorem light_c (kd fr tn op fo : Int) (ky : List UInt8) (bk : Int) (es : List EntT) (qe : Option Addr) (ce : Nat) (ds : List DigT) (qd : Option Addr) (cd : Nat) (ms : List MemT) (qm : Option Addr) (cm : Nat) {W : World} {R : List HP} {w : World} (hS : Sat W (R) w) (hve : ∀ w, Sat W R w → EntsAt w (qe, ce, es)) (hvd : ∀ w, Sat W R w → DigsAt w (qd, cd, ds)) (hvm : ∀ w, Sat W R w → DotsAt w (qm, cm, ms)) (hle : es.length ≤ 9223372036854775806) (hld : ds.length ≤ 9223372036854775806) (hlm : ms.length ≤ 9223372036854775806) : Calls Tryz.prog 5 [.agg #[.int .i64 kd, .int .i64 fr, .int .i64 tn, .int .i64 op, .int .i64 fo, .string (str ky), .int .i64 bk, .slice qe es.length ce, .slice qd ds.length cd, .slice qm ms.length cm]].toArray w (Ret fun v w' => ∃ bb : Bool, v = .bool bb ∧ (bb = true → es.length ≤ 5 ∧ ds.length ≤ 5) ∧ Sat W R w') := by
 refine fn_start 48 Tryz.func5 rfl rfl rfl ?_
 intro a hf
 refine c_seq (c_region ?_)
 refine step_l (st_box hf (Wn.none rfl) hS rfl rfl (by rfl) rfl rfl ?_)
 clear hf hS; intro b_m a w hf hS
 refine aN hf hS ?_; clear hf; intro a hf
 refine done_l (t_normal (c_seq (c_seq (c_region ?_))))
 refine fA hf hS fb32_7 ?_; clear hf; intro a hf
 refine sR hf hS (rd_ld hf ag28) ?_; clear hf; intro a hf
 refine sR hf hS (rd_len hf rfl rfl Tryz.underlying28) ?_; clear hf; intro a hf
 refine sB hf hS (rd_gtr hf rfl rfl rfl) ?_ ?_
 ·
  clear hf; intro hc2 a hf
  iterate 12 ((first | refine kS hf ?_ | refine mN hf hS ?_ | refine pT hf hS ?_); clear hf; intro a hf)
  refine done_l (t_normal ?_)
  refine c_true hf rfl ?_
  refine c_seq (c_region ?_)
  refine aN hf hS ?_; clear hf; intro a hf
  refine done_l (t_normal (c_ret (t_ret ?_)))
  refine eT hf ?_
  first
  | exact ⟨_, rfl, fun _ => ⟨by omega, by omega⟩, hS.subA⟩
  | exact ⟨_, rfl, fun h => Bool.noConfusion h, hS.subA⟩
 clear hf; intro hc2 a hf
 refine mN hf hS ?_; clear hf; intro a hf
 refine fG hf hS fb32_8 ?_; clear hf; intro a hf
 refine sG hf hS (rd_ld hf ag29) ?_; clear hf; intro a hf
 refine sG hf hS (rd_len hf rfl rfl Tryz.underlying29) ?_; clear hf; intro a hf
 refine step_l (st_rdB hf (Wn.some hf rfl rfl rfl rfl) (rd_gtr hf rfl rfl rfl) hS rfl rfl ?_ ?_)
 ·
  clear hf; intro hc3 a hf
  iterate 7 ((first | refine kS hf ?_ | refine mN hf hS ?_ | refine pT hf hS ?_ | refine pF hf hS ?_); clear hf; intro a hf)
  refine done_l (t_normal ?_)
  refine c_true hf rfl ?_
  refine c_seq (c_region ?_)
  refine aN hf hS ?_; clear hf; intro a hf
  refine done_l (t_normal (c_ret (t_ret ?_)))
  refine eT hf ?_
  first
  | exact ⟨_, rfl, fun _ => ⟨by omega, by omega⟩, hS.subA⟩
  | exact ⟨_, rfl, fun h => Bool.noConfusion h, hS.subA⟩
 clear hf; intro hc3 a hf
 iterate 2 ((first | refine mN hf hS ?_ | refine pF hf hS ?_); clear hf; intro a hf)
 refine fG hf hS fb32_9 ?_; clear hf; intro a hf
 refine sG hf hS (rd_ld hf ag30) ?_; clear hf; intro a hf
 refine sG hf hS (rd_len hf rfl rfl Tryz.underlying30) ?_; clear hf; intro a hf
 refine step_l (st_rdB hf (Wn.some hf rfl rfl rfl rfl) (rd_gtr hf rfl rfl rfl) hS rfl rfl ?_ ?_)
 ·
  clear hf; intro hc4 a hf
  refine pF hf hS ?_; clear hf; intro a hf
  refine done_l (t_normal ?_)
  refine c_true hf rfl ?_
  refine c_seq (c_region ?_)
  refine aN hf hS ?_; clear hf; intro a hf
  refine done_l (t_normal (c_ret (t_ret ?_)))
  refine eT hf ?_
  first
  | exact ⟨_, rfl, fun _ => ⟨by omega, by omega⟩, hS.subA⟩
  | exact ⟨_, rfl, fun h => Bool.noConfusion h, hS.subA⟩
 clear hf; intro hc4 a hf
 refine pF hf hS ?_; clear hf; intro a hf
 refine done_l (t_normal ?_)
 refine c_false hf rfl ?_
 refine c_skip (t_normal (c_seq (c_seq (c_region ?_))))
 refine fA hf hS fb32_7 ?_; clear hf; intro a hf
 refine sR hf hS (rd_ld hf ag28) ?_; clear hf; intro a hf
 refine sR hf hS (rd_len hf rfl rfl Tryz.underlying28) ?_; clear hf; intro a hf
 refine mN hf hS ?_; clear hf; intro a hf
 refine done_l (t_normal (c_block ?_))
 have hk0 := Keep.ofA hf [(2, 2), (4, 4), (26, 35)]
 refine c_loopK hk0 (α := Nat) (fun k => [(26, .int .i64 (k : Nat))]) (fun k w => Sat W (Blk b_m [.int .i64 kd, .int .i64 fr, .int .i64 tn, .int .i64 op, .int .i64 fo, .string (str ky), .int .i64 bk, .slice qe es.length ce, .slice qd ds.length cd, .slice qm ms.length cm] 32 :: R) w ∧ k ≤ es.length) (fun k => es.length - k) 0 ((hf.keep hk0).kb hf 26 rfl (by first | rfl | exact int_eq (by omega))) ⟨hS.subA, by omega⟩ ?_
 clear hf hS; rintro k a w hf ⟨hS, hk⟩; (try dsimp only [List.cons_append, List.nil_append] at hf)
 refine c_seq (c_region ?_)
 refine sB hf hS (rd_lss hf rfl rfl rfl) ?_ ?_
 ·
  clear hf; intro hc5 a hf
  obtain ⟨x, hget⟩ := get_of_lt (l := es) (k := k) (by omega) rfl; obtain ⟨ad, rfl⟩ := (hve _ (hS.subA)).some (by omega); have h8 := ((hve _ (hS.subA)).in hget).1; have hvx := fun w h => ((hve w h).in hget).2; obtain ⟨kyx, ⟨seen, ⟨xq, xc, xs⟩, _⟩, _⟩ := x; obtain ⟨s0, s1, s2, s3, s4, s5, s6, s7, rfl⟩ := len8 h8
  refine done_l (t_normal (c_seq ?_))
  refine c_true hf rfl ?_
  refine c_skip (t_normal (c_seq (c_block (c_seq (c_region ?_)))))
  refine sR hf hS ((by first | exact rd_indexAddrN hf rfl rfl rfl Tryz.underlying28 sz58 (by omega) | exact rd_indexAddr hf rfl rfl rfl Tryz.underlying28 sz58 (by first | decide | omega) (by omega))) ?_; clear hf; intro a hf
  refine sR hf hS (rd_loadN hf rfl rfl ag58 sz58 (by intro _ h; exact (show AggAt _ _ _ [.string (str kyx), .int .i64 s0, .int .i64 s1, .int .i64 s2, .int .i64 s3, .int .i64 s4, .int .i64 s5, .int .i64 s6, .int .i64 s7, .slice xq xs.length xc] from (hve _ (h.subA)).el hget))) ?_; clear hf; intro a hf
  refine sA hf hS zr58 ?_
  clear hf hS; intro b_e a w hf hS
  refine sS hf hS sz58 ?_
  clear hf hS; intro a w hf hS
  refine done_l (t_normal (c_seq (c_region ?_)))
  refine fA hf hS fb58_1 ?_; clear hf; intro a hf
  refine fA hf hS fb56_1 ?_; clear hf; intro a hf
  refine sR hf hS (rd_ld hf ag54) ?_; clear hf; intro a hf
  refine sR hf hS (rd_len hf rfl rfl Tryz.underlying54) ?_; clear hf; intro a hf
  refine sB hf hS (rd_gtr hf rfl rfl rfl) ?_ ?_
  ·
   clear hf; intro hc7 a hf
   refine done_l (t_normal ?_)
   refine c_true hf rfl ?_
   refine c_seq (c_region ?_)
   refine aN hf hS ?_; clear hf; intro a hf
   refine done_l (t_normal (c_ret (b_ret (t_ret (t_ret (b_ret (t_ret ?_)))))))
   refine eT hf ?_
   first
   | exact ⟨_, rfl, fun _ => ⟨by omega, by omega⟩, hS.subA⟩
   | exact ⟨_, rfl, fun h => Bool.noConfusion h, hS.subA⟩
  clear hf; intro hc7 a hf
  refine done_l (t_normal ?_)
  refine c_false hf rfl ?_
  refine c_skip (b_normal (t_normal (c_region ?_)))
  refine sP hf hS ?_; clear hf; intro a hf
  refine mN hf hS ?_; clear hf; intro a hf
  refine done_l ?_
  refine t_normal ⟨k + 1, ((hf.backA hk0).kb hf 26 rfl (by first | rfl | exact int_eq (by omega))), ⟨hS.subA, by omega⟩, by first | omega | (simp only []; omega)⟩
 clear hf; intro hc5 a hf
 obtain rfl : k = es.length := by omega
 refine done_l (t_normal (c_seq ?_))
 refine c_false hf rfl ?_
 refine c_exit (t_exit (t_exit (b_exit (t_normal (c_seq (c_seq (c_region ?_)))))))
 refine fA hf hS fb32_8 ?_; clear hf; intro a hf
 refine sR hf hS (rd_ld hf ag29) ?_; clear hf; intro a hf
 refine sR hf hS (rd_len hf rfl rfl Tryz.underlying29) ?_; clear hf; intro a hf
 refine mN hf hS ?_; clear hf; intro a hf
 refine done_l (t_normal (c_block ?_))
 have hk1 := Keep.ofA hf [(2, 2), (6, 6), (39, 47)]
 refine c_loopK hk1 (α := Nat) (fun k => [(39, .int .i64 (k : Nat))]) (fun k w => Sat W (Blk b_m [.int .i64 kd, .int .i64 fr, .int .i64 tn, .int .i64 op, .int .i64 fo, .string (str ky), .int .i64 bk, .slice qe es.length ce, .slice qd ds.length cd, .slice qm ms.length cm] 32 :: R) w ∧ k ≤ ds.length) (fun k => ds.length - k) 0 ((hf.keep hk1).kb hf 39 rfl (by first | rfl | exact int_eq (by omega))) ⟨hS.subA, by omega⟩ ?_
 clear hf hS; rintro k a w hf ⟨hS, hk⟩; (try dsimp only [List.cons_append, List.nil_append] at hf)
 refine c_seq (c_region ?_)
 refine sB hf hS (rd_lss hf rfl rfl rfl) ?_ ?_
 ·
  clear hf; intro hc8 a hf
  obtain ⟨x, hget⟩ := get_of_lt (l := ds) (k := k) (by omega) rfl; obtain ⟨ad, rfl⟩ := (hvd _ (hS.subA)).some (by omega); have h8 := ((hvd _ (hS.subA)).in hget).1; have hvx := fun w h => ((hvd w h).in hget).2; obtain ⟨kyx, seen, ⟨xq, xc, xs⟩, _⟩ := x; obtain ⟨s0, s1, s2, s3, s4, s5, s6, s7, rfl⟩ := len8 h8
  refine done_l (t_normal (c_seq ?_))
  refine c_true hf rfl ?_
  refine c_skip (t_normal (c_seq (c_block (c_seq (c_region ?_)))))
  refine sR hf hS ((by first | exact rd_indexAddrN hf rfl rfl rfl Tryz.underlying29 sz61 (by omega) | exact rd_indexAddr hf rfl rfl rfl Tryz.underlying29 sz61 (by first | decide | omega) (by omega))) ?_; clear hf; intro a hf
  refine sR hf hS (rd_loadN hf rfl rfl ag61 sz61 (by intro _ h; exact (show AggAt _ _ _ [.string (str kyx), .int .i64 s0, .int .i64 s1, .int .i64 s2, .int .i64 s3, .int .i64 s4, .int .i64 s5, .int .i64 s6, .int .i64 s7, .slice xq xs.length xc] from (hvd _ (h.subA)).el hget))) ?_; clear hf; intro a hf
  refine sA hf hS zr61 ?_
  clear hf hS; intro b_d a w hf hS
  refine sS hf hS sz61 ?_
  clear hf hS; intro a w hf hS
  refine done_l (t_normal (c_seq (c_region ?_)))
  refine fA hf hS fb61_2 ?_; clear hf; intro a hf
  refine sR hf hS (rd_ld hf ag59) ?_; clear hf; intro a hf
  refine sR hf hS (rd_len hf rfl rfl Tryz.underlying59) ?_; clear hf; intro a hf
  refine sB hf hS (rd_gtr hf rfl rfl rfl) ?_ ?_
  ·
   clear hf; intro hc10 a hf
   refine done_l (t_normal ?_)
   refine c_true hf rfl ?_
   refine c_seq (c_region ?_)
   refine aN hf hS ?_; clear hf; intro a hf
   refine done_l (t_normal (c_ret (b_ret (t_ret (t_ret (b_ret (t_ret ?_)))))))
   refine eT hf ?_
   first
   | exact ⟨_, rfl, fun _ => ⟨by omega, by omega⟩, hS.subA⟩
   | exact ⟨_, rfl, fun h => Bool.noConfusion h, hS.subA⟩
  clear hf; intro hc10 a hf
  refine done_l (t_normal ?_)
  refine c_false hf rfl ?_
  refine c_skip (b_normal (t_normal (c_region ?_)))
  refine sP hf hS ?_; clear hf; intro a hf
  refine mN hf hS ?_; clear hf; intro a hf
  refine done_l ?_
  refine t_normal ⟨k + 1, ((hf.backA hk1).kb hf 39 rfl (by first | rfl | exact int_eq (by omega))), ⟨hS.subA, by omega⟩, by first | omega | (simp only []; omega)⟩
 clear hf; intro hc8 a hf
 obtain rfl : k = ds.length := by omega
 refine done_l (t_normal (c_seq ?_))
 refine c_false hf rfl ?_
 refine c_exit (t_exit (t_exit (b_exit (t_normal (c_seq (c_region ?_))))))
 refine aN hf hS ?_; clear hf; intro a hf
 refine done_l (t_normal (c_ret ?_))
 refine eT hf ?_
 first
 | exact ⟨_, rfl, fun _ => ⟨by omega, by omega⟩, hS.subA⟩
 | exact ⟨_, rfl, fun h => Bool.noConfusion h, hS.subA⟩

theorem same_c (La : List MsgT) (qa : Option Addr) (ca : Nat) (Lb : List MsgT) (qb : Option Addr) (cb : Nat) {W : World} {R : List HP} {w : World} (hS : Sat W (R) w) (hva : ∀ w, Sat W R w → MsgsAt w (qa, ca, La)) (hvb : ∀ w, Sat W R w → MsgsAt w (qb, cb, Lb)) (he : (La.map pMsg).map plP = (Lb.map pMsg).map plP) (hla : La.length ≤ 9223372036854775806) : Calls Tryz.prog 13 [.slice qa La.length ca, .slice qb Lb.length cb].toArray w (Ret fun v w' => v = .bool true ∧ Sat W R w') := by
 refine fn_start 27 Tryz.func13 rfl rfl rfl ?_
 intro a hf
 have hlen : La.length = Lb.length := by have := congrArg List.length he; simpa using this
 refine c_seq (c_region ?_)
 refine aN hf hS ?_; clear hf; intro a hf
 refine done_l (t_normal (c_seq (c_seq (c_region ?_))))
 refine mN hf hS ?_; clear hf; intro a hf
 refine sR hf hS (rd_len hf rfl rfl Tryz.underlying25) ?_; clear hf; intro a hf
 refine mN hf hS ?_; clear hf; intro a hf
 refine sR hf hS (rd_len hf rfl rfl Tryz.underlying25) ?_; clear hf; intro a hf
 refine sB hf hS (rd_neq hf rfl rfl rfl) ?_ ?_
 ·
  clear hf; intro hc1 a hf
  exact absurd (by omega) hc1
 clear hf; intro hc1 a hf
 refine done_l (t_normal ?_)
 refine c_false hf rfl ?_
 refine c_skip (t_normal (c_seq (c_seq (c_region ?_))))
 refine mN hf hS ?_; clear hf; intro a hf
 refine sR hf hS (rd_len hf rfl rfl Tryz.underlying25) ?_; clear hf; intro a hf
 refine mN hf hS ?_; clear hf; intro a hf
 refine done_l (t_normal (c_block ?_))
 have hk0 := Keep.ofA hf [(4, 5), (13, 26)]
 refine c_loopK hk0 (α := Nat) (fun i => [(13, .int .i64 (i : Nat))]) (fun i w => Sat W (R) w ∧ i ≤ La.length) (fun i => La.length - i) 0 ((hf.keep hk0).kb hf 13 rfl (by first | rfl | exact int_eq (by omega))) ⟨hS.subA, by omega⟩ ?_
 clear hf hS; rintro i a w hf ⟨hS, hi⟩; (try dsimp only [List.cons_append, List.nil_append] at hf)
 refine c_seq (c_region ?_)
 refine sB hf hS (rd_lss hf rfl rfl rfl) ?_ ?_
 ·
  clear hf; intro hc2 a hf
  obtain ⟨x, hget⟩ := get_of_lt (l := La) (k := i) (by omega) rfl; obtain ⟨y, hget2⟩ := get_of_lt (l := Lb) (k := i) (by omega) rfl; have hpp := map2_get he (map_get pMsg hget) (map_get pMsg hget2); obtain ⟨ad, rfl⟩ := (hva _ (hS.subA)).some (by omega); obtain ⟨ad2, rfl⟩ := (hvb _ (hS.subA)).some (by omega); have hmx := fun w h => (hva w h).in hget; have hmy := fun w h => (hvb w h).in hget2; obtain ⟨kd, fr, tn, op, fo, ky, bk, ⟨qe, ce, es⟩, ⟨qd, cd, ds⟩, ⟨qm, cm, ms⟩, _⟩ := x; obtain ⟨kd2, fr2, tn2, op2, fo2, ky2, bk2, ⟨qe2, ce2, es2⟩, ⟨qd2, cd2, ds2⟩, ⟨qm2, cm2, ms2⟩, _⟩ := y
  refine done_l (t_normal (c_seq ?_))
  refine c_true hf rfl ?_
  refine c_skip (t_normal (c_seq (c_block (c_seq (c_region ?_)))))
  iterate 2 ((first | refine mN hf hS ?_ | refine aN hf hS ?_); clear hf; intro a hf)
  refine done_l (t_normal (c_seq ?_))
  refine any_begin mixed hS.drew ?_
  replace hS := hS.drew
  have hT := hS
  refine any_takeA (i := 0) hf rfl (Wn.none rfl) (rd_move hf rfl rfl) hT rfl rfl ?_; clear hf; intro a hf
  refine any_takeA (i := 1) hf rfl (Wn.none rfl) (rd_move hf rfl rfl) hT rfl rfl ?_; clear hf; intro a hf
  refine any_takeA (i := 2) hf rfl (Wn.none rfl) ((by first | exact rd_indexAddrN hf rfl rfl rfl Tryz.underlying25 sz32 (by omega) | exact rd_indexAddr hf rfl rfl rfl Tryz.underlying25 sz32 (by first | decide | omega) (by omega))) hT rfl rfl ?_; clear hf; intro a hf
  refine any_takeA (i := 3) hf rfl (Wn.none rfl) (rd_loadN hf rfl rfl ag32 sz32 (by intro _ h; exact (show AggAt _ _ _ [.int .i64 kd, .int .i64 fr, .int .i64 tn, .int .i64 op, .int .i64 fo, .string (str ky), .int .i64 bk, .slice qe es.length ce, .slice qd ds.length cd, .slice qm ms.length cm] from (hva _ (h.subA)).el hget))) hT rfl rfl ?_; clear hf; intro a hf
  refine any_takeA (i := 4) hf rfl (Wn.none rfl) (rd_move hf rfl rfl) hT rfl rfl ?_; clear hf; intro a hf
  refine any_takeA (i := 5) hf rfl (Wn.none rfl) (rd_move hf rfl rfl) hT rfl rfl ?_; clear hf; intro a hf
  refine any_takeA (i := 6) hf rfl (Wn.none rfl) ((by first | exact rd_indexAddrN hf rfl rfl rfl Tryz.underlying25 sz32 (by omega) | exact rd_indexAddr hf rfl rfl rfl Tryz.underlying25 sz32 (by first | decide | omega) (by omega))) hT rfl rfl ?_; clear hf; intro a hf
  refine any_takeA (i := 7) hf rfl (Wn.none rfl) (rd_loadN hf rfl rfl ag32 sz32 (by intro _ h; exact (show AggAt _ _ _ [.int .i64 kd2, .int .i64 fr2, .int .i64 tn2, .int .i64 op2, .int .i64 fo2, .string (str ky2), .int .i64 bk2, .slice qe2 es2.length ce2, .slice qd2 ds2.length cd2, .slice qm2 ms2.length cm2] from (hvb _ (h.subA)).el hget2))) hT rfl rfl ?_; clear hf; intro a hf
  refine any_one (i := 8) rfl (by kernel_rfl) (st_call hf (Wn.none rfl) rfl rfl rfl fn11 (RMSame_c _ _ _ _ _ _ _ _ _ _ _ _ _ _ _ _ _ _ _ _ _ _ _ _ _ _ _ _ _ _ _ _  hS (fun _ h => (hmx _ (h.subA)).1) (fun _ h => (hmx _ (h.subA)).2.1) (fun _ h => (hmx _ (h.subA)).2.2) (fun _ h => (hmy _ (h.subA)).1) (fun _ h => (hmy _ (h.subA)).2.1) (fun _ h => (hmy _ (h.subA)).2.2)) rfl rfl ?_)
  clear hf hS; rintro v a w ⟨rfl, hS⟩ hf
  replace hT := hS.subA' hT
  refine ⟨hT, ?_⟩
  first | refine split_dec (d := 24) hf rfl ?_ ?_ | refine split_bool (d := 24) hf rfl ?_ ?_
  ·
   clear hf; intro hc3 hf
   refine any_takeA (i := 9) hf rfl (Wn.none rfl) (rd_not hf rfl rfl) hT rfl rfl ?_; clear hf; intro a hf
   refine any_done (by kernel_rfl) ?_
   refine t_normal ?_
   refine c_false hf rfl ?_
   refine c_skip (b_normal (t_normal (c_region ?_)))
   refine sP hf hS ?_; clear hf; intro a hf
   refine mN hf hS ?_; clear hf; intro a hf
   refine done_l ?_
   refine t_normal ⟨i + 1, ((hf.backA hk0).kb hf 13 rfl (by first | rfl | exact int_eq (by omega))), ⟨hS.subA, by omega⟩, by first | omega | (simp only []; omega)⟩
  clear hf; intro hc3 hf
  exact absurd (sameM_refl hpp) (Bool.eq_false_iff.1 hc3)
 clear hf; intro hc2 a hf
 refine done_l (t_normal (c_seq ?_))
 refine c_false hf rfl ?_
 refine c_exit (t_exit (t_exit (b_exit (t_normal (c_seq (c_region ?_))))))
 refine aN hf hS ?_; clear hf; intro a hf
 refine done_l (t_normal (c_ret ?_))
 refine eT hf ?_
 exact ⟨rfl, hS.subA⟩

end Go.Proofs.YtcflbdpjoanbgaaGreat
