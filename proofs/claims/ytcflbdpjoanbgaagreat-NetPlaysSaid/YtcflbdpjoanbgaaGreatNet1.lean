/-
  Walked: Net.
  Conditions: none.
-/
import Derived.Test.YtcflbdpjoanbgaaGreatOwn1
namespace Go.Proofs.YtcflbdpjoanbgaaGreat
open Go Go.Sl
set_option linter.unusedVariables false
set_option linter.unusedSimpArgs false

theorem NNew_c  {W : World} {R : List HP} {w : World} (hS : Sat W (R) w)  : Calls Tryz.prog 4 [].toArray w (Ret fun v w' => ∃ p : Nat, v = .pointer (some ⟨p, 0, none⟩) ∧ Sat W (NetP 51 32 58 107 5 61 87 73 p [] 0 :: R) w') := by
 refine fn_start 3 Tryz.func4 rfl rfl rfl ?_
 intro a hf
 refine c_seq (c_region ?_)
 refine aN hf hS ?_; clear hf; intro a hf
 refine done_l (t_normal (c_seq (c_region ?_)))
 refine sR hf hS (rd_build hf rfl rfl zr51 (by rfl) pl51 .nil) ?_; clear hf; intro a hf
 refine step_l (st_box hf (Wn.none rfl) hS rfl rfl (by rfl) rfl rfl ?_)
 clear hf hS; intro b_1 a w hf hS
 refine aN hf hS ?_; clear hf; intro a hf
 refine done_l (t_normal (c_ret ?_))
 refine eT hf ?_
 exact ⟨_, rfl, net_nil (hS.subA)⟩

theorem NLen_c (p : Nat) (xs : List PMsg) (lost : Int) {W : World} {R : List HP} {w : World} (hS : Sat W (NetP 51 32 58 107 5 61 87 73 p xs lost :: R) w)  : Calls Tryz.prog 15 [.pointer (some ⟨p, 0, none⟩)].toArray w (Ret fun v w' => v = .int .i64 (xs.length : Nat) ∧ Sat W (NetP 51 32 58 107 5 61 87 73 p xs lost :: R) w') := by
 refine fn_start 10 Tryz.func15 rfl rfl rfl ?_
 intro a hf
 obtain ⟨q, cap, L, h1, h2, h3, h4, hS⟩ := net_open (hS.selA)
 refine c_seq (c_region ?_)
 refine aN hf hS ?_; clear hf; intro a hf
 refine done_l (t_normal (c_seq (c_seq (c_region ?_))))
 refine mN hf hS ?_; clear hf; intro a hf
 refine step_l (st_rdb hf (Wn.none rfl) (rd_eqlNilP hf rfl rfl rfl Tryz.underlying23) hS rfl rfl ?_ ?_)
 ·
  clear hf; intro hc1 a hf
  exact Bool.noConfusion hc1
 clear hf; intro hc1 a hf
 refine done_l (t_normal ?_)
 refine c_false hf rfl ?_
 refine c_skip (t_normal (c_seq (c_region ?_)))
 refine mN hf hS ?_; clear hf; intro a hf
 refine nC hf hS ?_; clear hf; intro a hf
 refine fA hf hS fb51_0 ?_; clear hf; intro a hf
 refine sR hf hS (rd_ld hf ag25) ?_; clear hf; intro a hf
 refine sR hf hS (rd_len hf rfl rfl Tryz.underlying25) ?_; clear hf; intro a hf
 refine aN hf hS ?_; clear hf; intro a hf
 refine done_l (t_normal (c_ret ?_))
 refine eT hf ?_
 exact ⟨by rw [h4], net_shut (hS.subA) h1 h2 h3 rfl rfl⟩

theorem NLost_c (p : Nat) (xs : List PMsg) (lost : Int) {W : World} {R : List HP} {w : World} (hS : Sat W (NetP 51 32 58 107 5 61 87 73 p xs lost :: R) w)  : Calls Tryz.prog 16 [.pointer (some ⟨p, 0, none⟩)].toArray w (Ret fun v w' => v = .int .i64 lost ∧ Sat W (NetP 51 32 58 107 5 61 87 73 p xs lost :: R) w') := by
 refine fn_start 9 Tryz.func16 rfl rfl rfl ?_
 intro a hf
 obtain ⟨q, cap, L, h1, h2, h3, h4, hS⟩ := net_open (hS.selA)
 refine c_seq (c_region ?_)
 refine aN hf hS ?_; clear hf; intro a hf
 refine done_l (t_normal (c_seq (c_seq (c_region ?_))))
 refine mN hf hS ?_; clear hf; intro a hf
 refine step_l (st_rdb hf (Wn.none rfl) (rd_eqlNilP hf rfl rfl rfl Tryz.underlying23) hS rfl rfl ?_ ?_)
 ·
  clear hf; intro hc1 a hf
  exact Bool.noConfusion hc1
 clear hf; intro hc1 a hf
 refine done_l (t_normal ?_)
 refine c_false hf rfl ?_
 refine c_skip (t_normal (c_seq (c_region ?_)))
 refine mN hf hS ?_; clear hf; intro a hf
 refine nC hf hS ?_; clear hf; intro a hf
 refine fA hf hS fb51_1 ?_; clear hf; intro a hf
 refine sR hf hS (rd_ld hf ag2) ?_; clear hf; intro a hf
 refine aN hf hS ?_; clear hf; intro a hf
 refine done_l (t_normal (c_ret ?_))
 refine eT hf ?_
 exact ⟨rfl, net_shut (hS.subA) h1 h2 h3 rfl rfl⟩

theorem NAll_c (p : Nat) (xs : List PMsg) (lost : Int) {W : World} {R : List HP} {w : World} (hS : Sat W (NetP 51 32 58 107 5 61 87 73 p xs lost :: R) w)  : Calls Tryz.prog 14 [.pointer (some ⟨p, 0, none⟩)].toArray w (Ret fun v w' => ∃ (q : Option Addr) (cap : Nat) (L : List MsgT), v = .slice q L.length cap ∧ L.map pMsg = xs ∧ (∀ m ∈ L, okMsg m) ∧ L.length ≤ 2000 ∧ Sat W (Rl 32 10 q L.length cap (L.flatMap msgC) :: AllG (MsgG 58 107 5 61 87 73) L :: NetP 51 32 58 107 5 61 87 73 p [] lost :: R) w') := by
 refine fn_start 14 Tryz.func14 rfl rfl rfl ?_
 intro a hf
 obtain ⟨q, cap, L, h1, h2, h3, h4, hS⟩ := net_open (hS.selA)
 refine c_seq (c_region ?_)
 refine aN hf hS ?_; clear hf; intro a hf
 refine done_l (t_normal (c_seq (c_seq (c_region ?_))))
 refine mN hf hS ?_; clear hf; intro a hf
 refine step_l (st_rdb hf (Wn.none rfl) (rd_eqlNilP hf rfl rfl rfl Tryz.underlying23) hS rfl rfl ?_ ?_)
 ·
  clear hf; intro hc1 a hf
  exact Bool.noConfusion hc1
 clear hf; intro hc1 a hf
 refine done_l (t_normal ?_)
 refine c_false hf rfl ?_
 refine c_skip (t_normal (c_seq (c_region ?_)))
 refine mN hf hS ?_; clear hf; intro a hf
 refine nC hf hS ?_; clear hf; intro a hf
 refine fA hf hS fb51_0 ?_; clear hf; intro a hf
 refine sR hf hS (rd_ld hf ag25) ?_; clear hf; intro a hf
 refine aN hf hS ?_; clear hf; intro a hf
 refine done_l (t_normal (c_seq (c_region ?_)))
 refine mN hf hS ?_; clear hf; intro a hf
 refine nC hf hS ?_; clear hf; intro a hf
 refine fA hf hS fb51_0 ?_; clear hf; intro a hf
 refine sS hf hS sz25 ?_
 clear hf hS; intro a w hf hS
 refine done_l (t_normal (c_seq (c_region ?_)))
 iterate 2 ((first | refine mN hf hS ?_ | refine aN hf hS ?_); clear hf; intro a hf)
 refine done_l (t_normal (c_ret ?_))
 refine eT hf ?_
 exact ⟨q, cap, L, rfl, h1, h2, h3, (net_nil (N := 51) (G := 32) (E := 58) (T := 107) (B := 5) (D := 61) (O := 87) (M := 73) (p := p) (lost := lost) (l := Rl 32 10 q L.length cap (L.flatMap msgC) :: AllG (MsgG 58 107 5 61 87 73) L :: R) (hS.subA)).subA⟩

theorem NAt_c (p : Nat) (xs : List PMsg) (lost : Int) (i : Int) {W : World} {R : List HP} {w : World} (hS : Sat W (NetP 51 32 58 107 5 61 87 73 p xs lost :: R) w)  : Calls Tryz.prog 9 [.pointer (some ⟨p, 0, none⟩), .int .i64 i].toArray w (Ret fun v w' => ∃ (bb : Bool) (kd fr tn op fo : Int) (ky : List UInt8) (bk : Int) (es : List EntT) (qe : Option Addr) (ce : Nat) (ds : List DigT) (qd : Option Addr) (cd : Nat) (ms : List MemT) (qm : Option Addr) (cm : Nat), v = .tuple #[.agg #[.int .i64 kd, .int .i64 fr, .int .i64 tn, .int .i64 op, .int .i64 fo, .string (str ky), .int .i64 bk, .slice qe es.length ce, .slice qd ds.length cd, .slice qm ms.length cm], .bool bb] ∧ bb = inS xs i ∧ (bb = true → (⟨kd, fr, tn, op, fo, ky, bk, es.map pEnt, ds.map pDig, ms.map pDot⟩ : PMsg) = plP (xs.getD i.toNat zeroM)) ∧ okMsg ((kd, fr, tn, op, fo, ky, bk, (qe, ce, es), (qd, cd, ds), (qm, cm, ms), ()) : MsgT) ∧ Sat W (EntR 58 107 5 (qe, ce, es) :: DigR 61 87 (qd, cd, ds) :: Rw 73 2 qm ms.length cm (ms.flatMap dotC) :: NetP 51 32 58 107 5 61 87 73 p xs lost :: R) w') := by
 refine fn_start 23 Tryz.func9 rfl rfl rfl ?_
 intro a hf
 refine c_seq (c_region ?_)
 refine sA hf hS zr32 ?_
 clear hf hS; intro b_r a w hf hS
 refine aN hf hS ?_; clear hf; intro a hf
 refine done_l (t_normal (c_seq (c_seq (c_region ?_))))
 refine mN hf hS ?_; clear hf; intro a hf
 refine sB hf hS (rd_lss hf rfl rfl rfl) ?_ ?_
 ·
  clear hf; intro hc2 a hf
  iterate 6 ((first | refine kS hf ?_ | refine mN hf hS ?_ | refine pT hf hS ?_); clear hf; intro a hf)
  refine done_l (t_normal ?_)
  refine c_true hf rfl ?_
  refine c_seq (c_region ?_)
  refine sR hf hS (rd_build hf rfl rfl zr32 (by rfl) pl32 .nil) ?_; clear hf; intro a hf
  refine sS hf hS sz32 ?_
  clear hf hS; intro a w hf hS
  refine aN hf hS ?_; clear hf; intro a hf
  refine done_l (t_normal (c_ret (t_ret ?_)))
  refine eC hf hS ag32 sz32 ?_
  exact ⟨false, 0, 0, 0, 0, 0, [], 0, [], none, 0, [], none, 0, [], none, 0, rfl, (decide_eq_false (by omega)).symm, (fun h => by cases h), ⟨⟨(fun e he => by cases he), by decide⟩, ⟨(fun e he => by cases he), by decide⟩, by decide⟩, ((((hS.subA : Sat W (NetP 51 32 58 107 5 61 87 73 p xs lost :: R) w).rwNil 73 2).digNil 61 87).entNil 58 107 5)⟩
 clear hf; intro hc2 a hf
 iterate 3 ((first | refine mN hf hS ?_ | refine step_l (st_rd hf (Wn.some hf rfl rfl rfl rfl) (rd_move hf rfl rfl) hS rfl rfl ?_)); clear hf; intro a hf)
 refine step_l (st_call hf (Wn.some hf rfl rfl rfl rfl) rfl rfl rfl fn15 (NLen_c _ _ _ (hS.selA)) rfl rfl ?_)
 clear hf hS; rintro v a w ⟨rfl, hS⟩ hf
 refine step_l (st_rdB hf (Wn.some hf rfl rfl rfl rfl) (rd_geq hf rfl rfl rfl) hS rfl rfl ?_ ?_)
 ·
  clear hf; intro hc3 a hf
  refine pF hf hS ?_; clear hf; intro a hf
  refine done_l (t_normal ?_)
  refine c_true hf rfl ?_
  refine c_seq (c_region ?_)
  refine sR hf hS (rd_build hf rfl rfl zr32 (by rfl) pl32 .nil) ?_; clear hf; intro a hf
  refine sS hf hS sz32 ?_
  clear hf hS; intro a w hf hS
  refine aN hf hS ?_; clear hf; intro a hf
  refine done_l (t_normal (c_ret (t_ret ?_)))
  refine eC hf hS ag32 sz32 ?_
  exact ⟨false, 0, 0, 0, 0, 0, [], 0, [], none, 0, [], none, 0, [], none, 0, rfl, (decide_eq_false (by omega)).symm, (fun h => by cases h), ⟨⟨(fun e he => by cases he), by decide⟩, ⟨(fun e he => by cases he), by decide⟩, by decide⟩, ((((hS.subA : Sat W (NetP 51 32 58 107 5 61 87 73 p xs lost :: R) w).rwNil 73 2).digNil 61 87).entNil 58 107 5)⟩
 clear hf; intro hc3 a hf
 refine pF hf hS ?_; clear hf; intro a hf
 refine done_l (t_normal ?_)
 refine c_false hf rfl ?_
 refine c_skip (t_normal (c_seq ?_))
 obtain ⟨q, cap, L, h1, h2, h3, h4, hS⟩ := net_open (hS.selA)
 obtain ⟨j, rfl⟩ : ∃ j : Nat, i = (j : Int) := ⟨i.toNat, by omega⟩
 obtain ⟨x, hget⟩ := get_of_lt (l := L) (k := j) (by omega) rfl
 obtain ⟨ad, rfl⟩ := (hS.slOfRl (by repeat (first | exact Sel.head | apply Sel.tail))).some (by omega)
 have hx2 := h2 _ (List.mem_of_getElem? hget)
 obtain ⟨kd, fr, tn, op, fo, ky, bk, ⟨qe, ce, es⟩, ⟨qd, cd, ds⟩, ⟨qm, cm, ms⟩, _⟩ := x
 refine c_region ?_
 refine mN hf hS ?_; clear hf; intro a hf
 refine nC hf hS ?_; clear hf; intro a hf
 refine fA hf hS fb51_0 ?_; clear hf; intro a hf
 refine sR hf hS (rd_ld hf ag25) ?_; clear hf; intro a hf
 refine mN hf hS ?_; clear hf; intro a hf
 refine sR hf hS ((by first | exact rd_indexAddrN hf rfl rfl rfl Tryz.underlying25 sz32 (by omega) | exact rd_indexAddr hf rfl rfl rfl Tryz.underlying25 sz32 (by first | decide | omega) (by omega))) ?_; clear hf; intro a hf
 refine sR hf hS (rd_loadN hf rfl rfl ag32 sz32 (by intro _ h; exact (show AggAt _ _ _ [.int .i64 kd, .int .i64 fr, .int .i64 tn, .int .i64 op, .int .i64 fo, .string (str ky), .int .i64 bk, .slice qe es.length ce, .slice qd ds.length cd, .slice qm ms.length cm] from SlAt.elem (cells := msgC) (h.slOfRl (by repeat (first | exact Sel.head | apply Sel.tail))) (fun _ => rfl) hget))) ?_; clear hf; intro a hf
 refine step_l (st_call hf (Wn.none rfl) rfl rfl rfl fn27 (Pln_c _ _ _ _ _ _ _ _ _ _ _ _ _ _ _ _  hS (fun _ h => (h.msgVs (by repeat (first | exact Sel.head | apply Sel.tail)) hget h2).1) (fun _ h => (h.msgVs (by repeat (first | exact Sel.head | apply Sel.tail)) hget h2).2.1) (fun _ h => (h.msgVs (by repeat (first | exact Sel.head | apply Sel.tail)) hget h2).2.2)) rfl rfl ?_)
 clear hf hS; rintro v a w ⟨q1, c1, L1, q2, c2, L2, q3, c3, L3, rfl, hL1, hL2, hL3, hS⟩ hf
 refine sS hf hS sz32 ?_
 clear hf hS; intro a w hf hS
 refine aN hf hS ?_; clear hf; intro a hf
 refine done_l (t_normal (c_ret ?_))
 refine eC hf hS ag32 sz32 ?_
 refine ⟨true, kd, fr, tn, _, _, _, _, L1, q1, c1, L2, q2, c2, L3, q3, c3, rfl, (decide_eq_true ⟨by omega, by omega⟩).symm, fun _ => ?_, ⟨okL_pl hL1 hx2.1.1 hx2.1.2, okG_pl hL2 hx2.2.1.1 hx2.2.1.2, lenM_pl hL3 hx2.2.2⟩, (show Sat W (NetP 51 32 58 107 5 61 87 73 p xs lost :: EntR 58 107 5 (q1, c1, L1) :: DigR 61 87 (q2, c2, L2) :: Rw 73 2 q3 L3.length c3 (L3.flatMap dotC) :: R) w from net_shut (hS.subA) h1 h2 h3 rfl rfl).subA⟩
 rw [hL1, hL2, hL3, ← h1, Int.toNat_natCast, getD_map hget]; rfl

theorem NCopy_c (p : Nat) (xs : List PMsg) (lost : Int) (i : Int) {W : World} {R : List HP} {w : World} (hS : Sat W (NetP 51 32 58 107 5 61 87 73 p xs lost :: R) w)  : Calls Tryz.prog 12 [.pointer (some ⟨p, 0, none⟩), .int .i64 i].toArray w (Ret fun v w' => v = .bool (copyB xs i) ∧ Sat W (NetP 51 32 58 107 5 61 87 73 p (copyS xs i) lost :: R) w') := by
 refine fn_start 33 Tryz.func12 rfl rfl rfl ?_
 intro a hf
 refine c_seq (c_region ?_)
 refine aN hf hS ?_; clear hf; intro a hf
 refine done_l (t_normal (c_seq (c_region ?_)))
 iterate 2 (refine mN hf hS ?_; clear hf; intro a hf)
 refine step_l (st_call hf (Wn.none rfl) rfl rfl rfl fn9 (NAt_c _ _ _ _ (hS.selA)) rfl rfl ?_)
 clear hf hS; rintro v a w ⟨bb, kd, fr, tn, op, fo, ky, bk, es, qe, ce, ds, qd, cd, ms, qm, cm, rfl, hibb, hxbb, hkbb, hS⟩ hf
 refine mN hf hS ?_; clear hf; intro a hf
 refine sR hf hS (rd_extract hf rfl rfl rfl) ?_; clear hf; intro a hf
 refine step_l (st_rdb hf (Wn.none rfl) (rd_extract hf rfl rfl rfl) hS rfl rfl ?_ ?_)
 ·
  clear hf; intro hc1 a hf
  have hb0 := hc1
  refine sA hf hS zr32 ?_
  clear hf hS; intro b_m a w hf hS
  refine sS hf hS sz32 ?_
  clear hf hS; intro a w hf hS
  refine aN hf hS ?_; clear hf; intro a hf
  refine done_l (t_normal (c_seq (c_seq ?_)))
  obtain ⟨q, cap, L, h1, h2, h3, h4, hS⟩ := net_open (hS.selA)
  refine c_region ?_
  refine mN hf hS ?_; clear hf; intro a hf
  refine nT hf hS ?_; clear hf; intro a hf
  iterate 2 ((first | refine mN hf hS ?_ | refine step_l (st_rd hf (Wn.some hf rfl rfl rfl rfl) (rd_move hf rfl rfl) hS rfl rfl ?_)); clear hf; intro a hf)
  refine sG hf hS (rd_nilCheck hf rfl rfl) ?_; clear hf; intro a hf
  refine fG hf hS fb51_0 ?_; clear hf; intro a hf
  refine sG hf hS (rd_ld hf ag25) ?_; clear hf; intro a hf
  refine sG hf hS (rd_len hf rfl rfl Tryz.underlying25) ?_; clear hf; intro a hf
  refine step_l (st_rdB hf (Wn.some hf rfl rfl rfl rfl) (rd_geq hf rfl rfl rfl) hS rfl rfl ?_ ?_)
  ·
   clear hf; intro hc3 a hf
   refine pF hf hS ?_; clear hf; intro a hf
   refine done_l (t_normal ?_)
   refine c_true hf rfl ?_
   refine c_seq (c_region ?_)
   refine aN hf hS ?_; clear hf; intro a hf
   refine done_l (t_normal (c_ret (t_ret ?_)))
   refine eT hf ?_
   obtain ⟨e1, e2⟩ := copyS_no (xs := xs) (i := i) (by first | exact .inl (hibb.symm.trans hb0) | exact .inr (by omega))
   rw [e1, e2]; exact ⟨rfl, net_shut (hS.subA) h1 h2 h3 rfl rfl⟩
  clear hf; intro hc3 a hf
  refine pF hf hS ?_; clear hf; intro a hf
  refine done_l (t_normal ?_)
  refine c_false hf rfl ?_
  refine c_skip (t_normal (c_seq ?_))
  refine any_begin (S := Sat W (R)) mixed (hS.drew.subA) ?_
  have hT : Sat W (R) _ := hS.drew.subA
  replace hS := hS.drew
  refine any_takeA (i := 0) hf rfl (Wn.none rfl) (rd_move hf rfl rfl) hT rfl rfl ?_; clear hf; intro a hf
  refine any_takeA (i := 1) hf rfl (Wn.none rfl) (rd_move hf rfl rfl) hT rfl rfl ?_; clear hf; intro a hf
  refine any_takeA (i := 2) hf rfl (Wn.none rfl) (rd_nilCheck hf rfl rfl) hT rfl rfl ?_; clear hf; intro a hf
  refine any_takeA (i := 3) hf rfl (Wn.none rfl) (rd_fieldAddrB hf rfl rfl fb51_0 rfl) hT rfl rfl ?_; clear hf; intro a hf
  refine any_two (i := 4) (j := 5) rfl rfl (by kernel_rfl) ?_ ?_
  ·
   skip
   refine st_rd hf (Wn.none rfl) (rd_ld hf ag25) hS rfl rfl ?_; clear hf; intro a hf
   refine ⟨hT, ?_⟩
   refine any_one (i := 5) rfl (by kernel_rfl) (st_rd hf (Wn.none rfl) (rd_ldN hf ag32 sz32) hS rfl rfl ?_)
   clear hf; intro a hf
   refine ⟨hT, ?_⟩
   refine any_one (i := 6) rfl (by kernel_rfl) (st_buildSlice hf (Wn.none rfl) hS rfl rfl Tryz.underlying25 sz32 zr32 (by decide) bz32_1 rfl (.cons rfl (by first | rfl) (by rfl) (by repeat (first | exact Put.nil | apply Put.cons | apply Put.succ)) .nil) rfl rfl ?_)
   clear hf hS; intro b_4 a w hf hS
   replace hT := hS.subA' hT
   refine ⟨hT, ?_⟩
   refine any_one (i := 7) rfl (by kernel_rfl) (st_appendL hf (Wn.none rfl) rfl rfl rfl Tryz.underlying25 tyb32 (by rfl) (by decide) hS (by repeat (first | exact Sel.head | apply Sel.tail)) (by first | exact hS.slOfBlk (by repeat (first | exact Sel.head | apply Sel.tail)) (by rfl) | exact hS.slOfBlkPre (by repeat (first | exact Sel.head | apply Sel.tail)) (bvs_len1 _) | exact hS.slOfRw (by repeat (first | exact Sel.head | apply Sel.tail)) | exact SlAt.nil _ _ _) (by first | rfl | exact bvs_one _ | (simp [Value.oneCell']; done) | exact (show List.all (msgC ((kd, fr, tn, op, fo, ky, bk, (qe, ce, es), (qd, cd, ds), (qm, cm, ms), ()) : MsgT)) _ = true from rfl)) (by omega) rfl rfl ?_)
   clear hf hS; intro pA capA a w hf hS hnilA
   replace hT := hS.subA' hT
   refine ⟨hT, ?_⟩
   refine any_takeA (i := 8) hf rfl (Wn.none rfl) (rd_nilCheck hf rfl rfl) hT rfl rfl ?_; clear hf; intro a hf
   refine any_takeA (i := 9) hf rfl (Wn.none rfl) (rd_fieldAddrB hf rfl rfl fb51_0 rfl) hT rfl rfl ?_; clear hf; intro a hf
   refine any_one (i := 10) rfl (by kernel_rfl) (st_store hf (Wn.none rfl) hS rfl rfl rfl (by rfl) sz25 (by rfl) (by rfl) (by repeat (first | exact Sel.head | apply Sel.tail)) (by repeat (first | exact Put.nil | apply Put.cons | apply Put.succ)) rfl ?_)
   clear hf hS; intro a w hf hS
   replace hT := hS.subA' hT
   refine ⟨hT, ?_⟩
   refine any_done (by kernel_rfl) ?_
   refine t_normal (c_seq (c_region ?_))
   refine aN hf hS ?_; clear hf; intro a hf
   refine done_l (t_normal (c_ret ?_))
   refine eT hf ?_
   obtain ⟨e1, e2⟩ := copyS_yes (xs := xs) (i := i) (hibb.symm.trans hb0) (by omega)
   rw [e1, e2, ← hxbb hb0]; exact ⟨rfl, net_push (x := ((kd, fr, tn, op, fo, ky, bk, (qe, ce, es), (qd, cd, ds), (qm, cm, ms), ()) : MsgT)) (hS.subA) rfl h1 h2 (by omega) hkbb⟩
  ·
   skip
   refine st_rd hf (Wn.none rfl) (rd_ldN hf ag32 sz32) hS rfl rfl ?_; clear hf; intro a hf
   refine ⟨hT, ?_⟩
   refine any_two (i := 4) (j := 6) rfl rfl (by kernel_rfl) ?_ ?_
   ·
    skip
    refine st_rd hf (Wn.none rfl) (rd_ld hf ag25) hS rfl rfl ?_; clear hf; intro a hf
    refine ⟨hT, ?_⟩
    refine any_one (i := 6) rfl (by kernel_rfl) (st_buildSlice hf (Wn.none rfl) hS rfl rfl Tryz.underlying25 sz32 zr32 (by decide) bz32_1 rfl (.cons rfl (by first | rfl) (by rfl) (by repeat (first | exact Put.nil | apply Put.cons | apply Put.succ)) .nil) rfl rfl ?_)
    clear hf hS; intro b_6 a w hf hS
    replace hT := hS.subA' hT
    refine ⟨hT, ?_⟩
    refine any_one (i := 7) rfl (by kernel_rfl) (st_appendL hf (Wn.none rfl) rfl rfl rfl Tryz.underlying25 tyb32 (by rfl) (by decide) hS (by repeat (first | exact Sel.head | apply Sel.tail)) (by first | exact hS.slOfBlk (by repeat (first | exact Sel.head | apply Sel.tail)) (by rfl) | exact hS.slOfBlkPre (by repeat (first | exact Sel.head | apply Sel.tail)) (bvs_len1 _) | exact hS.slOfRw (by repeat (first | exact Sel.head | apply Sel.tail)) | exact SlAt.nil _ _ _) (by first | rfl | exact bvs_one _ | (simp [Value.oneCell']; done) | exact (show List.all (msgC ((kd, fr, tn, op, fo, ky, bk, (qe, ce, es), (qd, cd, ds), (qm, cm, ms), ()) : MsgT)) _ = true from rfl)) (by omega) rfl rfl ?_)
    clear hf hS; intro pA capA a w hf hS hnilA
    replace hT := hS.subA' hT
    refine ⟨hT, ?_⟩
    refine any_takeA (i := 8) hf rfl (Wn.none rfl) (rd_nilCheck hf rfl rfl) hT rfl rfl ?_; clear hf; intro a hf
    refine any_takeA (i := 9) hf rfl (Wn.none rfl) (rd_fieldAddrB hf rfl rfl fb51_0 rfl) hT rfl rfl ?_; clear hf; intro a hf
    refine any_one (i := 10) rfl (by kernel_rfl) (st_store hf (Wn.none rfl) hS rfl rfl rfl (by rfl) sz25 (by rfl) (by rfl) (by repeat (first | exact Sel.head | apply Sel.tail)) (by repeat (first | exact Put.nil | apply Put.cons | apply Put.succ)) rfl ?_)
    clear hf hS; intro a w hf hS
    replace hT := hS.subA' hT
    refine ⟨hT, ?_⟩
    refine any_done (by kernel_rfl) ?_
    refine t_normal (c_seq (c_region ?_))
    refine aN hf hS ?_; clear hf; intro a hf
    refine done_l (t_normal (c_ret ?_))
    refine eT hf ?_
    obtain ⟨e1, e2⟩ := copyS_yes (xs := xs) (i := i) (hibb.symm.trans hb0) (by omega)
    rw [e1, e2, ← hxbb hb0]; exact ⟨rfl, net_push (x := ((kd, fr, tn, op, fo, ky, bk, (qe, ce, es), (qd, cd, ds), (qm, cm, ms), ()) : MsgT)) (hS.subA) rfl h1 h2 (by omega) hkbb⟩
   ·
    skip
    refine st_buildSlice hf (Wn.none rfl) hS rfl rfl Tryz.underlying25 sz32 zr32 (by decide) bz32_1 rfl (.cons rfl (by first | rfl) (by rfl) (by repeat (first | exact Put.nil | apply Put.cons | apply Put.succ)) .nil) rfl rfl ?_
    clear hf hS; intro b_8 a w hf hS
    replace hT := hS.subA' hT
    refine ⟨hT, ?_⟩
    refine any_one (i := 4) rfl (by kernel_rfl) (st_rd hf (Wn.none rfl) (rd_ld hf ag25) hS rfl rfl ?_)
    clear hf; intro a hf
    refine ⟨hT, ?_⟩
    refine any_one (i := 7) rfl (by kernel_rfl) (st_appendL hf (Wn.none rfl) rfl rfl rfl Tryz.underlying25 tyb32 (by rfl) (by decide) hS (by repeat (first | exact Sel.head | apply Sel.tail)) (by first | exact hS.slOfBlk (by repeat (first | exact Sel.head | apply Sel.tail)) (by rfl) | exact hS.slOfBlkPre (by repeat (first | exact Sel.head | apply Sel.tail)) (bvs_len1 _) | exact hS.slOfRw (by repeat (first | exact Sel.head | apply Sel.tail)) | exact SlAt.nil _ _ _) (by first | rfl | exact bvs_one _ | (simp [Value.oneCell']; done) | exact (show List.all (msgC ((kd, fr, tn, op, fo, ky, bk, (qe, ce, es), (qd, cd, ds), (qm, cm, ms), ()) : MsgT)) _ = true from rfl)) (by omega) rfl rfl ?_)
    clear hf hS; intro pA capA a w hf hS hnilA
    replace hT := hS.subA' hT
    refine ⟨hT, ?_⟩
    refine any_takeA (i := 8) hf rfl (Wn.none rfl) (rd_nilCheck hf rfl rfl) hT rfl rfl ?_; clear hf; intro a hf
    refine any_takeA (i := 9) hf rfl (Wn.none rfl) (rd_fieldAddrB hf rfl rfl fb51_0 rfl) hT rfl rfl ?_; clear hf; intro a hf
    refine any_one (i := 10) rfl (by kernel_rfl) (st_store hf (Wn.none rfl) hS rfl rfl rfl (by rfl) sz25 (by rfl) (by rfl) (by repeat (first | exact Sel.head | apply Sel.tail)) (by repeat (first | exact Put.nil | apply Put.cons | apply Put.succ)) rfl ?_)
    clear hf hS; intro a w hf hS
    replace hT := hS.subA' hT
    refine ⟨hT, ?_⟩
    refine any_done (by kernel_rfl) ?_
    refine t_normal (c_seq (c_region ?_))
    refine aN hf hS ?_; clear hf; intro a hf
    refine done_l (t_normal (c_ret ?_))
    refine eT hf ?_
    obtain ⟨e1, e2⟩ := copyS_yes (xs := xs) (i := i) (hibb.symm.trans hb0) (by omega)
    rw [e1, e2, ← hxbb hb0]; exact ⟨rfl, net_push (x := ((kd, fr, tn, op, fo, ky, bk, (qe, ce, es), (qd, cd, ds), (qm, cm, ms), ()) : MsgT)) (hS.subA) rfl h1 h2 (by omega) hkbb⟩
 clear hf; intro hc1 a hf
 have hb0 := hc1
 refine sA hf hS zr32 ?_
 clear hf hS; intro b_m a w hf hS
 refine sS hf hS sz32 ?_
 clear hf hS; intro a w hf hS
 refine aN hf hS ?_; clear hf; intro a hf
 refine done_l (t_normal (c_seq (c_seq ?_)))
 obtain ⟨q, cap, L, h1, h2, h3, h4, hS⟩ := net_open (hS.selA)
 refine c_region ?_
 refine mN hf hS ?_; clear hf; intro a hf
 refine nT hf hS ?_; clear hf; intro a hf
 iterate 8 ((first | refine kS hf ?_ | refine mN hf hS ?_ | refine pT hf hS ?_); clear hf; intro a hf)
 refine done_l (t_normal ?_)
 refine c_true hf rfl ?_
 refine c_seq (c_region ?_)
 refine aN hf hS ?_; clear hf; intro a hf
 refine done_l (t_normal (c_ret (t_ret ?_)))
 refine eT hf ?_
 obtain ⟨e1, e2⟩ := copyS_no (xs := xs) (i := i) (by first | exact .inl (hibb.symm.trans hb0) | exact .inr (by omega))
 rw [e1, e2]; exact ⟨rfl, net_shut (hS.subA) h1 h2 h3 rfl rfl⟩

theorem NTake_c (p : Nat) (xs : List PMsg) (lost : Int) (i : Int) {W : World} {R : List HP} {w : World} (hS : Sat W (NetP 51 32 58 107 5 61 87 73 p xs lost :: R) w)  : Calls Tryz.prog 10 [.pointer (some ⟨p, 0, none⟩), .int .i64 i].toArray w (Ret fun v w' => ∃ (bb : Bool) (kd fr tn op fo : Int) (ky : List UInt8) (bk : Int) (es : List EntT) (qe : Option Addr) (ce : Nat) (ds : List DigT) (qd : Option Addr) (cd : Nat) (ms : List MemT) (qm : Option Addr) (cm : Nat), v = .tuple #[.agg #[.int .i64 kd, .int .i64 fr, .int .i64 tn, .int .i64 op, .int .i64 fo, .string (str ky), .int .i64 bk, .slice qe es.length ce, .slice qd ds.length cd, .slice qm ms.length cm], .bool bb] ∧ bb = inS xs i ∧ (bb = true → (⟨kd, fr, tn, op, fo, ky, bk, es.map pEnt, ds.map pDig, ms.map pDot⟩ : PMsg) = plP (xs.getD i.toNat zeroM)) ∧ okMsg ((kd, fr, tn, op, fo, ky, bk, (qe, ce, es), (qd, cd, ds), (qm, cm, ms), ()) : MsgT) ∧ Sat W (EntR 58 107 5 (qe, ce, es) :: DigR 61 87 (qd, cd, ds) :: Rw 73 2 qm ms.length cm (ms.flatMap dotC) :: NetP 51 32 58 107 5 61 87 73 p (takeS xs i) lost :: R) w') := by
 refine fn_start 35 Tryz.func10 rfl rfl rfl ?_
 intro a hf
 refine c_seq (c_region ?_)
 refine sA hf hS zr32 ?_
 clear hf hS; intro b_r a w hf hS
 refine aN hf hS ?_; clear hf; intro a hf
 refine done_l (t_normal (c_seq (c_region ?_)))
 iterate 2 (refine mN hf hS ?_; clear hf; intro a hf)
 refine step_l (st_call hf (Wn.none rfl) rfl rfl rfl fn9 (NAt_c _ _ _ _ (hS.selA)) rfl rfl ?_)
 clear hf hS; rintro v a w ⟨bb, kd, fr, tn, op, fo, ky, bk, es, qe, ce, ds, qd, cd, ms, qm, cm, rfl, hibb, hxbb, hkbb, hS⟩ hf
 refine mN hf hS ?_; clear hf; intro a hf
 refine sR hf hS (rd_extract hf rfl rfl rfl) ?_; clear hf; intro a hf
 refine step_l (st_rdb hf (Wn.none rfl) (rd_extract hf rfl rfl rfl) hS rfl rfl ?_ ?_)
 ·
  clear hf; intro hc2 a hf
  have hb0 := hc2
  refine sA hf hS zr32 ?_
  clear hf hS; intro b_m a w hf hS
  refine sS hf hS sz32 ?_
  clear hf hS; intro a w hf hS
  refine aN hf hS ?_; clear hf; intro a hf
  refine done_l (t_normal (c_seq (c_seq (c_region ?_))))
  refine mN hf hS ?_; clear hf; intro a hf
  refine done_l (t_normal ?_)
  refine c_true hf rfl ?_
  obtain ⟨q, cap, L, h1, h2, h3, h4, hS⟩ := net_open (hS.selA)
  obtain ⟨hi0, hi1⟩ := inS_yes (hibb.symm.trans hb0)
  obtain ⟨j, rfl⟩ : ∃ j : Nat, i = (j : Int) := ⟨i.toNat, by omega⟩
  have hlc := (hS.rlLen (len := L.length) (by repeat (first | exact Sel.head | apply Sel.tail))).2.1
  refine any_begin (S := Sat W (R)) mixed (hS.drew.subA) ?_
  have hT : Sat W (R) _ := hS.drew.subA
  replace hS := hS.drew
  refine any_takeA (i := 0) hf rfl (Wn.none rfl) (rd_move hf rfl rfl) hT rfl rfl ?_; clear hf; intro a hf
  refine any_takeA (i := 1) hf rfl (Wn.none rfl) (rd_move hf rfl rfl) hT rfl rfl ?_; clear hf; intro a hf
  refine any_takeA (i := 2) hf rfl (Wn.none rfl) (rd_nilCheck hf rfl rfl) hT rfl rfl ?_; clear hf; intro a hf
  refine any_takeA (i := 3) hf rfl (Wn.none rfl) (rd_fieldAddrB hf rfl rfl fb51_0 rfl) hT rfl rfl ?_; clear hf; intro a hf
  refine any_takeA (i := 5) hf rfl (Wn.none rfl) (rd_move hf rfl rfl) hT rfl rfl ?_; clear hf; intro a hf
  refine any_takeA (i := 6) hf rfl (Wn.none rfl) (rd_move hf rfl rfl) hT rfl rfl ?_; clear hf; intro a hf
  refine any_takeA (i := 8) hf rfl (Wn.none rfl) (rd_move hf rfl rfl) hT rfl rfl ?_; clear hf; intro a hf
  refine any_takeA (i := 9) hf rfl (Wn.none rfl) (rd_nilCheck hf rfl rfl) hT rfl rfl ?_; clear hf; intro a hf
  refine any_takeA (i := 10) hf rfl (Wn.none rfl) (rd_fieldAddrB hf rfl rfl fb51_0 rfl) hT rfl rfl ?_; clear hf; intro a hf
  refine any_takeA (i := 12) hf rfl (Wn.none rfl) (rd_move hf rfl rfl) hT rfl rfl ?_; clear hf; intro a hf
  refine any_takeA (i := 13) hf rfl (Wn.none rfl) (rd_add hf rfl rfl rfl (by first | exact Go.IntWalk.i64_in _ (by omega) | exact rfl)) hT rfl rfl ?_; clear hf; intro a hf
  refine any_two (i := 4) (j := 11) rfl rfl (by kernel_rfl) ?_ ?_
  ·
   skip
   refine st_rd hf (Wn.none rfl) (rd_ld hf ag25) hS rfl rfl ?_; clear hf; intro a hf
   refine ⟨hT, ?_⟩
   refine any_takeA (i := 7) hf rfl (Wn.none rfl) (rd_slice3H hf rfl rfl rfl rfl Tryz.underlying25 sz32 (by omega) (by omega) (by omega)) hT rfl rfl ?_; clear hf; intro a hf
   refine any_one (i := 11) rfl (by kernel_rfl) (st_rd hf (Wn.none rfl) (rd_ld hf ag25) hS rfl rfl ?_)
   clear hf; intro a hf
   refine ⟨hT, ?_⟩
   refine any_takeA (i := 14) hf rfl (Wn.none rfl) (rd_sliceL hf rfl rfl rfl Tryz.underlying25 sz32 (by omega) (by omega)) hT rfl rfl ?_; clear hf; intro a hf
   have hys := (hS.slOfRl (len := L.length) (by repeat (first | exact Sel.head | apply Sel.tail))).drop (k := ((j : Int) + 1).toNat) (c := cap) (by omega) hlc; replace hS := (hS.selA : Sat W (Rl 32 10 q L.length cap (L.flatMap msgC) :: _) _).rlTake (k := ((j : Int)).toNat) (by omega)
   refine any_one (i := 15) rfl (by kernel_rfl) (st_appendL hf (Wn.none rfl) rfl rfl rfl Tryz.underlying25 tyb32 (by rfl) (by decide) hS (by repeat (first | exact Sel.head | apply Sel.tail)) (by first | exact hS.slOfBlk (by repeat (first | exact Sel.head | apply Sel.tail)) (by rfl) | exact hS.slOfBlkPre (by repeat (first | exact Sel.head | apply Sel.tail)) (bvs_len1 _) | exact hS.slOfRw (by repeat (first | exact Sel.head | apply Sel.tail)) | exact SlAt.nil _ _ _ | exact hys) (by first | rfl | exact bvs_one _ | (simp [Value.oneCell']; done) | exact one_drop (one_msg L)) (by omega) rfl rfl ?_)
   clear hf hS; intro pA capA a w hf hS hnilA
   replace hT := hS.subA' hT
   refine ⟨hT, ?_⟩
   refine any_takeA (i := 16) hf rfl (Wn.none rfl) (rd_nilCheck hf rfl rfl) hT rfl rfl ?_; clear hf; intro a hf
   refine any_takeA (i := 17) hf rfl (Wn.none rfl) (rd_fieldAddrB hf rfl rfl fb51_0 rfl) hT rfl rfl ?_; clear hf; intro a hf
   refine any_one (i := 18) rfl (by kernel_rfl) (st_store hf (Wn.none rfl) hS rfl rfl rfl (by rfl) sz25 (by rfl) (by rfl) (by repeat (first | exact Sel.head | apply Sel.tail)) (by repeat (first | exact Put.nil | apply Put.cons | apply Put.succ)) rfl ?_)
   clear hf hS; intro a w hf hS
   replace hT := hS.subA' hT
   refine ⟨hT, ?_⟩
   refine any_done (by kernel_rfl) ?_
   refine t_normal (c_seq (c_region ?_))
   refine sR hf hS (rd_ldN hf ag32 sz32) ?_; clear hf; intro a hf
   refine mN hf hS ?_; clear hf; intro a hf
   refine sS hf hS sz32 ?_
   clear hf hS; intro a w hf hS
   refine aN hf hS ?_; clear hf; intro a hf
   refine done_l (t_normal (c_ret ?_))
   refine eC hf hS ag32 sz32 ?_
   have ht : takeS xs (j : Int) = _ := if_pos (hibb.symm.trans hb0)
   exact ⟨true, kd, fr, tn, op, fo, ky, bk, es, qe, ce, ds, qd, cd, ms, qm, cm, rfl, hb0.symm.trans hibb, (fun _ => hxbb hb0), hkbb, by rw [ht]; exact (show Sat W (NetP 51 32 58 107 5 61 87 73 p (xs.take (j : Int).toNat ++ xs.drop ((j : Int).toNat + 1)) lost :: EntR 58 107 5 (qe, ce, es) :: DigR 61 87 (qd, cd, ds) :: Rw 73 2 qm ms.length cm (ms.flatMap dotC) :: R) w from net_cut (i := (j : Int).toNat) (L := L) (hS.subA) h1 h2 h3 (by omega) (by omega) rfl (by rw [show ((j : Int) + 1).toNat = (j : Int).toNat + 1 by omega])).subA⟩
  ·
   skip
   refine st_rd hf (Wn.none rfl) (rd_ld hf ag25) hS rfl rfl ?_; clear hf; intro a hf
   refine ⟨hT, ?_⟩
   refine any_takeA (i := 14) hf rfl (Wn.none rfl) (rd_sliceL hf rfl rfl rfl Tryz.underlying25 sz32 (by omega) (by omega)) hT rfl rfl ?_; clear hf; intro a hf
   refine any_one (i := 4) rfl (by kernel_rfl) (st_rd hf (Wn.none rfl) (rd_ld hf ag25) hS rfl rfl ?_)
   clear hf; intro a hf
   refine ⟨hT, ?_⟩
   refine any_takeA (i := 7) hf rfl (Wn.none rfl) (rd_slice3H hf rfl rfl rfl rfl Tryz.underlying25 sz32 (by omega) (by omega) (by omega)) hT rfl rfl ?_; clear hf; intro a hf
   have hys := (hS.slOfRl (len := L.length) (by repeat (first | exact Sel.head | apply Sel.tail))).drop (k := ((j : Int) + 1).toNat) (c := cap) (by omega) hlc; replace hS := (hS.selA : Sat W (Rl 32 10 q L.length cap (L.flatMap msgC) :: _) _).rlTake (k := ((j : Int)).toNat) (by omega)
   refine any_one (i := 15) rfl (by kernel_rfl) (st_appendL hf (Wn.none rfl) rfl rfl rfl Tryz.underlying25 tyb32 (by rfl) (by decide) hS (by repeat (first | exact Sel.head | apply Sel.tail)) (by first | exact hS.slOfBlk (by repeat (first | exact Sel.head | apply Sel.tail)) (by rfl) | exact hS.slOfBlkPre (by repeat (first | exact Sel.head | apply Sel.tail)) (bvs_len1 _) | exact hS.slOfRw (by repeat (first | exact Sel.head | apply Sel.tail)) | exact SlAt.nil _ _ _ | exact hys) (by first | rfl | exact bvs_one _ | (simp [Value.oneCell']; done) | exact one_drop (one_msg L)) (by omega) rfl rfl ?_)
   clear hf hS; intro pA capA a w hf hS hnilA
   replace hT := hS.subA' hT
   refine ⟨hT, ?_⟩
   refine any_takeA (i := 16) hf rfl (Wn.none rfl) (rd_nilCheck hf rfl rfl) hT rfl rfl ?_; clear hf; intro a hf
   refine any_takeA (i := 17) hf rfl (Wn.none rfl) (rd_fieldAddrB hf rfl rfl fb51_0 rfl) hT rfl rfl ?_; clear hf; intro a hf
   refine any_one (i := 18) rfl (by kernel_rfl) (st_store hf (Wn.none rfl) hS rfl rfl rfl (by rfl) sz25 (by rfl) (by rfl) (by repeat (first | exact Sel.head | apply Sel.tail)) (by repeat (first | exact Put.nil | apply Put.cons | apply Put.succ)) rfl ?_)
   clear hf hS; intro a w hf hS
   replace hT := hS.subA' hT
   refine ⟨hT, ?_⟩
   refine any_done (by kernel_rfl) ?_
   refine t_normal (c_seq (c_region ?_))
   refine sR hf hS (rd_ldN hf ag32 sz32) ?_; clear hf; intro a hf
   refine mN hf hS ?_; clear hf; intro a hf
   refine sS hf hS sz32 ?_
   clear hf hS; intro a w hf hS
   refine aN hf hS ?_; clear hf; intro a hf
   refine done_l (t_normal (c_ret ?_))
   refine eC hf hS ag32 sz32 ?_
   have ht : takeS xs (j : Int) = _ := if_pos (hibb.symm.trans hb0)
   exact ⟨true, kd, fr, tn, op, fo, ky, bk, es, qe, ce, ds, qd, cd, ms, qm, cm, rfl, hb0.symm.trans hibb, (fun _ => hxbb hb0), hkbb, by rw [ht]; exact (show Sat W (NetP 51 32 58 107 5 61 87 73 p (xs.take (j : Int).toNat ++ xs.drop ((j : Int).toNat + 1)) lost :: EntR 58 107 5 (qe, ce, es) :: DigR 61 87 (qd, cd, ds) :: Rw 73 2 qm ms.length cm (ms.flatMap dotC) :: R) w from net_cut (i := (j : Int).toNat) (L := L) (hS.subA) h1 h2 h3 (by omega) (by omega) rfl (by rw [show ((j : Int) + 1).toNat = (j : Int).toNat + 1 by omega])).subA⟩
 clear hf; intro hc2 a hf
 have hb0 := hc2
 refine sA hf hS zr32 ?_
 clear hf hS; intro b_m a w hf hS
 refine sS hf hS sz32 ?_
 clear hf hS; intro a w hf hS
 refine aN hf hS ?_; clear hf; intro a hf
 refine done_l (t_normal (c_seq (c_seq (c_region ?_))))
 refine mN hf hS ?_; clear hf; intro a hf
 refine done_l (t_normal ?_)
 refine c_false hf rfl ?_
 refine c_skip (t_normal (c_seq (c_region ?_)))
 refine sR hf hS (rd_ldN hf ag32 sz32) ?_; clear hf; intro a hf
 refine mN hf hS ?_; clear hf; intro a hf
 refine sS hf hS sz32 ?_
 clear hf hS; intro a w hf hS
 refine aN hf hS ?_; clear hf; intro a hf
 refine done_l (t_normal (c_ret ?_))
 refine eC hf hS ag32 sz32 ?_
 have ht : takeS xs i = xs := if_neg (by rw [← hibb, hb0]; decide)
 exact ⟨false, kd, fr, tn, op, fo, ky, bk, es, qe, ce, ds, qd, cd, ms, qm, cm, rfl, hb0.symm.trans hibb, (fun h => by cases h), hkbb, by rw [ht]; exact hS.subA⟩

set_option maxRecDepth 100000 in
set_option maxHeartbeats 4000000 in
theorem NSend_c (p : Nat) (xs : List PMsg) (lost : Int) (L : List MsgT) (ql : Option Addr) (cl : Nat) {W : World} {R : List HP} {w : World} (hS : Sat W (NetP 51 32 58 107 5 61 87 73 p xs lost :: R) w) (hvL : ∀ w, Sat W R w → MsgsAt w (ql, cl, L)) (hl0 : 0 ≤ lost ∧ lost + L.length ≤ 9223372036854775807) : Calls Tryz.prog 8 [.pointer (some ⟨p, 0, none⟩), .slice ql L.length cl].toArray w (Ret fun v w' => v = .int .i64 ((sendS (L.map pMsg) (xs, lost, 0)).2.2 : Nat) ∧ Sat W (NetP 51 32 58 107 5 61 87 73 p (sendS (L.map pMsg) (xs, lost, 0)).1 (sendS (L.map pMsg) (xs, lost, 0)).2.1 :: R) w') := by
 refine fn_start 61 Tryz.func8 rfl rfl rfl ?_
 intro a hf
 refine c_seq (c_region ?_)
 refine aN hf hS ?_; clear hf; intro a hf
 refine done_l (t_normal (c_seq (c_seq (c_region ?_))))
 refine mN hf hS ?_; clear hf; intro a hf
 refine step_l (st_rdb hf (Wn.none rfl) (rd_eqlNilP hf rfl rfl rfl Tryz.underlying23) hS rfl rfl ?_ ?_)
 ·
  clear hf; intro hc1 a hf
  exact Bool.noConfusion hc1
 clear hf; intro hc1 a hf
 refine done_l (t_normal ?_)
 refine c_false hf rfl ?_
 refine c_skip (t_normal (c_seq (c_region ?_)))
 refine aN hf hS ?_; clear hf; intro a hf
 refine done_l (t_normal (c_seq (c_seq (c_region ?_))))
 refine mN hf hS ?_; clear hf; intro a hf
 refine sR hf hS (rd_len hf rfl rfl Tryz.underlying25) ?_; clear hf; intro a hf
 refine mN hf hS ?_; clear hf; intro a hf
 refine done_l (t_normal (c_block ?_))
 have hk0 := Keep.ofA hf [(5, 5), (7, 11), (16, 59)]
 refine c_loopK hk0 (α := Nat) (fun k => [(5, .int .i64 ((sendS ((L.map pMsg).take k) (xs, lost, 0)).2.2 : Nat)), (16, .int .i64 (k : Nat))]) (fun k w => Sat W (NetP 51 32 58 107 5 61 87 73 p (sendS ((L.map pMsg).take k) (xs, lost, 0)).1 (sendS ((L.map pMsg).take k) (xs, lost, 0)).2.1 :: R) w ∧ k ≤ L.length) (fun k => L.length - k) 0 (((hf.keep hk0).kb hf 16 rfl (by first | rfl | exact int_eq (by omega))).kb hf 5 rfl (by rfl)) ⟨(hS.subA), by omega⟩ ?_
 clear hf hS; rintro k a w hf ⟨hS, hk⟩; (try dsimp only [List.cons_append, List.nil_append] at hf)
 refine c_seq (c_region ?_)
 refine sB hf hS (rd_lss hf rfl rfl rfl) ?_ ?_
 ·
  clear hf; intro hc2 a hf
  obtain ⟨x, hget⟩ := get_of_lt (l := L) (k := k) (by omega) rfl; obtain ⟨ad, rfl⟩ := (hvL _ (hS.subA)).some (by omega); have hmv := fun w h => (hvL w h).in hget; obtain ⟨kd, fr, tn, op, fo, ky, bk, ⟨qe, ce, es⟩, ⟨qd, cd, ds⟩, ⟨qm, cm, ms⟩, _⟩ := x; have h8 := (hmv _ (hS.subA)).vec8; have hst := sendS_step (s := (xs, lost, 0)) (map_get pMsg hget); have hin := sendS_in ((L.map pMsg).take k) (xs, lost, 0); rw [List.length_take, List.length_map] at hin; obtain ⟨ys, lo, ct, hS0⟩ : ∃ ys lo ct, (sendS ((L.map pMsg).take k) (xs, lost, 0)) = (ys, lo, ct) := ⟨_, _, _, rfl⟩; rw [hS0] at hst hin hf hS; dsimp only at hin hf hS; change _ = sendX (ys, lo, ct) (⟨kd, fr, tn, op, fo, ky, bk, es.map pEnt, ds.map pDig, ms.map pDot⟩ : PMsg) at hst
  refine done_l (t_normal (c_seq ?_))
  refine c_true hf rfl ?_
  refine c_skip (t_normal (c_seq (c_block (c_seq (c_region ?_)))))
  refine sR hf hS ((by first | exact rd_indexAddrN hf rfl rfl rfl Tryz.underlying25 sz32 (by omega) | exact rd_indexAddr hf rfl rfl rfl Tryz.underlying25 sz32 (by first | decide | omega) (by omega))) ?_; clear hf; intro a hf
  refine sR hf hS (rd_loadN hf rfl rfl ag32 sz32 (by intro _ h; exact (show AggAt _ _ _ [.int .i64 kd, .int .i64 fr, .int .i64 tn, .int .i64 op, .int .i64 fo, .string (str ky), .int .i64 bk, .slice qe es.length ce, .slice qd ds.length cd, .slice qm ms.length cm] from (hvL _ (h.subA)).el hget))) ?_; clear hf; intro a hf
  refine sA hf hS zr32 ?_
  clear hf hS; intro b_m a w hf hS
  refine sS hf hS sz32 ?_
  clear hf hS; intro a w hf hS
  refine done_l ?_
  have hle := (hmv _ (hS.subA)).1.len; have hld := (hmv _ (hS.subA)).2.1.len; have hlm := (hmv _ (hS.subA)).2.2.len; (try dsimp only [mEs, mDs, mMs] at hle hld hlm)
  refine t_normal (c_seq (c_region ?_))
  refine sR hf hS (rd_ldN hf ag32 sz32) ?_; clear hf; intro a hf
  refine step_l (st_call hf (Wn.none rfl) rfl rfl rfl fn25 (Enc_c _ _ _ _ _ _ _ _ _ _ _ _ _ _ _ _  hS (fun _ h => (hmv _ (h.subA)).1) (fun _ h => (hmv _ (h.subA)).2.1) (fun _ h => (hmv _ (h.subA)).2.2) (by omega) (by omega) (by omega)) rfl rfl ?_)
  clear hf hS; rintro v a w ⟨qa, capa, rfl, hS⟩ hf
  refine mN hf hS ?_; clear hf; intro a hf
  refine sR hf hS (rd_extract hf rfl rfl rfl) ?_; clear hf; intro a hf
  refine sR hf hS (rd_extract hf rfl rfl rfl) ?_; clear hf; intro a hf
  iterate 2 (refine aN hf hS ?_; clear hf; intro a hf)
  refine done_l (t_normal (c_seq (c_seq ?_)))
  obtain ⟨q, cap, L0, h1, h2, h3, h4, hS⟩ := net_open (hS.selA)
  refine c_region ?_
  refine mN hf hS ?_; clear hf; intro a hf
  refine sB hf hS (rd_neq hf rfl rfl rfl) ?_ ?_
  ·
   clear hf; intro hc4 a hf
   have hE0 := hc4
   iterate 8 ((first | refine kS hf ?_ | refine mN hf hS ?_ | refine pT hf hS ?_); clear hf; intro a hf)
   refine done_l (t_normal ?_)
   refine c_true hf rfl ?_
   refine c_seq (c_region ?_)
   refine mN hf hS ?_; clear hf; intro a hf
   refine nC hf hS ?_; clear hf; intro a hf
   refine fA hf hS fb51_1 ?_; clear hf; intro a hf
   refine sR hf hS (rd_ld hf ag2) ?_; clear hf; intro a hf
   refine sP hf hS ?_; clear hf; intro a hf
   refine nC hf hS ?_; clear hf; intro a hf
   refine fA hf hS fb51_1 ?_; clear hf; intro a hf
   refine sS hf hS sz2 ?_
   clear hf hS; intro a w hf hS
   refine done_l (t_normal (c_exit (t_exit (b_exit (t_normal (c_region ?_))))))
   refine sP hf hS ?_; clear hf; intro a hf
   refine mN hf hS ?_; clear hf; intro a hf
   refine done_l ?_
   rw [sendX_no1 (show ¬ encE (⟨kd, fr, tn, op, fo, ky, bk, es.map pEnt, ds.map pDig, ms.map pDot⟩ : PMsg) = 0 from hE0)] at hst; replace hS := net_shut (xs := ys) (lost := lo + 1) (l := R) (hS.subA) h1 h2 h3 rfl rfl
   refine t_normal ⟨k + 1, (((hf.backA hk0).kb hf 16 rfl (by first | rfl | exact int_eq (by omega))).kb hf 5 rfl (by rw [hst]; first | done | exact int_eq (by dsimp only; omega))), ⟨(by rw [hst]; exact hS.subA), by omega⟩, by first | omega | (simp only []; omega)⟩
  clear hf; intro hc4 a hf
  have hE0 := Classical.not_not.1 hc4
  iterate 2 ((first | refine mN hf hS ?_ | refine step_l (st_rd hf (Wn.some hf rfl rfl rfl rfl) (rd_move hf rfl rfl) hS rfl rfl ?_)); clear hf; intro a hf)
  refine sG hf hS (rd_nilCheck hf rfl rfl) ?_; clear hf; intro a hf
  refine fG hf hS fb51_0 ?_; clear hf; intro a hf
  refine sG hf hS (rd_ld hf ag25) ?_; clear hf; intro a hf
  refine sG hf hS (rd_len hf rfl rfl Tryz.underlying25) ?_; clear hf; intro a hf
  refine step_l (st_rdB hf (Wn.some hf rfl rfl rfl rfl) (rd_geq hf rfl rfl rfl) hS rfl rfl ?_ ?_)
  ·
   clear hf; intro hc5 a hf
   refine pF hf hS ?_; clear hf; intro a hf
   refine done_l (t_normal ?_)
   refine c_true hf rfl ?_
   refine c_seq (c_region ?_)
   refine mN hf hS ?_; clear hf; intro a hf
   refine nC hf hS ?_; clear hf; intro a hf
   refine fA hf hS fb51_1 ?_; clear hf; intro a hf
   refine sR hf hS (rd_ld hf ag2) ?_; clear hf; intro a hf
   refine sP hf hS ?_; clear hf; intro a hf
   refine nC hf hS ?_; clear hf; intro a hf
   refine fA hf hS fb51_1 ?_; clear hf; intro a hf
   refine sS hf hS sz2 ?_
   clear hf hS; intro a w hf hS
   refine done_l (t_normal (c_exit (t_exit (b_exit (t_normal (c_region ?_))))))
   refine sP hf hS ?_; clear hf; intro a hf
   refine mN hf hS ?_; clear hf; intro a hf
   refine done_l ?_
   rw [sendX_no2 (show ¬ ys.length < 2000 by omega)] at hst; replace hS := net_shut (xs := ys) (lost := lo + 1) (l := R) (hS.subA) h1 h2 h3 rfl rfl
   refine t_normal ⟨k + 1, (((hf.backA hk0).kb hf 16 rfl (by first | rfl | exact int_eq (by omega))).kb hf 5 rfl (by rw [hst]; first | done | exact int_eq (by dsimp only; omega))), ⟨(by rw [hst]; exact hS.subA), by omega⟩, by first | omega | (simp only []; omega)⟩
  clear hf; intro hc5 a hf
  refine pF hf hS ?_; clear hf; intro a hf
  refine done_l (t_normal ?_)
  refine c_false hf rfl ?_
  refine c_skip (t_normal (c_seq (c_region ?_)))
  refine mN hf hS ?_; clear hf; intro a hf
  obtain ⟨hd1, hd2, hd3⟩ := dec_enc (show encE (⟨kd, fr, tn, op, fo, ky, bk, es.map pEnt, ds.map pDig, ms.map pDot⟩ : PMsg) = 0 from hE0) h8
  refine step_l (st_call hf (Wn.none rfl) rfl rfl rfl fn26 (Dec_c (encB (⟨kd, fr, tn, op, fo, ky, bk, es.map pEnt, ds.map pDig, ms.map pDot⟩ : PMsg)) _ _ hS (by have := hd3; omega) (hS.rwLen (len := (encB (⟨kd, fr, tn, op, fo, ky, bk, es.map pEnt, ds.map pDig, ms.map pDot⟩ : PMsg)).length) (by repeat (first | exact Sel.head | apply Sel.tail))).2.1 (fun _ h => h.slOfRw (by repeat (first | exact Sel.head | apply Sel.tail)))) rfl rfl ?_)
  clear hf hS; rintro v a w ⟨q1, c1, L1, q2, c2, L2, q3, c3, L3, rfl, ⟨hE1, hE2, hE3⟩, ⟨hD1, hD2, hD3⟩, ⟨hM1, hM3⟩, hS⟩ hf; rw [hd1, hd2] at hf; rw [hd2] at hE1 hD1 hM1; dsimp only [plP] at hf hE1 hD1 hM1
  refine mN hf hS ?_; clear hf; intro a hf
  refine sR hf hS (rd_extract hf rfl rfl rfl) ?_; clear hf; intro a hf
  refine sR hf hS (rd_extract hf rfl rfl rfl) ?_; clear hf; intro a hf
  refine sA hf hS zr32 ?_
  clear hf hS; intro b_t a w hf hS
  refine sS hf hS sz32 ?_
  clear hf hS; intro a w hf hS
  refine aN hf hS ?_; clear hf; intro a hf
  refine done_l (t_normal (c_seq ?_))
  refine any_begin (S := Sat W (R)) mixed (hS.drew.subA) ?_
  have hT : Sat W (R) _ := hS.drew.subA
  replace hS := hS.drew
  refine any_takeA (i := 0) hf rfl (Wn.none rfl) (rd_move hf rfl rfl) hT rfl rfl ?_; clear hf; intro a hf
  refine any_takeA (i := 1) hf rfl (Wn.none rfl) (rd_move hf rfl rfl) hT rfl rfl ?_; clear hf; intro a hf
  refine any_takeA (i := 2) hf rfl (Wn.none rfl) (rd_nilCheck hf rfl rfl) hT rfl rfl ?_; clear hf; intro a hf
  refine any_takeA (i := 3) hf rfl (Wn.none rfl) (rd_fieldAddrB hf rfl rfl fb51_0 rfl) hT rfl rfl ?_; clear hf; intro a hf
  refine any_two (i := 4) (j := 5) rfl rfl (by kernel_rfl) ?_ ?_
  ·
   skip
   refine st_rd hf (Wn.none rfl) (rd_ld hf ag25) hS rfl rfl ?_; clear hf; intro a hf
   refine ⟨hT, ?_⟩
   refine any_one (i := 5) rfl (by kernel_rfl) (st_rd hf (Wn.none rfl) (rd_ldN hf ag32 sz32) hS rfl rfl ?_)
   clear hf; intro a hf
   refine ⟨hT, ?_⟩
   refine any_one (i := 6) rfl (by kernel_rfl) (st_buildSlice hf (Wn.none rfl) hS rfl rfl Tryz.underlying25 sz32 zr32 (by decide) bz32_1 rfl (.cons rfl (by first | rfl) (by rfl) (by repeat (first | exact Put.nil | apply Put.cons | apply Put.succ)) .nil) rfl rfl ?_)
   clear hf hS; intro b_7 a w hf hS
   replace hT := hS.subA' hT
   refine ⟨hT, ?_⟩
   refine any_one (i := 7) rfl (by kernel_rfl) (st_appendL hf (Wn.none rfl) rfl rfl rfl Tryz.underlying25 tyb32 (by rfl) (by decide) hS (by repeat (first | exact Sel.head | apply Sel.tail)) (by first | exact hS.slOfBlk (by repeat (first | exact Sel.head | apply Sel.tail)) (by rfl) | exact hS.slOfBlkPre (by repeat (first | exact Sel.head | apply Sel.tail)) (bvs_len1 _) | exact hS.slOfRw (by repeat (first | exact Sel.head | apply Sel.tail)) | exact SlAt.nil _ _ _) (by first | rfl | exact bvs_one _ | (simp [Value.oneCell']; done) | exact (show List.all (msgC ((kd, fr, tn, plI (hasP 0 kd) op, plI (hasP 1 kd) fo, plB (hasP 2 kd) ky, plI (hasP 3 kd) bk, (q1, c1, L1), (q2, c2, L2), (q3, c3, L3), ()) : MsgT)) _ = true from rfl)) (by omega) rfl rfl ?_)
   clear hf hS; intro pA capA a w hf hS hnilA
   replace hT := hS.subA' hT
   refine ⟨hT, ?_⟩
   refine any_takeA (i := 8) hf rfl (Wn.none rfl) (rd_nilCheck hf rfl rfl) hT rfl rfl ?_; clear hf; intro a hf
   refine any_takeA (i := 9) hf rfl (Wn.none rfl) (rd_fieldAddrB hf rfl rfl fb51_0 rfl) hT rfl rfl ?_; clear hf; intro a hf
   refine any_one (i := 10) rfl (by kernel_rfl) (st_store hf (Wn.none rfl) hS rfl rfl rfl (by rfl) sz25 (by rfl) (by rfl) (by repeat (first | exact Sel.head | apply Sel.tail)) (by repeat (first | exact Put.nil | apply Put.cons | apply Put.succ)) rfl ?_)
   clear hf hS; intro a w hf hS
   replace hT := hS.subA' hT
   refine ⟨hT, ?_⟩
   refine any_done (by kernel_rfl) ?_
   refine t_normal (c_region ?_)
   refine mN hf hS ?_; clear hf; intro a hf
   refine sP hf hS ?_; clear hf; intro a hf
   refine aN hf hS ?_; clear hf; intro a hf
   refine done_l (b_normal (t_normal (c_region ?_)))
   refine sP hf hS ?_; clear hf; intro a hf
   refine mN hf hS ?_; clear hf; intro a hf
   refine done_l ?_
   have hx : pMsg ((kd, fr, tn, plI (hasP 0 kd) op, plI (hasP 1 kd) fo, plB (hasP 2 kd) ky, plI (hasP 3 kd) bk, (q1, c1, L1), (q2, c2, L2), (q3, c3, L3), ()) : MsgT) = plP (⟨kd, fr, tn, op, fo, ky, bk, es.map pEnt, ds.map pDig, ms.map pDot⟩ : PMsg) := (by show (⟨kd, fr, tn, plI (hasP 0 kd) op, plI (hasP 1 kd) fo, plB (hasP 2 kd) ky, plI (hasP 3 kd) bk, L1.map pEnt, L2.map pDig, L3.map pDot⟩ : PMsg) = _; rw [hE1, hD1, hM1]; rfl); rw [sendX_yes (show encE (⟨kd, fr, tn, op, fo, ky, bk, es.map pEnt, ds.map pDig, ms.map pDot⟩ : PMsg) = 0 from hE0) (by show ys.length < 2000; omega)] at hst; replace hS := net_push (x := ((kd, fr, tn, plI (hasP 0 kd) op, plI (hasP 1 kd) fo, plB (hasP 2 kd) ky, plI (hasP 3 kd) bk, (q1, c1, L1), (q2, c2, L2), (q3, c3, L3), ()) : MsgT)) (l := R) (decRows (hS.subA) |>.subA) rfl h1 h2 (by omega) ⟨⟨hE2, hE3⟩, ⟨hD2, hD3⟩, hM3⟩; rw [hx] at hS
   refine t_normal ⟨k + 1, (((hf.backA hk0).kb hf 16 rfl (by first | rfl | exact int_eq (by omega))).kb hf 5 rfl (by rw [hst]; first | done | exact int_eq (by dsimp only; omega))), ⟨(by rw [hst]; exact hS.subA), by omega⟩, by first | omega | (simp only []; omega)⟩
  ·
   skip
   refine st_rd hf (Wn.none rfl) (rd_ldN hf ag32 sz32) hS rfl rfl ?_; clear hf; intro a hf
   refine ⟨hT, ?_⟩
   refine any_two (i := 4) (j := 6) rfl rfl (by kernel_rfl) ?_ ?_
   ·
    skip
    refine st_rd hf (Wn.none rfl) (rd_ld hf ag25) hS rfl rfl ?_; clear hf; intro a hf
    refine ⟨hT, ?_⟩
    refine any_one (i := 6) rfl (by kernel_rfl) (st_buildSlice hf (Wn.none rfl) hS rfl rfl Tryz.underlying25 sz32 zr32 (by decide) bz32_1 rfl (.cons rfl (by first | rfl) (by rfl) (by repeat (first | exact Put.nil | apply Put.cons | apply Put.succ)) .nil) rfl rfl ?_)
    clear hf hS; intro b_9 a w hf hS
    replace hT := hS.subA' hT
    refine ⟨hT, ?_⟩
    refine any_one (i := 7) rfl (by kernel_rfl) (st_appendL hf (Wn.none rfl) rfl rfl rfl Tryz.underlying25 tyb32 (by rfl) (by decide) hS (by repeat (first | exact Sel.head | apply Sel.tail)) (by first | exact hS.slOfBlk (by repeat (first | exact Sel.head | apply Sel.tail)) (by rfl) | exact hS.slOfBlkPre (by repeat (first | exact Sel.head | apply Sel.tail)) (bvs_len1 _) | exact hS.slOfRw (by repeat (first | exact Sel.head | apply Sel.tail)) | exact SlAt.nil _ _ _) (by first | rfl | exact bvs_one _ | (simp [Value.oneCell']; done) | exact (show List.all (msgC ((kd, fr, tn, plI (hasP 0 kd) op, plI (hasP 1 kd) fo, plB (hasP 2 kd) ky, plI (hasP 3 kd) bk, (q1, c1, L1), (q2, c2, L2), (q3, c3, L3), ()) : MsgT)) _ = true from rfl)) (by omega) rfl rfl ?_)
    clear hf hS; intro pA capA a w hf hS hnilA
    replace hT := hS.subA' hT
    refine ⟨hT, ?_⟩
    refine any_takeA (i := 8) hf rfl (Wn.none rfl) (rd_nilCheck hf rfl rfl) hT rfl rfl ?_; clear hf; intro a hf
    refine any_takeA (i := 9) hf rfl (Wn.none rfl) (rd_fieldAddrB hf rfl rfl fb51_0 rfl) hT rfl rfl ?_; clear hf; intro a hf
    refine any_one (i := 10) rfl (by kernel_rfl) (st_store hf (Wn.none rfl) hS rfl rfl rfl (by rfl) sz25 (by rfl) (by rfl) (by repeat (first | exact Sel.head | apply Sel.tail)) (by repeat (first | exact Put.nil | apply Put.cons | apply Put.succ)) rfl ?_)
    clear hf hS; intro a w hf hS
    replace hT := hS.subA' hT
    refine ⟨hT, ?_⟩
    refine any_done (by kernel_rfl) ?_
    refine t_normal (c_region ?_)
    refine mN hf hS ?_; clear hf; intro a hf
    refine sP hf hS ?_; clear hf; intro a hf
    refine aN hf hS ?_; clear hf; intro a hf
    refine done_l (b_normal (t_normal (c_region ?_)))
    refine sP hf hS ?_; clear hf; intro a hf
    refine mN hf hS ?_; clear hf; intro a hf
    refine done_l ?_
    have hx : pMsg ((kd, fr, tn, plI (hasP 0 kd) op, plI (hasP 1 kd) fo, plB (hasP 2 kd) ky, plI (hasP 3 kd) bk, (q1, c1, L1), (q2, c2, L2), (q3, c3, L3), ()) : MsgT) = plP (⟨kd, fr, tn, op, fo, ky, bk, es.map pEnt, ds.map pDig, ms.map pDot⟩ : PMsg) := (by show (⟨kd, fr, tn, plI (hasP 0 kd) op, plI (hasP 1 kd) fo, plB (hasP 2 kd) ky, plI (hasP 3 kd) bk, L1.map pEnt, L2.map pDig, L3.map pDot⟩ : PMsg) = _; rw [hE1, hD1, hM1]; rfl); rw [sendX_yes (show encE (⟨kd, fr, tn, op, fo, ky, bk, es.map pEnt, ds.map pDig, ms.map pDot⟩ : PMsg) = 0 from hE0) (by show ys.length < 2000; omega)] at hst; replace hS := net_push (x := ((kd, fr, tn, plI (hasP 0 kd) op, plI (hasP 1 kd) fo, plB (hasP 2 kd) ky, plI (hasP 3 kd) bk, (q1, c1, L1), (q2, c2, L2), (q3, c3, L3), ()) : MsgT)) (l := R) (decRows (hS.subA) |>.subA) rfl h1 h2 (by omega) ⟨⟨hE2, hE3⟩, ⟨hD2, hD3⟩, hM3⟩; rw [hx] at hS
    refine t_normal ⟨k + 1, (((hf.backA hk0).kb hf 16 rfl (by first | rfl | exact int_eq (by omega))).kb hf 5 rfl (by rw [hst]; first | done | exact int_eq (by dsimp only; omega))), ⟨(by rw [hst]; exact hS.subA), by omega⟩, by first | omega | (simp only []; omega)⟩
   ·
    skip
    refine st_buildSlice hf (Wn.none rfl) hS rfl rfl Tryz.underlying25 sz32 zr32 (by decide) bz32_1 rfl (.cons rfl (by first | rfl) (by rfl) (by repeat (first | exact Put.nil | apply Put.cons | apply Put.succ)) .nil) rfl rfl ?_
    clear hf hS; intro b_11 a w hf hS
    replace hT := hS.subA' hT
    refine ⟨hT, ?_⟩
    refine any_one (i := 4) rfl (by kernel_rfl) (st_rd hf (Wn.none rfl) (rd_ld hf ag25) hS rfl rfl ?_)
    clear hf; intro a hf
    refine ⟨hT, ?_⟩
    refine any_one (i := 7) rfl (by kernel_rfl) (st_appendL hf (Wn.none rfl) rfl rfl rfl Tryz.underlying25 tyb32 (by rfl) (by decide) hS (by repeat (first | exact Sel.head | apply Sel.tail)) (by first | exact hS.slOfBlk (by repeat (first | exact Sel.head | apply Sel.tail)) (by rfl) | exact hS.slOfBlkPre (by repeat (first | exact Sel.head | apply Sel.tail)) (bvs_len1 _) | exact hS.slOfRw (by repeat (first | exact Sel.head | apply Sel.tail)) | exact SlAt.nil _ _ _) (by first | rfl | exact bvs_one _ | (simp [Value.oneCell']; done) | exact (show List.all (msgC ((kd, fr, tn, plI (hasP 0 kd) op, plI (hasP 1 kd) fo, plB (hasP 2 kd) ky, plI (hasP 3 kd) bk, (q1, c1, L1), (q2, c2, L2), (q3, c3, L3), ()) : MsgT)) _ = true from rfl)) (by omega) rfl rfl ?_)
    clear hf hS; intro pA capA a w hf hS hnilA
    replace hT := hS.subA' hT
    refine ⟨hT, ?_⟩
    refine any_takeA (i := 8) hf rfl (Wn.none rfl) (rd_nilCheck hf rfl rfl) hT rfl rfl ?_; clear hf; intro a hf
    refine any_takeA (i := 9) hf rfl (Wn.none rfl) (rd_fieldAddrB hf rfl rfl fb51_0 rfl) hT rfl rfl ?_; clear hf; intro a hf
    refine any_one (i := 10) rfl (by kernel_rfl) (st_store hf (Wn.none rfl) hS rfl rfl rfl (by rfl) sz25 (by rfl) (by rfl) (by repeat (first | exact Sel.head | apply Sel.tail)) (by repeat (first | exact Put.nil | apply Put.cons | apply Put.succ)) rfl ?_)
    clear hf hS; intro a w hf hS
    replace hT := hS.subA' hT
    refine ⟨hT, ?_⟩
    refine any_done (by kernel_rfl) ?_
    refine t_normal (c_region ?_)
    refine mN hf hS ?_; clear hf; intro a hf
    refine sP hf hS ?_; clear hf; intro a hf
    refine aN hf hS ?_; clear hf; intro a hf
    refine done_l (b_normal (t_normal (c_region ?_)))
    refine sP hf hS ?_; clear hf; intro a hf
    refine mN hf hS ?_; clear hf; intro a hf
    refine done_l ?_
    have hx : pMsg ((kd, fr, tn, plI (hasP 0 kd) op, plI (hasP 1 kd) fo, plB (hasP 2 kd) ky, plI (hasP 3 kd) bk, (q1, c1, L1), (q2, c2, L2), (q3, c3, L3), ()) : MsgT) = plP (⟨kd, fr, tn, op, fo, ky, bk, es.map pEnt, ds.map pDig, ms.map pDot⟩ : PMsg) := (by show (⟨kd, fr, tn, plI (hasP 0 kd) op, plI (hasP 1 kd) fo, plB (hasP 2 kd) ky, plI (hasP 3 kd) bk, L1.map pEnt, L2.map pDig, L3.map pDot⟩ : PMsg) = _; rw [hE1, hD1, hM1]; rfl); rw [sendX_yes (show encE (⟨kd, fr, tn, op, fo, ky, bk, es.map pEnt, ds.map pDig, ms.map pDot⟩ : PMsg) = 0 from hE0) (by show ys.length < 2000; omega)] at hst; replace hS := net_push (x := ((kd, fr, tn, plI (hasP 0 kd) op, plI (hasP 1 kd) fo, plB (hasP 2 kd) ky, plI (hasP 3 kd) bk, (q1, c1, L1), (q2, c2, L2), (q3, c3, L3), ()) : MsgT)) (l := R) (decRows (hS.subA) |>.subA) rfl h1 h2 (by omega) ⟨⟨hE2, hE3⟩, ⟨hD2, hD3⟩, hM3⟩; rw [hx] at hS
    refine t_normal ⟨k + 1, (((hf.backA hk0).kb hf 16 rfl (by first | rfl | exact int_eq (by omega))).kb hf 5 rfl (by rw [hst]; first | done | exact int_eq (by dsimp only; omega))), ⟨(by rw [hst]; exact hS.subA), by omega⟩, by first | omega | (simp only []; omega)⟩
 clear hf; intro hc2 a hf
 obtain rfl : k = L.length := by omega
 rw [take_map_all] at hf hS
 refine done_l (t_normal (c_seq ?_))
 refine c_false hf rfl ?_
 refine c_exit (t_exit (t_exit (b_exit (t_normal (c_seq (c_region ?_))))))
 iterate 2 ((first | refine mN hf hS ?_ | refine aN hf hS ?_); clear hf; intro a hf)
 refine done_l (t_normal (c_ret ?_))
 refine eT hf ?_
 exact ⟨rfl, hS.subA⟩

end Go.Proofs.YtcflbdpjoanbgaaGreat
