/-
  Walked: Wri.
  Conditions: none.
-/
import Derived.Test.YtcflbdpjoanbgaaGreatRWir1
namespace Go.Proofs.YtcflbdpjoanbgaaGreat
open Go Go.Sl
set_option linter.unusedVariables false
set_option linter.unusedSimpArgs false

theorem RVecW_c (p : Nat) (most : Int) (s : WS) (s0 s1 s2 s3 s4 s5 s6 s7 : Int) {W : World} {R : List HP} {w : World} (hS : Sat W (WrP 5 65 p most s :: R) w) (hm : 0 ≤ most ∧ most ≤ 1073741824) (hb : mayVec [s0, s1, s2, s3, s4, s5, s6, s7] = true) : Calls Tryz.prog 38 [.pointer (some ⟨p, 0, none⟩), .agg #[.int .i64 s0, .int .i64 s1, .int .i64 s2, .int .i64 s3, .int .i64 s4, .int .i64 s5, .int .i64 s6, .int .i64 s7]].toArray w (Ret fun v w' => v = .tuple #[] ∧ Sat W (WrP 5 65 p most (wputs most s (vecW [s0, s1, s2, s3, s4, s5, s6, s7])) :: R) w') := by
 refine fn_start 14 Tryz.func38 rfl rfl rfl ?_
 intro a hf
 refine c_seq (c_region ?_)
 refine step_l (st_box hf (Wn.none rfl) hS rfl rfl (by rfl) rfl rfl ?_)
 clear hf hS; intro b_1 a w hf hS
 refine done_l (t_normal (c_seq (c_region ?_)))
 refine sR hf hS (rd_ldN hf ag53 sz53) ?_; clear hf; intro a hf
 refine mN hf hS ?_; clear hf; intro a hf
 refine done_l (t_normal (c_block ?_))
 have hk0 := Keep.ofA hf [(5, 5), (7, 13)]
 refine c_loopK hk0 (α := Nat) (fun k => [(7, .int .i64 (k : Nat))]) (fun k w => Sat W (WrP 5 65 p most (wputs most s (vecW ([s0, s1, s2, s3, s4, s5, s6, s7].take k))) :: R) w ∧ k ≤ 8) (fun k => 8 - k) 0 ((hf.keep hk0).kb hf 7 rfl (by first | rfl | exact int_eq (by omega))) ⟨hS.subA, by omega⟩ ?_
 clear hf hS; rintro k a w hf ⟨hS, hk⟩; (try dsimp only [List.cons_append, List.nil_append] at hf)
 refine c_seq (c_region ?_)
 refine sB hf hS (rd_lss hf rfl rfl rfl) ?_ ?_
 ·
  clear hf; intro hc2 a hf
  obtain ⟨n, hget⟩ := get_of_lt (l := [s0, s1, s2, s3, s4, s5, s6, s7]) (k := k) (by simp; omega) rfl; have hbn := vec_in hb hget
  refine done_l (t_normal (c_seq ?_))
  refine c_true hf rfl ?_
  refine c_skip (t_normal (c_seq (c_block (c_seq (c_region ?_)))))
  refine sR hf hS (rd_indexA hf rfl rfl rfl Tryz.underlying53 ag2 sz2 (by omega) (i64s_get hget)) ?_; clear hf; intro a hf
  refine aN hf hS ?_; clear hf; intro a hf
  refine done_l (t_normal (c_region ?_))
  iterate 2 (refine mN hf hS ?_; clear hf; intro a hf)
  refine step_l (st_call hf (Wn.none rfl) rfl rfl rfl fn21 (VInt_c _ _ _ _ (hS.selA) (by first | assumption | exact ⟨by omega, by omega⟩) (by first | assumption | exact .inl (by omega) | exact .inr (by omega)) (by first | assumption | exact ⟨by omega, by omega⟩)) rfl rfl ?_)
  clear hf hS; rintro v a w ⟨rfl, hS⟩ hf
  refine done_l (b_normal (t_normal (c_region ?_)))
  refine sP hf hS ?_; clear hf; intro a hf
  refine mN hf hS ?_; clear hf; intro a hf
  refine done_l ?_
  refine t_normal ⟨k + 1, ((hf.backA hk0).kb hf 7 rfl (by first | rfl | exact int_eq (by omega))), ⟨(by rw [vecW_step hget]; exact hS.subA), by omega⟩, by first | omega | (simp only []; omega)⟩
 clear hf; intro hc2 a hf
 obtain rfl : k = 8 := by omega
 refine done_l (t_normal (c_seq ?_))
 refine c_false hf rfl ?_
 refine c_exit (t_exit (t_exit (b_exit ?_)))
 refine e_none' hf rfl ?_
 refine ⟨?_, hS.subA⟩
 clear hf hS
 rfl

theorem RSibW_c (p : Nat) (most : Int) (s : WS) (s0 s1 s2 s3 s4 s5 s6 s7 : Int) (vs : List ValT) (q : Option Addr) (c : Nat) {W : World} {R : List HP} {w : World} (hS : Sat W (WrP 5 65 p most s :: R) w) (hm : 0 ≤ most ∧ most ≤ 1073741824) (hb : maySib ([s0, s1, s2, s3, s4, s5, s6, s7], vs.map pVal) = true) (hv : ∀ w, Sat W R w → ValsAt w (q, c, vs)) : Calls Tryz.prog 37 [.pointer (some ⟨p, 0, none⟩), .agg #[.int .i64 s0, .int .i64 s1, .int .i64 s2, .int .i64 s3, .int .i64 s4, .int .i64 s5, .int .i64 s6, .int .i64 s7, .slice q vs.length c]].toArray w (Ret fun v w' => v = .tuple #[] ∧ Sat W (WrP 5 65 p most (wputs most s (sibW ([s0, s1, s2, s3, s4, s5, s6, s7], vs.map pVal))) :: R) w') := by
 refine fn_start 43 Tryz.func37 rfl rfl rfl ?_
 intro a hf
 obtain ⟨hvc, hl16, hra⟩ := maySib_and hb; rw [List.length_map] at hl16
 refine c_seq (c_region ?_)
 refine step_l (st_box hf (Wn.none rfl) hS rfl rfl (by rfl) rfl rfl ?_)
 clear hf hS; intro b_s a w hf hS
 refine done_l (t_normal (c_seq (c_region ?_)))
 refine mN hf hS ?_; clear hf; intro a hf
 refine fA hf hS fb56_0 ?_; clear hf; intro a hf
 refine sR hf hS (rd_ldN hf ag53 sz53) ?_; clear hf; intro a hf
 refine step_l (st_call hf (Wn.none rfl) rfl rfl rfl fn38 (RVecW_c _ _ _ _ _ _ _ _ _ _ _ (hS.selA) (by first | assumption | exact ⟨by omega, by omega⟩) hvc) rfl rfl ?_)
 clear hf hS; rintro v a w ⟨rfl, hS⟩ hf
 refine done_l (t_normal (c_seq (c_region ?_)))
 refine mN hf hS ?_; clear hf; intro a hf
 refine fA hf hS fb56_1 ?_; clear hf; intro a hf
 refine sR hf hS (rd_ld hf ag54) ?_; clear hf; intro a hf
 refine sR hf hS (rd_len hf rfl rfl Tryz.underlying54) ?_; clear hf; intro a hf
 refine sR hf hS (rd_convInt hf rfl rfl Tryz.underlying3 Tryz.underlying67 (wrap64 (by omega))) ?_; clear hf; intro a hf
 refine step_l (st_call hf (Wn.none rfl) rfl rfl rfl fn20 (VNum_c _ _ _ _ (hS.selA) (by first | assumption | exact ⟨by omega, by omega⟩) (by first | assumption | exact .inl (by omega) | exact .inr (by omega)) (by first | assumption | omega)) rfl rfl ?_)
 clear hf hS; rintro v a w ⟨rfl, hS⟩ hf
 refine done_l (t_normal (c_seq (c_region ?_)))
 refine fA hf hS fb56_1 ?_; clear hf; intro a hf
 refine sR hf hS (rd_ld hf ag54) ?_; clear hf; intro a hf
 refine sR hf hS (rd_len hf rfl rfl Tryz.underlying54) ?_; clear hf; intro a hf
 refine mN hf hS ?_; clear hf; intro a hf
 refine done_l (t_normal (c_block ?_))
 have hk0 := Keep.ofA hf [(5, 5), (19, 42)]
 refine c_loopK hk0 (α := Nat) (fun k => [(19, .int .i64 (k : Nat))]) (fun k w => Sat W (Blk b_s [.int .i64 s0, .int .i64 s1, .int .i64 s2, .int .i64 s3, .int .i64 s4, .int .i64 s5, .int .i64 s6, .int .i64 s7, .slice q vs.length c] 56 :: WrP 5 65 p most (wputs most (wput most (wputs most s (vecW [s0, s1, s2, s3, s4, s5, s6, s7])) (numB vs.length)) (((vs.map pVal).take k).flatMap valW)) :: R) w ∧ k ≤ vs.length) (fun k => vs.length - k) 0 ((hf.keep hk0).kb hf 19 rfl (by first | rfl | exact int_eq (by omega))) ⟨hS.subA, by omega⟩ ?_
 clear hf hS; rintro k a w hf ⟨hS, hk⟩; (try dsimp only [List.cons_append, List.nil_append] at hf)
 refine c_seq (c_region ?_)
 refine sB hf hS (rd_lss hf rfl rfl rfl) ?_ ?_
 ·
  clear hf; intro hc2 a hf
  obtain ⟨x, hget⟩ := get_of_lt (l := vs) (k := k) (by omega) rfl; obtain ⟨ad, rfl⟩ := (hv _ (hS.subA)).some (by omega); obtain ⟨⟨dn, dc, _⟩, ⟨xq, xc, bs⟩, dead, _⟩ := x; have hin := okAt_in hvc hra (map_get pVal hget); obtain ⟨hin1, hin2⟩ := hin; dsimp only [pVal, pDot] at hin1 hin2; have hdc : -9223372036854775808 ≤ dc ∧ dc ≤ 9223372036854775807 := (by omega); have hvx := fun w h => ((hv w h).in hget).1
  refine done_l (t_normal (c_seq ?_))
  refine c_true hf rfl ?_
  refine c_skip (t_normal (c_seq (c_block (c_seq (c_region ?_)))))
  refine sR hf hS ((by first | exact rd_indexAddrN hf rfl rfl rfl Tryz.underlying54 sz107 (by omega) | exact rd_indexAddr hf rfl rfl rfl Tryz.underlying54 sz107 (by first | decide | omega) (by omega))) ?_; clear hf; intro a hf
  refine sR hf hS (rd_loadN hf rfl rfl ag107 sz107 (by intro _ h; exact (show AggAt _ _ _ [.int .i64 dn, .int .i64 dc, .slice xq bs.length xc, .bool dead] from (hv _ (h.subA)).el hget))) ?_; clear hf; intro a hf
  refine sA hf hS zr107 ?_
  clear hf hS; intro b_v a w hf hS
  refine sS hf hS sz107 ?_
  clear hf hS; intro a w hf hS
  refine done_l (t_normal (c_seq (c_region ?_)))
  refine mN hf hS ?_; clear hf; intro a hf
  refine fA hf hS fb107_0 ?_; clear hf; intro a hf
  refine fA hf hS fb87_0 ?_; clear hf; intro a hf
  refine sR hf hS (rd_ld hf ag3) ?_; clear hf; intro a hf
  refine sR hf hS (rd_convInt hf rfl rfl Tryz.underlying3 Tryz.underlying67 (wrapN (by omega) (by omega))) ?_; clear hf; intro a hf
  refine step_l (st_call hf (Wn.none rfl) rfl rfl rfl fn20 (VNum_c _ _ _ _ (hS.selA) (by first | assumption | exact ⟨by omega, by omega⟩) (by first | assumption | exact .inl (by omega) | exact .inr (by omega)) (by first | assumption | omega)) rfl rfl ?_)
  clear hf hS; rintro v a w ⟨rfl, hS⟩ hf
  refine done_l (t_normal (c_seq (c_region ?_)))
  refine mN hf hS ?_; clear hf; intro a hf
  refine fA hf hS fb107_0 ?_; clear hf; intro a hf
  refine fA hf hS fb87_1 ?_; clear hf; intro a hf
  refine sR hf hS (rd_ld hf ag2) ?_; clear hf; intro a hf
  refine step_l (st_call hf (Wn.none rfl) rfl rfl rfl fn21 (VInt_c _ _ _ _ (hS.selA) (by first | assumption | exact ⟨by omega, by omega⟩) (by first | assumption | exact .inl (by omega) | exact .inr (by omega)) (by first | assumption | exact ⟨by omega, by omega⟩)) rfl rfl ?_)
  clear hf hS; rintro v a w ⟨rfl, hS⟩ hf
  refine done_l (t_normal (c_seq (c_region ?_)))
  refine mN hf hS ?_; clear hf; intro a hf
  refine fA hf hS fb107_2 ?_; clear hf; intro a hf
  refine sR hf hS (rd_ld hf ag4) ?_; clear hf; intro a hf
  refine step_l (st_call hf (Wn.none rfl) rfl rfl rfl fn57 (VFlag_c _ _ _ _ (hS.selA) (by first | assumption | exact ⟨by omega, by omega⟩) (by first | assumption | exact .inl (by omega) | exact .inr (by omega))) rfl rfl ?_)
  clear hf hS; rintro v a w ⟨rfl, hS⟩ hf
  refine done_l (t_normal (c_region ?_))
  refine mN hf hS ?_; clear hf; intro a hf
  refine fA hf hS fb107_1 ?_; clear hf; intro a hf
  refine sR hf hS (rd_ld hf ag34) ?_; clear hf; intro a hf
  refine step_l (st_call hf (Wn.none rfl) rfl rfl rfl fn22 (VText_c _ _ _ bs _ _ _ (hS.selA) (by first | assumption | exact ⟨by omega, by omega⟩) (by first | assumption | exact .inl (by omega) | exact .inr (by omega)) rfl (by omega) (fun _ h => hvx _ (h.subA))) rfl rfl ?_)
  clear hf hS; rintro v a w ⟨rfl, hS⟩ hf
  refine done_l (b_normal (t_normal (c_region ?_)))
  refine sP hf hS ?_; clear hf; intro a hf
  refine mN hf hS ?_; clear hf; intro a hf
  refine done_l ?_
  refine t_normal ⟨k + 1, ((hf.backA hk0).kb hf 19 rfl (by first | rfl | exact int_eq (by omega))), ⟨(by rw [flatW_step (map_get pVal hget)]; exact hS.subA), by omega⟩, by first | omega | (simp only []; omega)⟩
 clear hf; intro hc2 a hf
 obtain rfl : k = vs.length := by omega
 rw [flat_done] at hS
 refine done_l (t_normal (c_seq ?_))
 refine c_false hf rfl ?_
 refine c_exit (t_exit (t_exit (b_exit ?_)))
 refine e_none' hf rfl ?_
 refine ⟨rfl, ?_⟩
 unfold sibW; rw [wputs_append, wputs_cons, List.length_map]; exact hS.subA

theorem REntW_c (p : Nat) (most : Int) (s : WS) (ky : List UInt8) (s0 s1 s2 s3 s4 s5 s6 s7 : Int) (vs : List ValT) (q : Option Addr) (c : Nat) {W : World} {R : List HP} {w : World} (hS : Sat W (WrP 5 65 p most s :: R) w) (hm : 0 ≤ most ∧ most ≤ 1073741824) (hb : mayEnt (ky, [s0, s1, s2, s3, s4, s5, s6, s7], vs.map pVal) = true) (hv : ∀ w, Sat W R w → ValsAt w (q, c, vs)) : Calls Tryz.prog 23 [.pointer (some ⟨p, 0, none⟩), .agg #[.string (str ky), .int .i64 s0, .int .i64 s1, .int .i64 s2, .int .i64 s3, .int .i64 s4, .int .i64 s5, .int .i64 s6, .int .i64 s7, .slice q vs.length c]].toArray w (Ret fun v w' => v = .tuple #[] ∧ Sat W (WrP 5 65 p most (wputs most s (entW (ky, [s0, s1, s2, s3, s4, s5, s6, s7], vs.map pVal))) :: R) w') := by
 refine fn_start 13 Tryz.func23 rfl rfl rfl ?_
 intro a hf
 obtain ⟨hky, hsb⟩ := mayEnt_and hb; have hkl := mayKey_in hky
 refine c_seq (c_region ?_)
 refine step_l (st_box hf (Wn.none rfl) hS rfl rfl (by rfl) rfl rfl ?_)
 clear hf hS; intro b_1 a w hf hS
 refine done_l (t_normal (c_seq (c_region ?_)))
 refine mN hf hS ?_; clear hf; intro a hf
 refine fA hf hS fb58_0 ?_; clear hf; intro a hf
 refine sR hf hS (rd_ld hf ag9) ?_; clear hf; intro a hf
 refine step_l (st_bytes hf (Wn.none rfl) hS rfl rfl Tryz.underlying9 Tryz.underlying34 Tryz.underlying5 rfl rfl ?_)
 clear hf hS; intro b_2 cap_2 zs_2 a w hf hcap_2 hS
 refine step_l (st_call hf (Wn.none rfl) rfl rfl rfl fn22 (VText_c _ _ _ ky _ _ _ (hS.selA) (by first | assumption | exact ⟨by omega, by omega⟩) (by first | assumption | exact .inl (by omega) | exact .inr (by omega)) rfl (by omega) (fun _ h => h.slOfBlkPre (by repeat (first | exact Sel.head | apply Sel.tail)) (bvs_len1 _))) rfl rfl ?_)
 clear hf hS; rintro v a w ⟨rfl, hS⟩ hf
 refine done_l (t_normal (c_region ?_))
 refine mN hf hS ?_; clear hf; intro a hf
 refine fA hf hS fb58_1 ?_; clear hf; intro a hf
 refine sR hf hS (rd_ldN hf ag56 sz56) ?_; clear hf; intro a hf
 refine step_l (st_call hf (Wn.none rfl) rfl rfl rfl fn37 (RSibW_c _ _ _ _ _ _ _ _ _ _ _ _ _ _ (hS.selA) (by first | assumption | exact ⟨by omega, by omega⟩) hsb (fun _ h => hv _ (h.subA))) rfl rfl ?_)
 clear hf hS; rintro v a w ⟨rfl, hS⟩ hf
 refine done_l ?_
 refine e_none' hf rfl ?_
 refine ⟨?_, hS.subA⟩
 clear hf hS
 rfl

theorem RDigW_c (p : Nat) (most : Int) (s : WS) (ky : List UInt8) (s0 s1 s2 s3 s4 s5 s6 s7 : Int) (vs : List DotT) (q : Option Addr) (c : Nat) {W : World} {R : List HP} {w : World} (hS : Sat W (WrP 5 65 p most s :: R) w) (hm : 0 ≤ most ∧ most ≤ 1073741824) (hb : mayDig (ky, [s0, s1, s2, s3, s4, s5, s6, s7], vs.map pDot) = true) (hv : ∀ w, Sat W R w → DotsAt w (q, c, vs)) : Calls Tryz.prog 24 [.pointer (some ⟨p, 0, none⟩), .agg #[.string (str ky), .int .i64 s0, .int .i64 s1, .int .i64 s2, .int .i64 s3, .int .i64 s4, .int .i64 s5, .int .i64 s6, .int .i64 s7, .slice q vs.length c]].toArray w (Ret fun v w' => v = .tuple #[] ∧ Sat W (WrP 5 65 p most (wputs most s (digW (ky, [s0, s1, s2, s3, s4, s5, s6, s7], vs.map pDot))) :: R) w') := by
 refine fn_start 38 Tryz.func24 rfl rfl rfl ?_
 intro a hf
 obtain ⟨hky, hvc, hl16, hra⟩ := mayDig_and hb; rw [List.length_map] at hl16; have hkl := mayKey_in hky
 refine c_seq (c_region ?_)
 refine step_l (st_box hf (Wn.none rfl) hS rfl rfl (by rfl) rfl rfl ?_)
 clear hf hS; intro b_s a w hf hS
 refine done_l (t_normal (c_seq (c_region ?_)))
 refine mN hf hS ?_; clear hf; intro a hf
 refine fA hf hS fb61_0 ?_; clear hf; intro a hf
 refine sR hf hS (rd_ld hf ag9) ?_; clear hf; intro a hf
 refine step_l (st_bytes hf (Wn.none rfl) hS rfl rfl Tryz.underlying9 Tryz.underlying34 Tryz.underlying5 rfl rfl ?_)
 clear hf hS; intro b_2 cap_2 zs_2 a w hf hcap_2 hS
 refine step_l (st_call hf (Wn.none rfl) rfl rfl rfl fn22 (VText_c _ _ _ ky _ _ _ (hS.selA) (by first | assumption | exact ⟨by omega, by omega⟩) (by first | assumption | exact .inl (by omega) | exact .inr (by omega)) rfl (by omega) (fun _ h => h.slOfBlkPre (by repeat (first | exact Sel.head | apply Sel.tail)) (bvs_len1 _))) rfl rfl ?_)
 clear hf hS; rintro v a w ⟨rfl, hS⟩ hf
 refine done_l (t_normal (c_seq (c_region ?_)))
 refine mN hf hS ?_; clear hf; intro a hf
 refine fA hf hS fb61_1 ?_; clear hf; intro a hf
 refine sR hf hS (rd_ldN hf ag53 sz53) ?_; clear hf; intro a hf
 refine step_l (st_call hf (Wn.none rfl) rfl rfl rfl fn38 (RVecW_c _ _ _ _ _ _ _ _ _ _ _ (hS.selA) (by first | assumption | exact ⟨by omega, by omega⟩) hvc) rfl rfl ?_)
 clear hf hS; rintro v a w ⟨rfl, hS⟩ hf
 refine done_l (t_normal (c_seq (c_region ?_)))
 refine mN hf hS ?_; clear hf; intro a hf
 refine fA hf hS fb61_2 ?_; clear hf; intro a hf
 refine sR hf hS (rd_ld hf ag59) ?_; clear hf; intro a hf
 refine sR hf hS (rd_len hf rfl rfl Tryz.underlying59) ?_; clear hf; intro a hf
 refine sR hf hS (rd_convInt hf rfl rfl Tryz.underlying3 Tryz.underlying67 (wrap64 (by omega))) ?_; clear hf; intro a hf
 refine step_l (st_call hf (Wn.none rfl) rfl rfl rfl fn20 (VNum_c _ _ _ _ (hS.selA) (by first | assumption | exact ⟨by omega, by omega⟩) (by first | assumption | exact .inl (by omega) | exact .inr (by omega)) (by first | assumption | omega)) rfl rfl ?_)
 clear hf hS; rintro v a w ⟨rfl, hS⟩ hf
 refine done_l (t_normal (c_seq (c_region ?_)))
 refine fA hf hS fb61_2 ?_; clear hf; intro a hf
 refine sR hf hS (rd_ld hf ag59) ?_; clear hf; intro a hf
 refine sR hf hS (rd_len hf rfl rfl Tryz.underlying59) ?_; clear hf; intro a hf
 refine mN hf hS ?_; clear hf; intro a hf
 refine done_l (t_normal (c_block ?_))
 have hk0 := Keep.ofA hf [(5, 5), (24, 37)]
 refine c_loopK hk0 (α := Nat) (fun k => [(24, .int .i64 (k : Nat))]) (fun k w => Sat W (Blk b_s [.string (str ky), .int .i64 s0, .int .i64 s1, .int .i64 s2, .int .i64 s3, .int .i64 s4, .int .i64 s5, .int .i64 s6, .int .i64 s7, .slice q vs.length c] 61 :: WrP 5 65 p most (wputs most (wput most (wputs most (wput most s (textB ky)) (vecW [s0, s1, s2, s3, s4, s5, s6, s7])) (numB vs.length)) (((vs.map pDot).take k).flatMap dotW)) :: R) w ∧ k ≤ vs.length) (fun k => vs.length - k) 0 ((hf.keep hk0).kb hf 24 rfl (by first | rfl | exact int_eq (by omega))) ⟨hS.subA, by omega⟩ ?_
 clear hf hS; rintro k a w hf ⟨hS, hk⟩; (try dsimp only [List.cons_append, List.nil_append] at hf)
 refine c_seq (c_region ?_)
 refine sB hf hS (rd_lss hf rfl rfl rfl) ?_ ?_
 ·
  clear hf; intro hc3 a hf
  obtain ⟨x, hget⟩ := get_of_lt (l := vs) (k := k) (by omega) rfl; obtain ⟨ad, rfl⟩ := (hv _ (hS.subA)).some (by omega); obtain ⟨dn, dc, _⟩ := x; have hin1 := dotAt_in hvc hra (map_get pDot hget); dsimp only [pDot] at hin1; have hdc : -9223372036854775808 ≤ dc ∧ dc ≤ 9223372036854775807 := (by omega)
  refine done_l (t_normal (c_seq ?_))
  refine c_true hf rfl ?_
  refine c_skip (t_normal (c_seq (c_block (c_seq (c_region ?_)))))
  refine sR hf hS ((by first | exact rd_indexAddrN hf rfl rfl rfl Tryz.underlying59 sz87 (by omega) | exact rd_indexAddr hf rfl rfl rfl Tryz.underlying59 sz87 (by first | decide | omega) (by omega))) ?_; clear hf; intro a hf
  refine sR hf hS (rd_loadN hf rfl rfl ag87 sz87 (by intro _ h; exact (show AggAt _ _ _ [.int .i64 dn, .int .i64 dc] from (hv _ (h.subA)).el hget))) ?_; clear hf; intro a hf
  refine sA hf hS zr87 ?_
  clear hf hS; intro b_v a w hf hS
  refine sS hf hS sz87 ?_
  clear hf hS; intro a w hf hS
  refine done_l (t_normal (c_seq (c_region ?_)))
  refine mN hf hS ?_; clear hf; intro a hf
  refine fA hf hS fb87_0 ?_; clear hf; intro a hf
  refine sR hf hS (rd_ld hf ag3) ?_; clear hf; intro a hf
  refine sR hf hS (rd_convInt hf rfl rfl Tryz.underlying3 Tryz.underlying67 (wrapN (by omega) (by omega))) ?_; clear hf; intro a hf
  refine step_l (st_call hf (Wn.none rfl) rfl rfl rfl fn20 (VNum_c _ _ _ _ (hS.selA) (by first | assumption | exact ⟨by omega, by omega⟩) (by first | assumption | exact .inl (by omega) | exact .inr (by omega)) (by first | assumption | omega)) rfl rfl ?_)
  clear hf hS; rintro v a w ⟨rfl, hS⟩ hf
  refine done_l (t_normal (c_region ?_))
  refine mN hf hS ?_; clear hf; intro a hf
  refine fA hf hS fb87_1 ?_; clear hf; intro a hf
  refine sR hf hS (rd_ld hf ag2) ?_; clear hf; intro a hf
  refine step_l (st_call hf (Wn.none rfl) rfl rfl rfl fn21 (VInt_c _ _ _ _ (hS.selA) (by first | assumption | exact ⟨by omega, by omega⟩) (by first | assumption | exact .inl (by omega) | exact .inr (by omega)) (by first | assumption | exact ⟨by omega, by omega⟩)) rfl rfl ?_)
  clear hf hS; rintro v a w ⟨rfl, hS⟩ hf
  refine done_l (b_normal (t_normal (c_region ?_)))
  refine sP hf hS ?_; clear hf; intro a hf
  refine mN hf hS ?_; clear hf; intro a hf
  refine done_l ?_
  refine t_normal ⟨k + 1, ((hf.backA hk0).kb hf 24 rfl (by first | rfl | exact int_eq (by omega))), ⟨(by rw [flatW_step (map_get pDot hget)]; exact hS.subA), by omega⟩, by first | omega | (simp only []; omega)⟩
 clear hf; intro hc3 a hf
 obtain rfl : k = vs.length := by omega
 rw [flat_done] at hS
 refine done_l (t_normal (c_seq ?_))
 refine c_false hf rfl ?_
 refine c_exit (t_exit (t_exit (b_exit ?_)))
 refine e_none' hf rfl ?_
 refine ⟨rfl, ?_⟩
 unfold digW; rw [wputs_cons, wputs_append, wputs_cons, List.length_map]; exact hS.subA

end Go.Proofs.YtcflbdpjoanbgaaGreat
