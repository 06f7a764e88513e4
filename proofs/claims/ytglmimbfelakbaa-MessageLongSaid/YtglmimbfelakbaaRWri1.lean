/-
  Walked: Wri.
  Conditions: none.
-/
import Derived.Test.YtglmimbfelakbaaRWir1
namespace Go.Proofs.Ytglmimbfelakbaa
open Go Go.Sl
set_option linter.unusedVariables false
set_option linter.unusedSimpArgs false

theorem RVecW_c (p : Nat) (most : Int) (s : WS) (s0 s1 s2 s3 s4 s5 s6 s7 : Int) {W : World} {R : List HP} {w : World} (hS : Sat W (WrP 5 60 p most s :: R) w) (hm : 0 ≤ most ∧ most ≤ 1073741824) (hb : mayVec [s0, s1, s2, s3, s4, s5, s6, s7] = true) : Calls Try.prog 68 [.pointer (some ⟨p, 0, none⟩), .agg #[.int .i64 s0, .int .i64 s1, .int .i64 s2, .int .i64 s3, .int .i64 s4, .int .i64 s5, .int .i64 s6, .int .i64 s7]].toArray w (Ret fun v w' => v = .tuple #[] ∧ Sat W (WrP 5 60 p most (wputs most s (vecW [s0, s1, s2, s3, s4, s5, s6, s7])) :: R) w') := by
 refine fn_start 14 Try.func68 rfl rfl rfl ?_
 intro a hf
 refine c_seq ?_
 refine c_region ?_
 refine step_l (st_box hf (Wn.none rfl) hS rfl rfl (by rfl) rfl rfl ?_)
 clear hf hS; intro b_1 a w hf hS
 refine done_l ?_
 refine t_normal ?_
 refine c_seq ?_
 refine c_region ?_
 refine step_l (st_rd hf (Wn.none rfl) (rd_loadN hf rfl rfl ag37 sz37 (by intro _ h; exact loadN_of h (by repeat (first | exact Sel.head | apply Sel.tail)) (by repeat (first | exact Seg.nil | apply Seg.cons | apply Seg.succ)) )) hS rfl rfl ?_)
 clear hf; intro a hf
 refine step_l (st_rd hf (Wn.none rfl) (rd_move hf rfl rfl) hS rfl rfl ?_)
 clear hf; intro a hf
 refine done_l ?_
 refine t_normal ?_
 refine c_block ?_
 have hk0 := Keep.of hf [(5, 5), (7, 13)] (by repeat (first | exact Keep.nil | apply Keep.drop rfl | apply Keep.take rfl))
 refine c_loopK hk0 (α := Nat) (fun k => [(7, .int .i64 (k : Nat))]) (fun k w => Sat W (WrP 5 60 p most (wputs most s (vecW ([s0, s1, s2, s3, s4, s5, s6, s7].take k))) :: R) w ∧ k ≤ 8) (fun k => 8 - k) 0 ((hf.keep hk0).kb hf 7 rfl (by first | rfl | exact int_eq (by omega))) ⟨hS.subA, by omega⟩ ?_
 clear hf hS; rintro k a w hf ⟨hS, hk⟩; (try dsimp only [List.cons_append, List.nil_append] at hf)
 refine c_seq ?_
 refine c_region ?_
 refine step_l (st_rdB hf (Wn.none rfl) (rd_lss hf rfl rfl rfl) hS rfl rfl ?_ ?_)
 ·
  clear hf; intro hc2 a hf
  obtain ⟨n, hget⟩ := get_of_lt (l := [s0, s1, s2, s3, s4, s5, s6, s7]) (k := k) (by simp; omega) rfl; have hbn := vec_in hb hget
  refine done_l ?_
  refine t_normal ?_
  refine c_seq ?_
  refine c_true hf rfl ?_
  refine c_skip ?_
  refine t_normal ?_
  refine c_seq ?_
  refine c_block ?_
  refine c_seq ?_
  refine c_region ?_
  refine step_l (st_rd hf (Wn.none rfl) (rd_indexA hf rfl rfl rfl Try.underlying37 ag2 sz2 (by omega) (i64s_get hget)) hS rfl rfl ?_)
  clear hf; intro a hf
  refine step_l (st_rd hf (Wn.none rfl) (rd_assign hf rfl rfl) hS rfl rfl ?_)
  clear hf; intro a hf
  refine done_l ?_
  refine t_normal ?_
  refine c_region ?_
  refine step_l (st_rd hf (Wn.none rfl) (rd_move hf rfl rfl) hS rfl rfl ?_)
  clear hf; intro a hf
  refine step_l (st_rd hf (Wn.none rfl) (rd_move hf rfl rfl) hS rfl rfl ?_)
  clear hf; intro a hf
  refine step_l (st_call hf (Wn.none rfl) rfl rfl rfl fn24 (VInt_c _ _ _ _ (hS.selA) (by first | assumption | exact ⟨by omega, by omega⟩) (by first | assumption | exact .inl (by omega) | exact .inr (by omega)) (by first | assumption | exact ⟨by omega, by omega⟩)) rfl rfl ?_)
  clear hf hS; rintro v a w ⟨rfl, hS⟩ hf
  refine done_l ?_
  refine b_normal ?_
  refine t_normal ?_
  refine c_region ?_
  refine step_l (st_rd hf (Wn.none rfl) (rd_add hf rfl rfl rfl (by first | exact Go.IntWalk.i64_in _ (by omega) | exact rfl)) hS rfl rfl ?_)
  clear hf; intro a hf
  refine step_l (st_rd hf (Wn.none rfl) (rd_move hf rfl rfl) hS rfl rfl ?_)
  clear hf; intro a hf
  refine done_l ?_
  refine t_normal ⟨k + 1, ((hf.back (by repeat (first | exact Behind.refl | refine Behind.skip rfl ?_)) hk0).kb hf 7 rfl (by first | rfl | exact int_eq (by omega))), ⟨(by rw [vecW_step hget]; exact hS.subA), by omega⟩, by first | omega | (simp only []; omega)⟩
 clear hf; intro hc2 a hf
 obtain rfl : k = 8 := by omega
 refine done_l ?_
 refine t_normal ?_
 refine c_seq ?_
 refine c_false hf rfl ?_
 refine c_exit ?_
 refine t_exit ?_
 refine t_exit ?_
 refine b_exit ?_
 refine e_none' hf rfl ?_
 refine ⟨?_, hS.subA⟩
 clear hf hS
 rfl

theorem RSibW_c (p : Nat) (most : Int) (s : WS) (s0 s1 s2 s3 s4 s5 s6 s7 : Int) (vs : List ValT) (q : Option Addr) (c : Nat) {W : World} {R : List HP} {w : World} (hS : Sat W (WrP 5 60 p most s :: R) w) (hm : 0 ≤ most ∧ most ≤ 1073741824) (hb : maySib ([s0, s1, s2, s3, s4, s5, s6, s7], vs.map pVal) = true) (hv : ∀ w, Sat W R w → ValsAt w (q, c, vs)) : Calls Try.prog 67 [.pointer (some ⟨p, 0, none⟩), .agg #[.int .i64 s0, .int .i64 s1, .int .i64 s2, .int .i64 s3, .int .i64 s4, .int .i64 s5, .int .i64 s6, .int .i64 s7, .slice q vs.length c]].toArray w (Ret fun v w' => v = .tuple #[] ∧ Sat W (WrP 5 60 p most (wputs most s (sibW ([s0, s1, s2, s3, s4, s5, s6, s7], vs.map pVal))) :: R) w') := by
 refine fn_start 43 Try.func67 rfl rfl rfl ?_
 intro a hf
 obtain ⟨hvc, hl16, hra⟩ := maySib_and hb; rw [List.length_map] at hl16
 refine c_seq ?_
 refine c_region ?_
 refine step_l (st_box hf (Wn.none rfl) hS rfl rfl (by rfl) rfl rfl ?_)
 clear hf hS; intro b_s a w hf hS
 refine done_l ?_
 refine t_normal ?_
 refine c_seq ?_
 refine c_region ?_
 refine step_l (st_rd hf (Wn.none rfl) (rd_move hf rfl rfl) hS rfl rfl ?_)
 clear hf; intro a hf
 refine step_l (st_rd hf (Wn.none rfl) (rd_fieldAddrB hf rfl rfl fb40_0 rfl) hS rfl rfl ?_)
 clear hf; intro a hf
 refine step_l (st_rd hf (Wn.none rfl) (rd_loadN hf rfl rfl ag37 sz37 (by intro _ h; exact loadN_of h (by repeat (first | exact Sel.head | apply Sel.tail)) (by repeat (first | exact Seg.nil | apply Seg.cons | apply Seg.succ)) )) hS rfl rfl ?_)
 clear hf; intro a hf
 refine step_l (st_call hf (Wn.none rfl) rfl rfl rfl fn68 (RVecW_c _ _ _ _ _ _ _ _ _ _ _ (hS.selA) (by first | assumption | exact ⟨by omega, by omega⟩) hvc) rfl rfl ?_)
 clear hf hS; rintro v a w ⟨rfl, hS⟩ hf
 refine done_l ?_
 refine t_normal ?_
 refine c_seq ?_
 refine c_region ?_
 refine step_l (st_rd hf (Wn.none rfl) (rd_move hf rfl rfl) hS rfl rfl ?_)
 clear hf; intro a hf
 refine step_l (st_rd hf (Wn.none rfl) (rd_fieldAddrB hf rfl rfl fb40_1 rfl) hS rfl rfl ?_)
 clear hf; intro a hf
 refine step_l (st_rd hf (Wn.none rfl) (rd_load1 hf rfl rfl ag38 (by intro _ h; first | exact h.cell (by repeat (first | exact Sel.head | apply Sel.tail)) (by rfl))) hS rfl rfl ?_)
 clear hf; intro a hf
 refine step_l (st_rd hf (Wn.none rfl) (rd_len hf rfl rfl Try.underlying38) hS rfl rfl ?_)
 clear hf; intro a hf
 refine step_l (st_rd hf (Wn.none rfl) (rd_convInt hf rfl rfl Try.underlying3 Try.underlying35 (wrap64 (by omega))) hS rfl rfl ?_)
 clear hf; intro a hf
 refine step_l (st_call hf (Wn.none rfl) rfl rfl rfl fn23 (VNum_c _ _ _ _ (hS.selA) (by first | assumption | exact ⟨by omega, by omega⟩) (by first | assumption | exact .inl (by omega) | exact .inr (by omega)) (by first | assumption | omega)) rfl rfl ?_)
 clear hf hS; rintro v a w ⟨rfl, hS⟩ hf
 refine done_l ?_
 refine t_normal ?_
 refine c_seq ?_
 refine c_region ?_
 refine step_l (st_rd hf (Wn.none rfl) (rd_fieldAddrB hf rfl rfl fb40_1 rfl) hS rfl rfl ?_)
 clear hf; intro a hf
 refine step_l (st_rd hf (Wn.none rfl) (rd_load1 hf rfl rfl ag38 (by intro _ h; first | exact h.cell (by repeat (first | exact Sel.head | apply Sel.tail)) (by rfl))) hS rfl rfl ?_)
 clear hf; intro a hf
 refine step_l (st_rd hf (Wn.none rfl) (rd_len hf rfl rfl Try.underlying38) hS rfl rfl ?_)
 clear hf; intro a hf
 refine step_l (st_rd hf (Wn.none rfl) (rd_move hf rfl rfl) hS rfl rfl ?_)
 clear hf; intro a hf
 refine done_l ?_
 refine t_normal ?_
 refine c_block ?_
 have hk0 := Keep.of hf [(5, 5), (19, 42)] (by repeat (first | exact Keep.nil | apply Keep.drop rfl | apply Keep.take rfl))
 refine c_loopK hk0 (α := Nat) (fun k => [(19, .int .i64 (k : Nat))]) (fun k w => Sat W (Blk b_s [.int .i64 s0, .int .i64 s1, .int .i64 s2, .int .i64 s3, .int .i64 s4, .int .i64 s5, .int .i64 s6, .int .i64 s7, .slice q vs.length c] 40 :: WrP 5 60 p most (wputs most (wput most (wputs most s (vecW [s0, s1, s2, s3, s4, s5, s6, s7])) (numB vs.length)) (((vs.map pVal).take k).flatMap valW)) :: R) w ∧ k ≤ vs.length) (fun k => vs.length - k) 0 ((hf.keep hk0).kb hf 19 rfl (by first | rfl | exact int_eq (by omega))) ⟨hS.subA, by omega⟩ ?_
 clear hf hS; rintro k a w hf ⟨hS, hk⟩; (try dsimp only [List.cons_append, List.nil_append] at hf)
 refine c_seq ?_
 refine c_region ?_
 refine step_l (st_rdB hf (Wn.none rfl) (rd_lss hf rfl rfl rfl) hS rfl rfl ?_ ?_)
 ·
  clear hf; intro hc2 a hf
  obtain ⟨x, hget⟩ := get_of_lt (l := vs) (k := k) (by omega) rfl; obtain ⟨ad, rfl⟩ := (hv _ (hS.subA)).some (by omega); obtain ⟨⟨dn, dc, _⟩, ⟨xq, xc, bs⟩, dead, _⟩ := x; have hin := okAt_in hvc hra (map_get pVal hget); obtain ⟨hin1, hin2⟩ := hin; dsimp only [pVal, pDot] at hin1 hin2; have hdc : -9223372036854775808 ≤ dc ∧ dc ≤ 9223372036854775807 := (by omega); have hvx := fun w h => ((hv w h).in hget).1
  refine done_l ?_
  refine t_normal ?_
  refine c_seq ?_
  refine c_true hf rfl ?_
  refine c_skip ?_
  refine t_normal ?_
  refine c_seq ?_
  refine c_block ?_
  refine c_seq ?_
  refine c_region ?_
  refine step_l (st_rd hf (Wn.none rfl) ((by first | exact rd_indexAddrN hf rfl rfl rfl Try.underlying38 sz44 (by omega) | exact rd_indexAddr hf rfl rfl rfl Try.underlying38 sz44 (by first | decide | omega) (by omega))) hS rfl rfl ?_)
  clear hf; intro a hf
  refine step_l (st_rd hf (Wn.none rfl) (rd_loadN hf rfl rfl ag44 sz44 (by intro _ h; exact (show AggAt _ _ _ [.int .i64 dn, .int .i64 dc, .slice xq bs.length xc, .bool dead] from (hv _ (h.subA)).el hget))) hS rfl rfl ?_)
  clear hf; intro a hf
  refine step_l (st_alloc hf (Wn.none rfl) hS rfl zr44 (by rfl) rfl rfl ?_)
  clear hf hS; intro b_v a w hf hS
  refine step_l (st_store hf (Wn.none rfl) hS rfl rfl rfl (by rfl) sz44 (by rfl) (by rfl) (by repeat (first | exact Sel.head | apply Sel.tail)) (by repeat (first | exact Put.nil | apply Put.cons | apply Put.succ)) rfl ?_)
  clear hf hS; intro a w hf hS
  refine done_l ?_
  refine t_normal ?_
  refine c_seq ?_
  refine c_region ?_
  refine step_l (st_rd hf (Wn.none rfl) (rd_move hf rfl rfl) hS rfl rfl ?_)
  clear hf; intro a hf
  refine step_l (st_rd hf (Wn.none rfl) (rd_fieldAddrB hf rfl rfl fb44_0 rfl) hS rfl rfl ?_)
  clear hf; intro a hf
  refine step_l (st_rd hf (Wn.none rfl) (rd_fieldAddrB hf rfl rfl fb42_0 rfl) hS rfl rfl ?_)
  clear hf; intro a hf
  refine step_l (st_rd hf (Wn.none rfl) (rd_load1 hf rfl rfl ag3 (by intro _ h; first | exact h.cell (by repeat (first | exact Sel.head | apply Sel.tail)) (by rfl))) hS rfl rfl ?_)
  clear hf; intro a hf
  refine step_l (st_rd hf (Wn.none rfl) (rd_convInt hf rfl rfl Try.underlying3 Try.underlying35 (wrapN (by omega) (by omega))) hS rfl rfl ?_)
  clear hf; intro a hf
  refine step_l (st_call hf (Wn.none rfl) rfl rfl rfl fn23 (VNum_c _ _ _ _ (hS.selA) (by first | assumption | exact ⟨by omega, by omega⟩) (by first | assumption | exact .inl (by omega) | exact .inr (by omega)) (by first | assumption | omega)) rfl rfl ?_)
  clear hf hS; rintro v a w ⟨rfl, hS⟩ hf
  refine done_l ?_
  refine t_normal ?_
  refine c_seq ?_
  refine c_region ?_
  refine step_l (st_rd hf (Wn.none rfl) (rd_move hf rfl rfl) hS rfl rfl ?_)
  clear hf; intro a hf
  refine step_l (st_rd hf (Wn.none rfl) (rd_fieldAddrB hf rfl rfl fb44_0 rfl) hS rfl rfl ?_)
  clear hf; intro a hf
  refine step_l (st_rd hf (Wn.none rfl) (rd_fieldAddrB hf rfl rfl fb42_1 rfl) hS rfl rfl ?_)
  clear hf; intro a hf
  refine step_l (st_rd hf (Wn.none rfl) (rd_load1 hf rfl rfl ag2 (by intro _ h; first | exact h.cell (by repeat (first | exact Sel.head | apply Sel.tail)) (by rfl))) hS rfl rfl ?_)
  clear hf; intro a hf
  refine step_l (st_call hf (Wn.none rfl) rfl rfl rfl fn24 (VInt_c _ _ _ _ (hS.selA) (by first | assumption | exact ⟨by omega, by omega⟩) (by first | assumption | exact .inl (by omega) | exact .inr (by omega)) (by first | assumption | exact ⟨by omega, by omega⟩)) rfl rfl ?_)
  clear hf hS; rintro v a w ⟨rfl, hS⟩ hf
  refine done_l ?_
  refine t_normal ?_
  refine c_seq ?_
  refine c_region ?_
  refine step_l (st_rd hf (Wn.none rfl) (rd_move hf rfl rfl) hS rfl rfl ?_)
  clear hf; intro a hf
  refine step_l (st_rd hf (Wn.none rfl) (rd_fieldAddrB hf rfl rfl fb44_2 rfl) hS rfl rfl ?_)
  clear hf; intro a hf
  refine step_l (st_rd hf (Wn.none rfl) (rd_load1 hf rfl rfl ag4 (by intro _ h; first | exact h.cell (by repeat (first | exact Sel.head | apply Sel.tail)) (by rfl))) hS rfl rfl ?_)
  clear hf; intro a hf
  refine step_l (st_call hf (Wn.none rfl) rfl rfl rfl fn97 (VFlag_c _ _ _ _ (hS.selA) (by first | assumption | exact ⟨by omega, by omega⟩) (by first | assumption | exact .inl (by omega) | exact .inr (by omega))) rfl rfl ?_)
  clear hf hS; rintro v a w ⟨rfl, hS⟩ hf
  refine done_l ?_
  refine t_normal ?_
  refine c_region ?_
  refine step_l (st_rd hf (Wn.none rfl) (rd_move hf rfl rfl) hS rfl rfl ?_)
  clear hf; intro a hf
  refine step_l (st_rd hf (Wn.none rfl) (rd_fieldAddrB hf rfl rfl fb44_1 rfl) hS rfl rfl ?_)
  clear hf; intro a hf
  refine step_l (st_rd hf (Wn.none rfl) (rd_load1 hf rfl rfl ag29 (by intro _ h; first | exact h.cell (by repeat (first | exact Sel.head | apply Sel.tail)) (by rfl))) hS rfl rfl ?_)
  clear hf; intro a hf
  refine step_l (st_call hf (Wn.none rfl) rfl rfl rfl fn25 (VText_c _ _ _ bs _ _ _ (hS.selA) (by first | assumption | exact ⟨by omega, by omega⟩) (by first | assumption | exact .inl (by omega) | exact .inr (by omega)) rfl (by omega) (fun _ h => hvx _ (h.subA))) rfl rfl ?_)
  clear hf hS; rintro v a w ⟨rfl, hS⟩ hf
  refine done_l ?_
  refine b_normal ?_
  refine t_normal ?_
  refine c_region ?_
  refine step_l (st_rd hf (Wn.none rfl) (rd_add hf rfl rfl rfl (by first | exact Go.IntWalk.i64_in _ (by omega) | exact rfl)) hS rfl rfl ?_)
  clear hf; intro a hf
  refine step_l (st_rd hf (Wn.none rfl) (rd_move hf rfl rfl) hS rfl rfl ?_)
  clear hf; intro a hf
  refine done_l ?_
  refine t_normal ⟨k + 1, ((hf.back (by repeat (first | exact Behind.refl | refine Behind.skip rfl ?_)) hk0).kb hf 19 rfl (by first | rfl | exact int_eq (by omega))), ⟨(by rw [flatW_step (map_get pVal hget)]; exact hS.subA), by omega⟩, by first | omega | (simp only []; omega)⟩
 clear hf; intro hc2 a hf
 obtain rfl : k = vs.length := by omega
 rw [flat_done] at hS
 refine done_l ?_
 refine t_normal ?_
 refine c_seq ?_
 refine c_false hf rfl ?_
 refine c_exit ?_
 refine t_exit ?_
 refine t_exit ?_
 refine b_exit ?_
 refine e_none' hf rfl ?_
 refine ⟨rfl, ?_⟩
 unfold sibW; rw [wputs_append, wputs_cons, List.length_map]; exact hS.subA

theorem REntW_c (p : Nat) (most : Int) (s : WS) (ky : List UInt8) (s0 s1 s2 s3 s4 s5 s6 s7 : Int) (vs : List ValT) (q : Option Addr) (c : Nat) {W : World} {R : List HP} {w : World} (hS : Sat W (WrP 5 60 p most s :: R) w) (hm : 0 ≤ most ∧ most ≤ 1073741824) (hb : mayEnt (ky, [s0, s1, s2, s3, s4, s5, s6, s7], vs.map pVal) = true) (hv : ∀ w, Sat W R w → ValsAt w (q, c, vs)) : Calls Try.prog 26 [.pointer (some ⟨p, 0, none⟩), .agg #[.string (str ky), .int .i64 s0, .int .i64 s1, .int .i64 s2, .int .i64 s3, .int .i64 s4, .int .i64 s5, .int .i64 s6, .int .i64 s7, .slice q vs.length c]].toArray w (Ret fun v w' => v = .tuple #[] ∧ Sat W (WrP 5 60 p most (wputs most s (entW (ky, [s0, s1, s2, s3, s4, s5, s6, s7], vs.map pVal))) :: R) w') := by
 refine fn_start 13 Try.func26 rfl rfl rfl ?_
 intro a hf
 obtain ⟨hky, hsb⟩ := mayEnt_and hb; have hkl := mayKey_in hky
 refine c_seq ?_
 refine c_region ?_
 refine step_l (st_box hf (Wn.none rfl) hS rfl rfl (by rfl) rfl rfl ?_)
 clear hf hS; intro b_1 a w hf hS
 refine done_l ?_
 refine t_normal ?_
 refine c_seq ?_
 refine c_region ?_
 refine step_l (st_rd hf (Wn.none rfl) (rd_move hf rfl rfl) hS rfl rfl ?_)
 clear hf; intro a hf
 refine step_l (st_rd hf (Wn.none rfl) (rd_fieldAddrB hf rfl rfl fb46_0 rfl) hS rfl rfl ?_)
 clear hf; intro a hf
 refine step_l (st_rd hf (Wn.none rfl) (rd_load1 hf rfl rfl ag9 (by intro _ h; first | exact h.cell (by repeat (first | exact Sel.head | apply Sel.tail)) (by rfl))) hS rfl rfl ?_)
 clear hf; intro a hf
 refine step_l (st_bytes hf (Wn.none rfl) hS rfl rfl Try.underlying9 Try.underlying29 Try.underlying5 rfl rfl ?_)
 clear hf hS; intro b_2 cap_2 zs_2 a w hf hcap_2 hS
 refine step_l (st_call hf (Wn.none rfl) rfl rfl rfl fn25 (VText_c _ _ _ ky _ _ _ (hS.selA) (by first | assumption | exact ⟨by omega, by omega⟩) (by first | assumption | exact .inl (by omega) | exact .inr (by omega)) rfl (by omega) (fun _ h => h.slOfBlkPre (by repeat (first | exact Sel.head | apply Sel.tail)) (bvs_len1 _))) rfl rfl ?_)
 clear hf hS; rintro v a w ⟨rfl, hS⟩ hf
 refine done_l ?_
 refine t_normal ?_
 refine c_region ?_
 refine step_l (st_rd hf (Wn.none rfl) (rd_move hf rfl rfl) hS rfl rfl ?_)
 clear hf; intro a hf
 refine step_l (st_rd hf (Wn.none rfl) (rd_fieldAddrB hf rfl rfl fb46_1 rfl) hS rfl rfl ?_)
 clear hf; intro a hf
 refine step_l (st_rd hf (Wn.none rfl) (rd_loadN hf rfl rfl ag40 sz40 (by intro _ h; exact loadN_of h (by repeat (first | exact Sel.head | apply Sel.tail)) (by repeat (first | exact Seg.nil | apply Seg.cons | apply Seg.succ)) )) hS rfl rfl ?_)
 clear hf; intro a hf
 refine step_l (st_call hf (Wn.none rfl) rfl rfl rfl fn67 (RSibW_c _ _ _ _ _ _ _ _ _ _ _ _ _ _ (hS.selA) (by first | assumption | exact ⟨by omega, by omega⟩) hsb (fun _ h => hv _ (h.subA))) rfl rfl ?_)
 clear hf hS; rintro v a w ⟨rfl, hS⟩ hf
 refine done_l ?_
 refine e_none' hf rfl ?_
 refine ⟨?_, hS.subA⟩
 clear hf hS
 rfl

theorem RDigW_c (p : Nat) (most : Int) (s : WS) (ky : List UInt8) (s0 s1 s2 s3 s4 s5 s6 s7 : Int) (vs : List DotT) (q : Option Addr) (c : Nat) {W : World} {R : List HP} {w : World} (hS : Sat W (WrP 5 60 p most s :: R) w) (hm : 0 ≤ most ∧ most ≤ 1073741824) (hb : mayDig (ky, [s0, s1, s2, s3, s4, s5, s6, s7], vs.map pDot) = true) (hv : ∀ w, Sat W R w → DotsAt w (q, c, vs)) : Calls Try.prog 27 [.pointer (some ⟨p, 0, none⟩), .agg #[.string (str ky), .int .i64 s0, .int .i64 s1, .int .i64 s2, .int .i64 s3, .int .i64 s4, .int .i64 s5, .int .i64 s6, .int .i64 s7, .slice q vs.length c]].toArray w (Ret fun v w' => v = .tuple #[] ∧ Sat W (WrP 5 60 p most (wputs most s (digW (ky, [s0, s1, s2, s3, s4, s5, s6, s7], vs.map pDot))) :: R) w') := by
 refine fn_start 38 Try.func27 rfl rfl rfl ?_
 intro a hf
 obtain ⟨hky, hvc, hl16, hra⟩ := mayDig_and hb; rw [List.length_map] at hl16; have hkl := mayKey_in hky
 refine c_seq ?_
 refine c_region ?_
 refine step_l (st_box hf (Wn.none rfl) hS rfl rfl (by rfl) rfl rfl ?_)
 clear hf hS; intro b_s a w hf hS
 refine done_l ?_
 refine t_normal ?_
 refine c_seq ?_
 refine c_region ?_
 refine step_l (st_rd hf (Wn.none rfl) (rd_move hf rfl rfl) hS rfl rfl ?_)
 clear hf; intro a hf
 refine step_l (st_rd hf (Wn.none rfl) (rd_fieldAddrB hf rfl rfl fb52_0 rfl) hS rfl rfl ?_)
 clear hf; intro a hf
 refine step_l (st_rd hf (Wn.none rfl) (rd_load1 hf rfl rfl ag9 (by intro _ h; first | exact h.cell (by repeat (first | exact Sel.head | apply Sel.tail)) (by rfl))) hS rfl rfl ?_)
 clear hf; intro a hf
 refine step_l (st_bytes hf (Wn.none rfl) hS rfl rfl Try.underlying9 Try.underlying29 Try.underlying5 rfl rfl ?_)
 clear hf hS; intro b_2 cap_2 zs_2 a w hf hcap_2 hS
 refine step_l (st_call hf (Wn.none rfl) rfl rfl rfl fn25 (VText_c _ _ _ ky _ _ _ (hS.selA) (by first | assumption | exact ⟨by omega, by omega⟩) (by first | assumption | exact .inl (by omega) | exact .inr (by omega)) rfl (by omega) (fun _ h => h.slOfBlkPre (by repeat (first | exact Sel.head | apply Sel.tail)) (bvs_len1 _))) rfl rfl ?_)
 clear hf hS; rintro v a w ⟨rfl, hS⟩ hf
 refine done_l ?_
 refine t_normal ?_
 refine c_seq ?_
 refine c_region ?_
 refine step_l (st_rd hf (Wn.none rfl) (rd_move hf rfl rfl) hS rfl rfl ?_)
 clear hf; intro a hf
 refine step_l (st_rd hf (Wn.none rfl) (rd_fieldAddrB hf rfl rfl fb52_1 rfl) hS rfl rfl ?_)
 clear hf; intro a hf
 refine step_l (st_rd hf (Wn.none rfl) (rd_loadN hf rfl rfl ag37 sz37 (by intro _ h; exact loadN_of h (by repeat (first | exact Sel.head | apply Sel.tail)) (by repeat (first | exact Seg.nil | apply Seg.cons | apply Seg.succ)) )) hS rfl rfl ?_)
 clear hf; intro a hf
 refine step_l (st_call hf (Wn.none rfl) rfl rfl rfl fn68 (RVecW_c _ _ _ _ _ _ _ _ _ _ _ (hS.selA) (by first | assumption | exact ⟨by omega, by omega⟩) hvc) rfl rfl ?_)
 clear hf hS; rintro v a w ⟨rfl, hS⟩ hf
 refine done_l ?_
 refine t_normal ?_
 refine c_seq ?_
 refine c_region ?_
 refine step_l (st_rd hf (Wn.none rfl) (rd_move hf rfl rfl) hS rfl rfl ?_)
 clear hf; intro a hf
 refine step_l (st_rd hf (Wn.none rfl) (rd_fieldAddrB hf rfl rfl fb52_2 rfl) hS rfl rfl ?_)
 clear hf; intro a hf
 refine step_l (st_rd hf (Wn.none rfl) (rd_load1 hf rfl rfl ag50 (by intro _ h; first | exact h.cell (by repeat (first | exact Sel.head | apply Sel.tail)) (by rfl))) hS rfl rfl ?_)
 clear hf; intro a hf
 refine step_l (st_rd hf (Wn.none rfl) (rd_len hf rfl rfl Try.underlying50) hS rfl rfl ?_)
 clear hf; intro a hf
 refine step_l (st_rd hf (Wn.none rfl) (rd_convInt hf rfl rfl Try.underlying3 Try.underlying35 (wrap64 (by omega))) hS rfl rfl ?_)
 clear hf; intro a hf
 refine step_l (st_call hf (Wn.none rfl) rfl rfl rfl fn23 (VNum_c _ _ _ _ (hS.selA) (by first | assumption | exact ⟨by omega, by omega⟩) (by first | assumption | exact .inl (by omega) | exact .inr (by omega)) (by first | assumption | omega)) rfl rfl ?_)
 clear hf hS; rintro v a w ⟨rfl, hS⟩ hf
 refine done_l ?_
 refine t_normal ?_
 refine c_seq ?_
 refine c_region ?_
 refine step_l (st_rd hf (Wn.none rfl) (rd_fieldAddrB hf rfl rfl fb52_2 rfl) hS rfl rfl ?_)
 clear hf; intro a hf
 refine step_l (st_rd hf (Wn.none rfl) (rd_load1 hf rfl rfl ag50 (by intro _ h; first | exact h.cell (by repeat (first | exact Sel.head | apply Sel.tail)) (by rfl))) hS rfl rfl ?_)
 clear hf; intro a hf
 refine step_l (st_rd hf (Wn.none rfl) (rd_len hf rfl rfl Try.underlying50) hS rfl rfl ?_)
 clear hf; intro a hf
 refine step_l (st_rd hf (Wn.none rfl) (rd_move hf rfl rfl) hS rfl rfl ?_)
 clear hf; intro a hf
 refine done_l ?_
 refine t_normal ?_
 refine c_block ?_
 have hk0 := Keep.of hf [(5, 5), (24, 37)] (by repeat (first | exact Keep.nil | apply Keep.drop rfl | apply Keep.take rfl))
 refine c_loopK hk0 (α := Nat) (fun k => [(24, .int .i64 (k : Nat))]) (fun k w => Sat W (Blk b_s [.string (str ky), .int .i64 s0, .int .i64 s1, .int .i64 s2, .int .i64 s3, .int .i64 s4, .int .i64 s5, .int .i64 s6, .int .i64 s7, .slice q vs.length c] 52 :: WrP 5 60 p most (wputs most (wput most (wputs most (wput most s (textB ky)) (vecW [s0, s1, s2, s3, s4, s5, s6, s7])) (numB vs.length)) (((vs.map pDot).take k).flatMap dotW)) :: R) w ∧ k ≤ vs.length) (fun k => vs.length - k) 0 ((hf.keep hk0).kb hf 24 rfl (by first | rfl | exact int_eq (by omega))) ⟨hS.subA, by omega⟩ ?_
 clear hf hS; rintro k a w hf ⟨hS, hk⟩; (try dsimp only [List.cons_append, List.nil_append] at hf)
 refine c_seq ?_
 refine c_region ?_
 refine step_l (st_rdB hf (Wn.none rfl) (rd_lss hf rfl rfl rfl) hS rfl rfl ?_ ?_)
 ·
  clear hf; intro hc3 a hf
  obtain ⟨x, hget⟩ := get_of_lt (l := vs) (k := k) (by omega) rfl; obtain ⟨ad, rfl⟩ := (hv _ (hS.subA)).some (by omega); obtain ⟨dn, dc, _⟩ := x; have hin1 := dotAt_in hvc hra (map_get pDot hget); dsimp only [pDot] at hin1; have hdc : -9223372036854775808 ≤ dc ∧ dc ≤ 9223372036854775807 := (by omega)
  refine done_l ?_
  refine t_normal ?_
  refine c_seq ?_
  refine c_true hf rfl ?_
  refine c_skip ?_
  refine t_normal ?_
  refine c_seq ?_
  refine c_block ?_
  refine c_seq ?_
  refine c_region ?_
  refine step_l (st_rd hf (Wn.none rfl) ((by first | exact rd_indexAddrN hf rfl rfl rfl Try.underlying50 sz42 (by omega) | exact rd_indexAddr hf rfl rfl rfl Try.underlying50 sz42 (by first | decide | omega) (by omega))) hS rfl rfl ?_)
  clear hf; intro a hf
  refine step_l (st_rd hf (Wn.none rfl) (rd_loadN hf rfl rfl ag42 sz42 (by intro _ h; exact (show AggAt _ _ _ [.int .i64 dn, .int .i64 dc] from (hv _ (h.subA)).el hget))) hS rfl rfl ?_)
  clear hf; intro a hf
  refine step_l (st_alloc hf (Wn.none rfl) hS rfl zr42 (by rfl) rfl rfl ?_)
  clear hf hS; intro b_v a w hf hS
  refine step_l (st_store hf (Wn.none rfl) hS rfl rfl rfl (by rfl) sz42 (by rfl) (by rfl) (by repeat (first | exact Sel.head | apply Sel.tail)) (by repeat (first | exact Put.nil | apply Put.cons | apply Put.succ)) rfl ?_)
  clear hf hS; intro a w hf hS
  refine done_l ?_
  refine t_normal ?_
  refine c_seq ?_
  refine c_region ?_
  refine step_l (st_rd hf (Wn.none rfl) (rd_move hf rfl rfl) hS rfl rfl ?_)
  clear hf; intro a hf
  refine step_l (st_rd hf (Wn.none rfl) (rd_fieldAddrB hf rfl rfl fb42_0 rfl) hS rfl rfl ?_)
  clear hf; intro a hf
  refine step_l (st_rd hf (Wn.none rfl) (rd_load1 hf rfl rfl ag3 (by intro _ h; first | exact h.cell (by repeat (first | exact Sel.head | apply Sel.tail)) (by rfl))) hS rfl rfl ?_)
  clear hf; intro a hf
  refine step_l (st_rd hf (Wn.none rfl) (rd_convInt hf rfl rfl Try.underlying3 Try.underlying35 (wrapN (by omega) (by omega))) hS rfl rfl ?_)
  clear hf; intro a hf
  refine step_l (st_call hf (Wn.none rfl) rfl rfl rfl fn23 (VNum_c _ _ _ _ (hS.selA) (by first | assumption | exact ⟨by omega, by omega⟩) (by first | assumption | exact .inl (by omega) | exact .inr (by omega)) (by first | assumption | omega)) rfl rfl ?_)
  clear hf hS; rintro v a w ⟨rfl, hS⟩ hf
  refine done_l ?_
  refine t_normal ?_
  refine c_region ?_
  refine step_l (st_rd hf (Wn.none rfl) (rd_move hf rfl rfl) hS rfl rfl ?_)
  clear hf; intro a hf
  refine step_l (st_rd hf (Wn.none rfl) (rd_fieldAddrB hf rfl rfl fb42_1 rfl) hS rfl rfl ?_)
  clear hf; intro a hf
  refine step_l (st_rd hf (Wn.none rfl) (rd_load1 hf rfl rfl ag2 (by intro _ h; first | exact h.cell (by repeat (first | exact Sel.head | apply Sel.tail)) (by rfl))) hS rfl rfl ?_)
  clear hf; intro a hf
  refine step_l (st_call hf (Wn.none rfl) rfl rfl rfl fn24 (VInt_c _ _ _ _ (hS.selA) (by first | assumption | exact ⟨by omega, by omega⟩) (by first | assumption | exact .inl (by omega) | exact .inr (by omega)) (by first | assumption | exact ⟨by omega, by omega⟩)) rfl rfl ?_)
  clear hf hS; rintro v a w ⟨rfl, hS⟩ hf
  refine done_l ?_
  refine b_normal ?_
  refine t_normal ?_
  refine c_region ?_
  refine step_l (st_rd hf (Wn.none rfl) (rd_add hf rfl rfl rfl (by first | exact Go.IntWalk.i64_in _ (by omega) | exact rfl)) hS rfl rfl ?_)
  clear hf; intro a hf
  refine step_l (st_rd hf (Wn.none rfl) (rd_move hf rfl rfl) hS rfl rfl ?_)
  clear hf; intro a hf
  refine done_l ?_
  refine t_normal ⟨k + 1, ((hf.back (by repeat (first | exact Behind.refl | refine Behind.skip rfl ?_)) hk0).kb hf 24 rfl (by first | rfl | exact int_eq (by omega))), ⟨(by rw [flatW_step (map_get pDot hget)]; exact hS.subA), by omega⟩, by first | omega | (simp only []; omega)⟩
 clear hf; intro hc3 a hf
 obtain rfl : k = vs.length := by omega
 rw [flat_done] at hS
 refine done_l ?_
 refine t_normal ?_
 refine c_seq ?_
 refine c_false hf rfl ?_
 refine c_exit ?_
 refine t_exit ?_
 refine t_exit ?_
 refine b_exit ?_
 refine e_none' hf rfl ?_
 refine ⟨rfl, ?_⟩
 unfold digW; rw [wputs_cons, wputs_append, wputs_cons, List.length_map]; exact hS.subA

end Go.Proofs.Ytglmimbfelakbaa
