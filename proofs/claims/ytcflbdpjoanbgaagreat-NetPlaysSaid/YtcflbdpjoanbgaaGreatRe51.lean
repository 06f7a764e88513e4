/-
  Walked: Re5.
  Conditions: none.
-/
import Derived.Test.YtcflbdpjoanbgaaGreatRe41
import Derived.Test.YtcflbdpjoanbgaaGreatMs8
namespace Go.Proofs.YtcflbdpjoanbgaaGreat
open Go Go.Sl
set_option linter.unusedVariables false
set_option linter.unusedSimpArgs false

set_option maxRecDepth 100000 in
set_option maxHeartbeats 4000000 in
theorem Dec_c (bs : List UInt8) (q0 : Option Addr) (c0 : Nat) {W : World} {R : List HP} {w : World} (hS : Sat W (R) w) (hb0 : bs.length ≤ 140737488351232) (hc0 : bs.length ≤ c0) (hv : ∀ w, Sat W R w → SlAt w q0 bs.length 1 (bvs bs)) : Calls Tryz.prog 26 [.slice q0 bs.length c0].toArray w (Ret fun v w' => ∃ q1 c1 L1 q2 c2 L2 q3 c3 L3, v = .tuple #[.agg #[.int .i64 (ansV bs).kind, .int .i64 (ansV bs).from', .int .i64 (ansV bs).to, .int .i64 (ansV bs).op, .int .i64 (ansV bs).for', .string (str (ansV bs).key), .int .i64 (ansV bs).bucket, .slice q1 (L1 : List EntT).length c1, .slice q2 (L2 : List DigT).length c2, .slice q3 (L3 : List DotT).length c3], .int .i64 (ansE bs)] ∧ (L1.map pEnt = (ansV bs).ents ∧ okL L1 ∧ L1.length ≤ 256) ∧ (L2.map pDig = (ansV bs).digs ∧ okG2 L2 ∧ L2.length ≤ 256) ∧ (L3.map pDot = (ansV bs).mems ∧ L3.length ≤ 8) ∧ Sat W (Rw 73 2 q3 L3.length c3 (L3.flatMap dotC) :: Rw 61 10 q2 L2.length c2 (L2.flatMap digC) :: AllG (fun d : DigT => Rw 87 2 d.2.2.1.1 d.2.2.1.2.2.length d.2.2.1.2.1 (d.2.2.1.2.2.flatMap dotC)) L2 :: Rw 58 10 q1 L1.length c1 (L1.flatMap entC) :: AllG (fun e : EntT => ValR 107 5 e.2.1.2.1) L1 :: R) w') := by
 refine fn_start 32 Tryz.func26 rfl rfl rfl ?_
 intro a hf
 refine c_seq (c_region ?_)
 refine sA hf hS zr32 ?_
 clear hf hS; intro b_r a w hf hS
 refine aN hf hS ?_; clear hf; intro a hf
 refine done_l (t_normal (c_seq (c_seq (c_region ?_))))
 refine mN hf hS ?_; clear hf; intro a hf
 refine sR hf hS (rd_len hf rfl rfl Tryz.underlying34) ?_; clear hf; intro a hf
 refine sB hf hS (rd_gtr hf rfl rfl rfl) ?_ ?_
 ·
  clear hf; intro hc2 a hf
  refine done_l (t_normal ?_)
  refine c_true hf rfl ?_
  refine c_seq (c_region ?_)
  refine sR hf hS (rd_build hf rfl rfl zr32 (by rfl) pl32 .nil) ?_; clear hf; intro a hf
  refine sS hf hS sz32 ?_
  clear hf hS; intro a w hf hS
  refine aN hf hS ?_; clear hf; intro a hf
  refine done_l (t_normal (c_ret (t_ret ?_)))
  refine eC hf hS ag32 sz32 ?_
  obtain ⟨e1, e2⟩ := dec_long (bs := bs) (by omega)
  rw [e1, e2]; exact ⟨none, 0, [], none, 0, [], none, 0, [], rfl, ⟨rfl, (fun e he => by cases he), by decide⟩, ⟨rfl, (fun e he => by cases he), by decide⟩, ⟨rfl, by decide⟩, ((((((hS.subA : Sat W R w).allNil (fun e : EntT => ValR 107 5 e.2.1.2.1)).rwNil 58 10).allNil (fun d : DigT => Rw 87 2 d.2.2.1.1 d.2.2.1.2.2.length d.2.2.1.2.1 (d.2.2.1.2.2.flatMap dotC))).rwNil 61 10).rwNil 73 2).subA⟩
 clear hf; intro hc2 a hf
 refine done_l (t_normal ?_)
 refine c_false hf rfl ?_
 refine c_skip (t_normal (c_seq (c_region ?_)))
 refine mN hf hS ?_; clear hf; intro a hf
 refine step_l (st_call hf (Wn.none rfl) rfl rfl rfl fn43 (NewReader_c bs _ _ _ hS rfl (by omega) (fun _ h => hv _ (h.subA))) rfl rfl ?_)
 clear hf hS; rintro v a w ⟨p, rfl, hS⟩ hf
 refine aN hf hS ?_; clear hf; intro a hf
 refine done_l (t_normal (c_seq (c_region ?_)))
 refine mN hf hS ?_; clear hf; intro a hf
 refine step_l (st_call hf (Wn.none rfl) rfl rfl rfl fn44 (MsgRd_c p (bs, 0) (hS.selA) (fun h => absurd rfl h) (by show bs.length ≤ _; omega)) rfl rfl ?_)
 clear hf hS; rintro v a w ⟨q1, c1, L1, q2, c2, L2, q3, c3, L3, rfl, ⟨hE1, hE2, hE3⟩, ⟨hD1, hD2, hD3⟩, ⟨hM1, hM3⟩, hS⟩ hf
 refine mN hf hS ?_; clear hf; intro a hf
 refine sR hf hS (rd_extract hf rfl rfl rfl) ?_; clear hf; intro a hf
 refine sR hf hS (rd_extract hf rfl rfl rfl) ?_; clear hf; intro a hf
 refine sA hf hS zr32 ?_
 clear hf hS; intro b_m a w hf hS
 refine sS hf hS sz32 ?_
 clear hf hS; intro a w hf hS
 refine aN hf hS ?_; clear hf; intro a hf
 refine done_l (t_normal (c_seq (c_seq (c_region ?_))))
 refine step_l (st_rdb hf (Wn.none rfl) (rd_move hf rfl rfl) hS rfl rfl ?_ ?_)
 ·
  clear hf; intro hc4 a hf
  have hB := hc4
  refine nT hf hS ?_; clear hf; intro a hf
  iterate 2 ((first | refine mN hf hS ?_ | refine step_l (st_rd hf (Wn.some hf rfl rfl rfl rfl) (rd_move hf rfl rfl) hS rfl rfl ?_)); clear hf; intro a hf)
  refine step_l (st_call hf (Wn.some hf rfl rfl rfl rfl) rfl rfl rfl fn45 (RWEnd_c _ _ (hS.selA)) rfl rfl ?_)
  clear hf hS; rintro v a w ⟨rfl, hS⟩ hf
  refine step_l (st_rdB hf (Wn.some hf rfl rfl rfl rfl) (rd_neq hf rfl rfl rfl) hS rfl rfl ?_ ?_)
  ·
   clear hf; intro hc5 a hf
   have hE := hc5
   iterate 6 ((first | refine kS hf ?_ | refine mN hf hS ?_ | refine pT hf hS ?_ | refine pF hf hS ?_); clear hf; intro a hf)
   refine done_l (t_normal ?_)
   refine c_true hf rfl ?_
   refine c_seq (c_region ?_)
   refine sR hf hS (rd_build hf rfl rfl zr32 (by rfl) pl32 .nil) ?_; clear hf; intro a hf
   refine sS hf hS sz32 ?_
   clear hf hS; intro a w hf hS
   refine aN hf hS ?_; clear hf; intro a hf
   refine done_l (t_normal (c_ret (t_ret ?_)))
   refine eC hf hS ag32 sz32 ?_
   have e0 : decOk (bs, 0) = false := by first | exact dec_no (fun hh => Bool.noConfusion (hh.2.1.symm.trans hB : true = false)) | exact dec_no (fun hh => hE hh.1) | exact dec_no (fun hh => Bool.noConfusion (hh.2.2.symm.trans hM : true = false))
   obtain ⟨e1, e2⟩ := dec_bad (bs := bs) (by omega) e0
   rw [e1, e2]; exact ⟨none, 0, [], none, 0, [], none, 0, [], rfl, ⟨rfl, (fun e he => by cases he), by decide⟩, ⟨rfl, (fun e he => by cases he), by decide⟩, ⟨rfl, by decide⟩, ((((((hS.subA : Sat W R w).allNil (fun e : EntT => ValR 107 5 e.2.1.2.1)).rwNil 58 10).allNil (fun d : DigT => Rw 87 2 d.2.2.1.1 d.2.2.1.2.2.length d.2.2.1.2.1 (d.2.2.1.2.2.flatMap dotC))).rwNil 61 10).rwNil 73 2).subA⟩
  clear hf; intro hc5 a hf
  have hE := hc5
  iterate 2 ((first | refine mN hf hS ?_ | refine pF hf hS ?_); clear hf; intro a hf)
  refine sG hf hS (rd_ldN hf ag32 sz32) ?_; clear hf; intro a hf
  refine step_l (st_call hf (Wn.some hf rfl rfl rfl rfl) rfl rfl rfl fn39 (May_c _ _ _ _ _ _ _ _ _ _ _ _ _ _ _ _  hS (fun _ h => h.entL (by repeat (first | exact Sel.head | apply Sel.tail)) (by repeat (first | exact Sel.head | apply Sel.tail)) hE2 (by omega)) (fun _ h => h.digL (by repeat (first | exact Sel.head | apply Sel.tail)) (by repeat (first | exact Sel.head | apply Sel.tail)) hD2 (by omega)) (fun _ h => ⟨h.slOfRw (by repeat (first | exact Sel.head | apply Sel.tail)), by show L3.length ≤ _; omega⟩) (by omega) (by omega) (by omega)) rfl rfl ?_)
  clear hf hS; rintro v a w ⟨rfl, hS⟩ hf
  first | refine split_dec (d := 27) hf rfl ?_ ?_ | refine split_bool (d := 27) hf rfl ?_ ?_
  ·
   clear hf; intro hc6 hf
   have hM : mayM (capM 60000 (mMsg (bs, 0))) = true := by have h0 := hc6; rw [hE1, hD1, hM1] at h0; exact h0
   refine sG hf hS (rd_not hf rfl rfl) ?_; clear hf; intro a hf
   refine pF hf hS ?_; clear hf; intro a hf
   refine done_l (t_normal ?_)
   refine c_false hf rfl ?_
   refine c_skip (t_normal (c_seq (c_region ?_)))
   refine sR hf hS (rd_ldN hf ag32 sz32) ?_; clear hf; intro a hf
   refine sS hf hS sz32 ?_
   clear hf hS; intro a w hf hS
   refine aN hf hS ?_; clear hf; intro a hf
   refine done_l (t_normal (c_ret ?_))
   refine eC hf hS ag32 sz32 ?_
   obtain ⟨e1, e2⟩ := dec_yes (Classical.not_not.1 hE) hB hM
   obtain ⟨e3, e4⟩ := dec_good (bs := bs) (by omega) e1
   rw [e3, e4, ← e2]; exact ⟨q1, c1, L1, q2, c2, L2, q3, c3, L3, rfl, ⟨hE1, hE2, hE3⟩, ⟨hD1, hD2, hD3⟩, ⟨hM1, hM3⟩, hS.subA⟩
  clear hf; intro hc6 hf
  have hM : mayM (capM 60000 (mMsg (bs, 0))) = false := by have h0 := hc6; rw [hE1, hD1, hM1] at h0; exact h0
  refine sG hf hS (rd_not hf rfl rfl) ?_; clear hf; intro a hf
  refine pF hf hS ?_; clear hf; intro a hf
  refine done_l (t_normal ?_)
  refine c_true hf rfl ?_
  refine c_seq (c_region ?_)
  refine sR hf hS (rd_build hf rfl rfl zr32 (by rfl) pl32 .nil) ?_; clear hf; intro a hf
  refine sS hf hS sz32 ?_
  clear hf hS; intro a w hf hS
  refine aN hf hS ?_; clear hf; intro a hf
  refine done_l (t_normal (c_ret (t_ret ?_)))
  refine eC hf hS ag32 sz32 ?_
  have e0 : decOk (bs, 0) = false := by first | exact dec_no (fun hh => Bool.noConfusion (hh.2.1.symm.trans hB : true = false)) | exact dec_no (fun hh => hE hh.1) | exact dec_no (fun hh => Bool.noConfusion (hh.2.2.symm.trans hM : true = false))
  obtain ⟨e1, e2⟩ := dec_bad (bs := bs) (by omega) e0
  rw [e1, e2]; exact ⟨none, 0, [], none, 0, [], none, 0, [], rfl, ⟨rfl, (fun e he => by cases he), by decide⟩, ⟨rfl, (fun e he => by cases he), by decide⟩, ⟨rfl, by decide⟩, ((((((hS.subA : Sat W R w).allNil (fun e : EntT => ValR 107 5 e.2.1.2.1)).rwNil 58 10).allNil (fun d : DigT => Rw 87 2 d.2.2.1.1 d.2.2.1.2.2.length d.2.2.1.2.1 (d.2.2.1.2.2.flatMap dotC))).rwNil 61 10).rwNil 73 2).subA⟩
 clear hf; intro hc4 a hf
 have hB := hc4
 refine nT hf hS ?_; clear hf; intro a hf
 iterate 10 ((first | refine kS hf ?_ | refine mN hf hS ?_ | refine pT hf hS ?_); clear hf; intro a hf)
 refine done_l (t_normal ?_)
 refine c_true hf rfl ?_
 refine c_seq (c_region ?_)
 refine sR hf hS (rd_build hf rfl rfl zr32 (by rfl) pl32 .nil) ?_; clear hf; intro a hf
 refine sS hf hS sz32 ?_
 clear hf hS; intro a w hf hS
 refine aN hf hS ?_; clear hf; intro a hf
 refine done_l (t_normal (c_ret (t_ret ?_)))
 refine eC hf hS ag32 sz32 ?_
 have e0 : decOk (bs, 0) = false := by first | exact dec_no (fun hh => Bool.noConfusion (hh.2.1.symm.trans hB : true = false)) | exact dec_no (fun hh => hE hh.1) | exact dec_no (fun hh => Bool.noConfusion (hh.2.2.symm.trans hM : true = false))
 obtain ⟨e1, e2⟩ := dec_bad (bs := bs) (by omega) e0
 rw [e1, e2]; exact ⟨none, 0, [], none, 0, [], none, 0, [], rfl, ⟨rfl, (fun e he => by cases he), by decide⟩, ⟨rfl, (fun e he => by cases he), by decide⟩, ⟨rfl, by decide⟩, ((((((hS.subA : Sat W R w).allNil (fun e : EntT => ValR 107 5 e.2.1.2.1)).rwNil 58 10).allNil (fun d : DigT => Rw 87 2 d.2.2.1.1 d.2.2.1.2.2.length d.2.2.1.2.1 (d.2.2.1.2.2.flatMap dotC))).rwNil 61 10).rwNil 73 2).subA⟩

end Go.Proofs.YtcflbdpjoanbgaaGreat
