/-
  The statement WalPlays, walked.
  Conditions: none.
-/
import Derived.Test.YtiibgekphgmjcaaWlaw1
import Derived.Test.YtiibgekphgmjcaaFs1
namespace Go.Proofs.Ytiibgekphgmjcaa
open Go Go.Sl
set_option linter.unusedVariables false
set_option linter.unusedSimpArgs false
theorem ag22 : aggO Try.prog 22 = some false := by kernel_rfl
theorem ag53 : aggO Try.prog 53 = some true := by kernel_rfl
theorem fb53_0 : fieldB Try.prog 53 0 0 = true := by kernel_rfl
theorem fb53_1 : fieldB Try.prog 53 1 1 = true := by kernel_rfl
theorem fb53_2 : fieldB Try.prog 53 2 2 = true := by kernel_rfl
theorem fn12 : fnB Try.prog 12 = true := by kernel_rfl
theorem fn13 : fnB Try.prog 13 = true := by kernel_rfl
theorem fn17 : fnB Try.prog 17 = true := by kernel_rfl
theorem fn18 : fnB Try.prog 18 = true := by kernel_rfl
theorem fn19 : fnB Try.prog 19 = true := by kernel_rfl
theorem fn21 : fnB Try.prog 21 = true := by kernel_rfl
theorem fn22 : fnB Try.prog 22 = true := by kernel_rfl
theorem fn23 : fnB Try.prog 23 = true := by kernel_rfl
theorem fn24 : fnB Try.prog 24 = true := by kernel_rfl
theorem fn25 : fnB Try.prog 25 = true := by kernel_rfl
theorem fn27 : fnB Try.prog 27 = true := by kernel_rfl
theorem fn28 : fnB Try.prog 28 = true := by kernel_rfl
theorem sz53 : (Try.prog.info? 53).map (·.size) = some 3 := by kernel_rfl
theorem zr53 : (Try.prog.info? 53).bind (·.zero) = some (.agg #[.int .i64 0, .slice none 0 0, .slice none 0 0]) := by kernel_rfl
abbrev WCall := Int × Sli UInt8 × Sli (Sli UInt8) × Unit
def callW (x : WCall) : List Value := [.int .i64 x.1, .slice x.2.1.1 x.2.1.2.2.length x.2.1.2.1, .slice x.2.2.1.1 x.2.2.1.2.2.length x.2.2.1.2.1]
theorem callW_len (x : WCall) : (callW x).length = 3 := rfl
structure WCallOk (W : World) (R : List HP) (x : WCall) : Prop where
 len1 : x.2.1.2.2.length ≤ 140737488351232
 view1 : ∀ w, Sat W R w → SlAt w x.2.1.1 x.2.1.2.2.length 1 (bvs x.2.1.2.2)
 len2 : x.2.2.1.2.2.length ≤ 140737488351232
 view2 : ∀ w, Sat W R w → BB w x.2.2.1.1 x.2.2.1.2.2
theorem WCallOk.of {W : World} {P : Program} {e e2 : TypeId} {x : WCall} (h : (-9223372036854775808 ≤ x.1 ∧ x.1 ≤ 9223372036854775807) ∧ Sli.ok P W e 1 1 (fun c : UInt8 => [bv c]) (fun _ => True) x.2.1 ∧
  Sli.ok P W e2 1 24 (fun z : Sli UInt8 => [sval z]) (Sli.ok P W e 1 1 (fun c : UInt8 => [bv c]) (fun _ => True)) x.2.2.1 ∧ True) : WCallOk W [Old W] x := by
 obtain ⟨_, ⟨s1, s2, s3, s4, s5, s6⟩, ⟨t1, t2, t3, t4, t5, t6⟩, _⟩ := h
 exact ⟨by omega, fun w h => h.slOfOld .head (by rw [flat_bv] at s1; exact s1), by omega, fun w h => BB.ofArg h .head t1 t6⟩
theorem frs_ge : ∀ l : List (List UInt8), l.length * 8 ≤ (frs l).length
 | [] => by simp
 | r :: l => by
  have ih := frs_ge l
  have e2 : (frs (r :: l)).length = r.length + 8 + (frs l).length := by simp [frs, frB_len]
  rw [e2, List.length_cons]; omega

set_option maxRecDepth 100000 in
set_option maxHeartbeats 8000000 in
theorem WalPlays_c (most0 : Int) (l : List WCall) (ql : Option Addr) (capl : Nat) {W : World} {R : List HP} {w : World} (hS : Sat W (R) w) (hl : ∀ x ∈ l, WCallOk W R x) (hvl : ∀ w, Sat W R w → SlAt w ql l.length 3 (l.flatMap callW)) : Calls Try.prog 9 [.int .i64 most0, .slice ql l.length capl].toArray w (Ret fun v w' => v = .bool true ∧ Sat W R w') := by
 refine fn_start 172 Try.func9 rfl rfl rfl ?_
 intro a hf
 refine c_seq ?_
 refine c_region ?_
 refine step_l (st_rd hf (Wn.none rfl) (rd_assign hf rfl rfl) hS rfl rfl ?_)
 clear hf; intro a hf
 refine done_l ?_
 refine t_normal ?_
 refine c_seq ?_
 refine c_region ?_
 refine step_l (st_rd hf (Wn.none rfl) (rd_move hf rfl rfl) hS rfl rfl ?_)
 clear hf; intro a hf
 refine step_l (st_rd hf (Wn.none rfl) (rd_convInt hf rfl rfl Try.underlying3 Try.underlying40 rfl) hS rfl rfl ?_)
 clear hf; intro a hf
 refine step_l (st_rd hf (Wn.none rfl) (rd_rem hf rfl rfl rfl (by first | decide | omega) (u64mod (m := 3000) most0 (by decide))) hS rfl rfl ?_)
 clear hf; intro a hf
 refine step_l (st_rd hf (Wn.none rfl) (rd_convInt hf rfl rfl Try.underlying40 Try.underlying3 (Go.IntWalk.i64_in _ (by omega))) hS rfl rfl ?_)
 clear hf; intro a hf
 refine step_l (st_rd hf (Wn.none rfl) (rd_assign hf rfl rfl) hS rfl rfl ?_)
 clear hf; intro a hf
 refine done_l ?_
 obtain ⟨m, hdm⟩ : ∃ m : Nat, m = (most0 % 18446744073709551616).toNat % 3000 := ⟨_, rfl⟩
 rw [← hdm] at hf; have hm2 : m < 3000 := by omega
 refine t_normal ?_
 refine c_seq ?_
 refine c_region ?_
 refine step_l (st_rd hf (Wn.none rfl) (rd_move hf rfl rfl) hS rfl rfl ?_)
 clear hf; intro a hf
 refine step_l (st_call hf (Wn.none rfl) rfl rfl rfl fn10 (DNew_c _ hS) rfl rfl ?_)
 clear hf hS; rintro v a w ⟨pd, rfl, hS⟩ hf; rw [show max 0 (min (((m : Nat) : Int) : Int) 1048576) = ((m : Nat) : Int) by omega] at hS
 refine step_l (st_rd hf (Wn.none rfl) (rd_assign hf rfl rfl) hS rfl rfl ?_)
 clear hf; intro a hf
 refine done_l ?_
 refine t_normal ?_
 refine c_seq ?_
 refine c_region ?_
 refine step_l (st_rd hf (Wn.none rfl) (rd_move hf rfl rfl) hS rfl rfl ?_)
 clear hf; intro a hf
 refine step_l (st_call hf (Wn.none rfl) rfl rfl rfl fn11 (OpenOk_c _ _ [] _ (hS.selA) (by simp) (by rw [allB_nil])) rfl rfl ?_)
 clear hf hS; rintro v a w ⟨g1, q1, cap1, L1, h1, rfl, hS⟩ hf; rw [allB_nil] at h1; have hl1 : L1.length = 0 := byts_len_eq h1; rw [hl1] at hf hS; rw [wB_0, wS_0] at hS
 refine step_l (st_rd hf (Wn.none rfl) (rd_move hf rfl rfl) hS rfl rfl ?_)
 clear hf; intro a hf
 refine step_l (st_rd hf (Wn.none rfl) (rd_extract hf rfl rfl rfl) hS rfl rfl ?_)
 clear hf; intro a hf
 refine step_l (st_rd hf (Wn.none rfl) (rd_extract hf rfl rfl rfl) hS rfl rfl ?_)
 clear hf; intro a hf
 refine step_l (st_rd hf (Wn.none rfl) (rd_extract hf rfl rfl rfl) hS rfl rfl ?_)
 clear hf; intro a hf
 refine step_l (st_rd hf (Wn.none rfl) (rd_assign hf rfl rfl) hS rfl rfl ?_)
 clear hf; intro a hf
 refine step_l (st_rd hf (Wn.none rfl) (rd_assign hf rfl rfl) hS rfl rfl ?_)
 clear hf; intro a hf
 refine step_l (st_rd hf (Wn.none rfl) (rd_assign hf rfl rfl) hS rfl rfl ?_)
 clear hf; intro a hf
 refine done_l ?_
 refine t_normal ?_
 refine c_seq ?_
 refine c_seq ?_
 refine c_region ?_
 refine step_l (st_rd hf (Wn.none rfl) (rd_move hf rfl rfl) hS rfl rfl ?_)
 clear hf; intro a hf
 refine step_l (st_rdB hf (Wn.none rfl) (rd_neq hf rfl rfl rfl) hS rfl rfl ?_ ?_)
 ·
  clear hf; intro hc1 a hf
  exact absurd rfl hc1
 ·
  clear hf; intro hc1 a hf
  first
  | (first | exact Bool.noConfusion hc1 | exact absurd rfl hc1; done)
  | (
   refine step_l (st_rd hf (Wn.none rfl) (rd_move hf rfl rfl) hS rfl rfl ?_)
   clear hf; intro a hf
   refine step_l (st_rd hf (Wn.some hf rfl rfl rfl rfl) (rd_move hf rfl rfl) hS rfl rfl ?_)
   clear hf; intro a hf
   refine step_l (st_rdb hf (Wn.some hf rfl rfl rfl rfl) (rd_eqlNilP hf rfl rfl rfl Try.underlying26) hS rfl rfl ?_ ?_)
   ·
    clear hf; intro hc2 a hf
    first
    | (first | exact Bool.noConfusion hc2 | exact absurd rfl hc2; done)
    | (
     refine step_l (st_rd hf (Wn.none rfl) (rd_pick_f hf rfl rfl rfl) hS rfl rfl ?_)
     clear hf; intro a hf
     refine done_l ?_
     refine t_normal ?_
     refine c_true hf rfl ?_
     refine c_seq ?_
     refine c_region ?_
     refine step_l (st_rd hf (Wn.none rfl) (rd_assign hf rfl rfl) hS rfl rfl ?_)
     clear hf; intro a hf
     refine done_l ?_
     refine t_normal ?_
     refine c_ret ?_
     refine t_ret ?_
     refine e_res1 hf.defers rfl (res_tmp hf rfl .nil) ?_
     exact ⟨rfl, hS.subA⟩
     )
   ·
    clear hf; intro hc2 a hf
    first
    | (first | exact Bool.noConfusion hc2 | exact absurd rfl hc2; done)
    | (
     refine step_l (st_rd hf (Wn.none rfl) (rd_pick_f hf rfl rfl rfl) hS rfl rfl ?_)
     clear hf; intro a hf
     refine done_l ?_
     refine t_normal ?_
     refine c_false hf rfl ?_
     refine c_skip ?_
     refine t_normal ?_
     refine c_seq ?_
     refine c_region ?_
     refine step_l (st_rd hf (Wn.none rfl) (rd_assign hf rfl rfl) hS rfl rfl ?_)
     clear hf; intro a hf
     refine done_l ?_
     refine t_normal ?_
     refine c_seq ?_
     refine c_seq ?_
     refine c_region ?_
     refine step_l (st_rd hf (Wn.none rfl) (rd_assign hf rfl rfl) hS rfl rfl ?_)
     clear hf; intro a hf
     refine done_l ?_
     refine t_normal ?_
     refine c_block ?_
     have hk0 := Keep.of hf [(4, 4), (6, 6), (9, 18), (20, 21), (40, 170)] (by repeat (first | exact Keep.nil | apply Keep.drop rfl | apply Keep.take rfl))
     refine c_loopK hk0 (α := Nat × List (Sli UInt8) × Option Addr × Nat × Nat) (fun ⟨i, rows, qr, capr, g⟩ => [(6, .pointer (some ⟨g, 0, none⟩)), (9, .slice qr rows.length capr), (10, .int .i64 (i : Nat))]) (fun ⟨i, rows, qr, capr, g⟩ w => Sat W (Rw 23 1 qr rows.length capr (rows.map sval) :: Blk g [.pointer (some ⟨pd, 0, none⟩), .int .i64 (rows.length : Nat)] 59 :: DkP 5 56 pd ((m : Nat) : Int) (frs (byts rows)) (frs (byts rows)).length :: R) w ∧ i ≤ 50 ∧ (frs (byts rows)).length ≤ m ∧ (∀ w, Sat W R w → ∀ y ∈ rows, SlAt w y.1 y.2.2.length 1 (bvs y.2.2)) ∧ ∀ z ∈ byts rows, z.length ≤ 60000) (fun ⟨i, rows, qr, capr, g⟩ => 50 - i) (0, [], none, 0, g1) ((((hf.keep hk0).kb hf 10 rfl (by first | rfl | exact int_eq (by omega))).kb hf 9 rfl (by first | rfl | exact int_eq (by omega))).kb hf 6 rfl (by first | rfl | exact int_eq (by omega))) ⟨(hS.rwNil 23 1).subA, ⟨by omega, by simp [byts, frs], by simp, by simp [byts]⟩⟩ ?_
     clear hf hS; rintro ⟨i, rows, qr, capr, g⟩ a w hf ⟨hS, ⟨hi, hfb, hrv, hbg⟩⟩; (try dsimp only [List.cons_append, List.nil_append] at hf)
     have hrl := frs_ge (byts rows); rw [byts_len] at hrl
     refine c_seq ?_
     refine c_seq ?_
     refine c_region ?_
     refine step_l (st_rd hf (Wn.none rfl) (rd_move hf rfl rfl) hS rfl rfl ?_)
     clear hf; intro a hf
     refine step_l (st_rd hf (Wn.none rfl) (rd_move hf rfl rfl) hS rfl rfl ?_)
     clear hf; intro a hf
     refine step_l (st_rd hf (Wn.none rfl) (rd_len hf rfl rfl Try.underlying51) hS rfl rfl ?_)
     clear hf; intro a hf
     refine step_l (st_rdB hf (Wn.none rfl) (rd_lss hf rfl rfl rfl) hS rfl rfl ?_ ?_)
     ·
      clear hf; intro hc3 a hf
      obtain ⟨x, hget⟩ := get_of_lt (l := l) (k := i) (by omega) rfl; obtain ⟨hx1, hx2, hx3, hx4⟩ := hl x (List.mem_of_getElem? hget); obtain ⟨adl, rfl⟩ := (hvl _ (hS.subA)).some (by omega)
      first
      | (first | exact Bool.noConfusion hc3 | exact absurd rfl hc3; done)
      | (
       refine step_l (st_rd hf (Wn.none rfl) (rd_move hf rfl rfl) hS rfl rfl ?_)
       clear hf; intro a hf
       refine step_l (st_rd hf (Wn.some hf rfl rfl rfl rfl) (rd_move hf rfl rfl) hS rfl rfl ?_)
       clear hf; intro a hf
       refine step_l (st_rdB hf (Wn.some hf rfl rfl rfl rfl) (rd_lss hf rfl rfl rfl) hS rfl rfl ?_ ?_)
       ·
        clear hf; intro hc4 a hf
        first
        | (first | exact Bool.noConfusion hc4 | exact absurd rfl hc4; done)
        | (
         refine step_l (st_rd hf (Wn.none rfl) (rd_pick_t hf rfl rfl rfl) hS rfl rfl ?_)
         clear hf; intro a hf
         refine done_l ?_
         refine t_normal ?_
         refine c_true hf rfl ?_
         refine c_skip ?_
         refine t_normal ?_
         refine c_seq ?_
         refine c_block ?_
         refine c_seq ?_
         refine c_region ?_
         refine step_l (st_rd hf (Wn.none rfl) (rd_move hf rfl rfl) hS rfl rfl ?_)
         clear hf; intro a hf
         refine step_l (st_rd hf (Wn.none rfl) (rd_move hf rfl rfl) hS rfl rfl ?_)
         clear hf; intro a hf
         refine step_l (st_rd hf (Wn.none rfl) ((by first | exact rd_indexAddrN hf rfl rfl rfl Try.underlying51 sz53 (by omega) | exact rd_indexAddr hf rfl rfl rfl Try.underlying51 sz53 (by first | decide | omega) (by omega))) hS rfl rfl ?_)
         clear hf; intro a hf
         refine step_l (st_rd hf (Wn.none rfl) (rd_loadN hf rfl rfl ag53 sz53 (by intro _ h; exact (hvl _ (h.subA)).elem callW_len hget)) hS rfl rfl ?_)
         clear hf; intro a hf
         refine step_l (st_alloc hf (Wn.none rfl) hS rfl zr53 (by rfl) rfl rfl ?_)
         clear hf hS; intro b_c a w hf hS
         refine step_l (st_store hf (Wn.none rfl) hS rfl rfl rfl (by rfl) sz53 (by rfl) (by rfl) (by repeat (first | exact Sel.head | apply Sel.tail)) (by repeat (first | exact Put.nil | apply Put.cons | apply Put.succ)) rfl ?_)
         clear hf hS; intro a w hf hS
         refine done_l ?_
         refine t_normal ?_
         refine c_seq ?_
         refine c_seq ?_
         refine c_region ?_
         refine step_l (st_rd hf (Wn.none rfl) (rd_fieldAddrB hf rfl rfl fb53_0 rfl) hS rfl rfl ?_)
         clear hf; intro a hf
         refine step_l (st_rd hf (Wn.none rfl) (rd_load1 hf rfl rfl ag3 (by intro _ h; first | exact h.cell (by repeat (first | exact Sel.head | apply Sel.tail)) (by rfl))) hS rfl rfl ?_)
         clear hf; intro a hf
         refine done_l ?_
         refine t_normal ?_
         refine c_block ?_
         refine c_seq ?_
         refine c_region ?_
         refine step_l (st_rdB hf (Wn.none rfl) (rd_eql hf rfl rfl rfl) hS rfl rfl ?_ ?_)
         ·
          clear hf; intro hc6 a hf
          first
          | (first | exact Bool.noConfusion hc6 | exact absurd rfl hc6; done)
          | (
           refine step_l (st_rd hf (Wn.none rfl) (rd_assign hf rfl rfl) hS rfl rfl ?_)
           clear hf; intro a hf
           refine done_l ?_
           refine t_normal ?_
           refine c_true hf rfl ?_
           refine c_seq ?_
           refine c_region ?_
           refine step_l (st_rd hf (Wn.none rfl) (rd_assign hf rfl rfl) hS rfl rfl ?_)
           clear hf; intro a hf
           refine done_l ?_
           refine t_normal ?_
           refine c_seq ?_
           refine c_block ?_
           refine c_seq ?_
           refine c_region ?_
           refine step_l (st_rd hf (Wn.none rfl) (rd_fieldAddrB hf rfl rfl fb53_1 rfl) hS rfl rfl ?_)
           clear hf; intro a hf
           refine step_l (st_rd hf (Wn.none rfl) (rd_load1 hf rfl rfl ag23 (by intro _ h; first | exact h.cell (by repeat (first | exact Sel.head | apply Sel.tail)) (by rfl))) hS rfl rfl ?_)
           clear hf; intro a hf
           refine step_l (st_rd hf (Wn.none rfl) (rd_len hf rfl rfl Try.underlying23) hS rfl rfl ?_)
           clear hf; intro a hf
           refine step_l (st_rdB hf (Wn.none rfl) (rd_gtr hf rfl rfl rfl) hS rfl rfl ?_ ?_)
           ·
            clear hf; intro hc7 a hf
            have hAE : aE ((m : Nat) : Int) (frs (byts rows)) x.2.1.2.2 = 4 := a_long (by omega); obtain ⟨e1, e2, e3⟩ := a_no (n := rows.length) (s := (frs (byts rows)).length) hAE (by decide)
            first
            | (first | exact Bool.noConfusion hc7 | exact absurd rfl hc7; done)
            | (
             refine step_l (st_rd hf (Wn.none rfl) (rd_assign hf rfl rfl) hS rfl rfl ?_)
             clear hf; intro a hf
             refine done_l ?_
             refine t_normal ?_
             refine c_true hf rfl ?_
             refine c_region ?_
             refine step_l (st_rd hf (Wn.none rfl) (rd_assign hf rfl rfl) hS rfl rfl ?_)
             clear hf; intro a hf
             refine done_l ?_
             refine b_normal ?_
             refine t_normal ?_
             refine c_seq ?_
             refine c_region ?_
             refine step_l (st_rd hf (Wn.none rfl) (rd_move hf rfl rfl) hS rfl rfl ?_)
             clear hf; intro a hf
             refine step_l (st_rd hf (Wn.none rfl) (rd_fieldAddrB hf rfl rfl fb53_1 rfl) hS rfl rfl ?_)
             clear hf; intro a hf
             refine step_l (st_rd hf (Wn.none rfl) (rd_load1 hf rfl rfl ag23 (by intro _ h; first | exact h.cell (by repeat (first | exact Sel.head | apply Sel.tail)) (by rfl))) hS rfl rfl ?_)
             clear hf; intro a hf
             refine step_l (st_call hf (Wn.none rfl) rfl rfl rfl fn14 (WAppend_c _ _ _ _ _ _ x.2.1.2.2 _ _ _ (hS.sels (.cons (by repeat (first | exact Sel.head | apply Sel.tail)) (.cons (by repeat (first | exact Sel.head | apply Sel.tail)) .nil))) (by omega) (by omega) (by omega) rfl (fun _ h => hx2 _ (h.subA))) rfl rfl ?_)
             clear hf hS; rintro v a w ⟨rfl, hS⟩ hf; rw [hAE] at hf; rw [e1, e2, e3] at hS
             refine step_l (st_rd hf (Wn.none rfl) (rd_move hf rfl rfl) hS rfl rfl ?_)
             clear hf; intro a hf
             refine step_l (st_rdB hf (Wn.none rfl) (rd_neq hf rfl rfl rfl) hS rfl rfl ?_ ?_)
             ·
              clear hf; intro hc8 a hf
              exact absurd rfl hc8
             ·
              clear hf; intro hc8 a hf
              first
              | (first | exact Bool.noConfusion hc8 | exact absurd rfl hc8; done)
              | (
               refine done_l ?_
               refine t_normal ?_
               refine c_false hf rfl ?_
               refine c_skip ?_
               refine b_normal ?_
               refine t_normal ?_
               refine c_seq ?_
               obtain ⟨rw2, hrw⟩ : ∃ z : List (Sli UInt8), z = rows := ⟨_, rfl⟩
               rw [← hrw] at hf hS
               have hfb2 : (frs (byts rw2)).length ≤ m := by rw [hrw]; exact hfb
               have hrv2 : ∀ w, Sat W R w → ∀ y ∈ rw2, SlAt w y.1 y.2.2.length 1 (bvs y.2.2) := by rw [hrw]; exact hrv
               have hbg2 : ∀ z ∈ byts rw2, z.length ≤ 60000 := by rw [hrw]; exact hbg
               obtain ⟨qq2, hqq⟩ : ∃ z, z = qr := ⟨_, rfl⟩; obtain ⟨cc2, hcc⟩ : ∃ z, z = capr := ⟨_, rfl⟩; obtain ⟨gg2, hgg⟩ : ∃ z, z = g := ⟨_, rfl⟩; rw [← hqq, ← hcc, ← hgg] at hf hS; have hrl2 := frs_ge (byts rw2); rw [byts_len] at hrl2
               refine c_region ?_
               refine step_l (st_rd hf (Wn.none rfl) (rd_assign hf rfl rfl) hS rfl rfl ?_)
               clear hf; intro a hf
               refine done_l ?_
               refine t_normal ?_
               refine c_seq ?_
               refine c_seq ?_
               refine c_region ?_
               refine step_l (st_rd hf (Wn.none rfl) (rd_move hf rfl rfl) hS rfl rfl ?_)
               clear hf; intro a hf
               refine step_l (st_rd hf (Wn.none rfl) (rd_len hf rfl rfl Try.underlying22) hS rfl rfl ?_)
               clear hf; intro a hf
               refine step_l (st_rd hf (Wn.none rfl) (rd_move hf rfl rfl) hS rfl rfl ?_)
               clear hf; intro a hf
               refine done_l ?_
               refine t_normal ?_
               refine c_block ?_
               have hk1 := Keep.of hf [(18, 18), (20, 20), (121, 129)] (by repeat (first | exact Keep.nil | apply Keep.drop rfl | apply Keep.take rfl))
               refine c_loopK hk1 (α := Nat × Option Addr × Nat) (fun ⟨k, q, cap⟩ => [(18, .slice q (frs ((byts rw2).take k)).length cap), (121, .int .i64 (k : Nat))]) (fun ⟨k, q, cap⟩ w => Sat W (Rw 5 1 q (frs ((byts rw2).take k)).length cap (bvs (frs ((byts rw2).take k))) :: Rw 23 1 qq2 rw2.length cc2 (rw2.map sval) :: Blk gg2 [.pointer (some ⟨pd, 0, none⟩), .int .i64 (rw2.length : Nat)] 59 :: DkP 5 56 pd ((m : Nat) : Int) (frs (byts rw2)) (frs (byts rw2)).length :: R) w ∧ k ≤ rw2.length) (fun ⟨k, q, cap⟩ => rw2.length - k) (0, none, 0) (((hf.keep hk1).kb hf 121 rfl (by first | rfl | exact int_eq (by omega))).kb hf 18 rfl (by first | rfl | exact int_eq (by omega))) ⟨(hS.rwNil 5 1).subA, by omega⟩ ?_
               clear hf hS; rintro ⟨k, q, cap⟩ a w hf ⟨hS, hkr⟩; (try dsimp only [List.cons_append, List.nil_append] at hf)
               refine c_seq ?_
               refine c_region ?_
               refine step_l (st_rdB hf (Wn.none rfl) (rd_lss hf rfl rfl rfl) hS rfl rfl ?_ ?_)
               ·
                clear hf; intro hc9 a hf
                obtain ⟨y, hget2⟩ := get_of_lt (l := rw2) (k := k) (by omega) rfl; obtain ⟨ad2, rfl⟩ := (hS.slOfRw (xs := rw2.map sval) (by repeat (first | exact Sel.head | apply Sel.tail))).some (by omega); have hfk := frs_le (byts rw2) (k + 1); have hfs2 := congrArg List.length (frs_step hget2); rw [List.length_append, frB_len] at hfs2
                first
                | (first | exact Bool.noConfusion hc9 | exact absurd rfl hc9; done)
                | (
                 refine done_l ?_
                 refine t_normal ?_
                 refine c_seq ?_
                 refine c_true hf rfl ?_
                 refine c_skip ?_
                 refine t_normal ?_
                 refine c_seq ?_
                 refine c_block ?_
                 refine c_seq ?_
                 refine c_region ?_
                 refine step_l (st_rd hf (Wn.none rfl) ((by first | exact rd_indexAddrN1 hf rfl rfl rfl Try.underlying22 sz23 (by omega) | exact rd_indexAddr hf rfl rfl rfl Try.underlying22 sz23 (by first | decide | omega) (by omega))) hS rfl rfl ?_)
                 clear hf; intro a hf
                 refine step_l (st_rd hf (Wn.none rfl) (rd_load1 hf rfl rfl ag23 (by intro _ h; exact (h.slOfRw (xs := rw2.map sval) (by repeat (first | exact Sel.head | apply Sel.tail))).get (u := sval y) (by simp [hget2]))) hS rfl rfl ?_)
                 clear hf; intro a hf
                 refine step_l (st_rd hf (Wn.none rfl) (rd_assign hf rfl rfl) hS rfl rfl ?_)
                 clear hf; intro a hf
                 refine done_l ?_
                 refine t_normal ?_
                 refine c_region ?_
                 refine step_l (st_rd hf (Wn.none rfl) (rd_move hf rfl rfl) hS rfl rfl ?_)
                 clear hf; intro a hf
                 refine step_l (st_rd hf (Wn.none rfl) (rd_move hf rfl rfl) hS rfl rfl ?_)
                 clear hf; intro a hf
                 refine step_l (st_call hf (Wn.none rfl) rfl rfl rfl fn18 (RFrame_c y.2.2 _ _ _ hS rfl (by have := hbg2 _ (List.mem_of_getElem? (byts_get hget2)); omega) (fun _ h => hrv2 _ (h.subA) y (List.mem_of_getElem? hget2))) rfl rfl ?_)
                 clear hf hS; rintro v a w ⟨qf, capf, rfl, hS⟩ hf; have hfl := frB_len y.2.2
                 refine step_l (st_append hf (Wn.none rfl) rfl rfl rfl Try.underlying23 tyb5 (by rfl) (by decide) hS (by repeat (first | exact Sel.head | apply Sel.tail)) (by first | exact hS.slOfBlk (by repeat (first | exact Sel.head | apply Sel.tail)) (by rfl) | exact hS.slOfBlkPre (by repeat (first | exact Sel.head | apply Sel.tail)) (bvs_len1 _) | exact hS.slOfRw (by repeat (first | exact Sel.head | apply Sel.tail)) | exact SlAt.nil _ _ _) (by first | rfl | exact bvs_one _ | (simp [Value.oneCell']; done) | exact svs_one _) (by omega) rfl rfl ?_)
                 clear hf hS; intro pA128 capA128 a w hf hS hnilA
                 refine step_l (st_rd hf (Wn.none rfl) (rd_assign hf rfl rfl) hS rfl rfl ?_)
                 clear hf; intro a hf
                 refine done_l ?_
                 refine b_normal ?_
                 refine t_normal ?_
                 refine c_region ?_
                 refine step_l (st_rd hf (Wn.none rfl) (rd_add hf rfl rfl rfl (by first | exact Go.IntWalk.i64_in _ (by omega) | exact rfl)) hS rfl rfl ?_)
                 clear hf; intro a hf
                 refine step_l (st_rd hf (Wn.none rfl) (rd_move hf rfl rfl) hS rfl rfl ?_)
                 clear hf; intro a hf
                 refine done_l ?_
                 refine t_normal ⟨(k + 1, pA128, capA128), (((hf.back (by repeat (first | exact Behind.refl | refine Behind.skip rfl ?_)) hk1).kb hf 121 rfl (by first | rfl | exact int_eq (by omega))).kb hf 18 rfl (by exact slice_eq (by rw [frs_step hget2, List.length_append]))), ⟨((hS.selA : Sat W (Rw 5 1 pA128 _ capA128 _ :: _) _).rwCast (xs' := bvs (frs ((byts rw2).take (k + 1)))) (len' := (frs ((byts rw2).take (k + 1))).length) (by rw [frs_step hget2]; simp) (by rw [frs_step hget2, List.length_append])).subA, by omega⟩, by first | omega | (simp only []; omega)⟩
                 )
               ·
                clear hf; intro hc9 a hf
                obtain rfl : k = rw2.length := by omega
                rw [byts_all] at hf hS
                first
                | (first | exact Bool.noConfusion hc9 | exact absurd rfl hc9; done)
                | (
                 refine done_l ?_
                 refine t_normal ?_
                 refine c_seq ?_
                 refine c_false hf rfl ?_
                 refine c_exit ?_
                 refine t_exit ?_
                 refine t_exit ?_
                 refine b_exit ?_
                 refine t_normal ?_
                 refine c_seq ?_
                 refine c_region ?_
                 refine step_l (st_rd hf (Wn.none rfl) (rd_move hf rfl rfl) hS rfl rfl ?_)
                 clear hf; intro a hf
                 refine step_l (st_rd hf (Wn.none rfl) (rd_move hf rfl rfl) hS rfl rfl ?_)
                 clear hf; intro a hf
                 refine step_l (st_rd hf (Wn.none rfl) (rd_len hf rfl rfl Try.underlying23) hS rfl rfl ?_)
                 clear hf; intro a hf
                 refine step_l (st_rd hf (Wn.none rfl) (rd_sub hf rfl rfl rfl (by first | exact Go.IntWalk.i64_in _ (by omega) | exact rfl)) hS rfl rfl ?_)
                 clear hf; intro a hf
                 refine step_l (st_rd hf (Wn.none rfl) (rd_sub hf rfl rfl rfl (by first | exact Go.IntWalk.i64_in _ (by omega) | exact rfl)) hS rfl rfl ?_)
                 clear hf; intro a hf
                 refine step_l (st_rd hf (Wn.none rfl) (rd_min hf rfl rfl rfl) hS rfl rfl ?_)
                 clear hf; intro a hf
                 refine step_l (st_rd hf (Wn.none rfl) (rd_assign hf rfl rfl) hS rfl rfl ?_)
                 clear hf; intro a hf
                 refine done_l ?_
                 refine t_normal ?_
                 refine c_seq ?_
                 refine c_seq ?_
                 refine c_region ?_
                 refine step_l (st_rd hf (Wn.none rfl) (rd_move hf rfl rfl) hS rfl rfl ?_)
                 clear hf; intro a hf
                 refine step_l (st_rdB hf (Wn.none rfl) (rd_lss hf rfl rfl rfl) hS rfl rfl ?_ ?_)
                 ·
                  clear hf; intro hc11 a hf
                  first
                  | (first | exact Bool.noConfusion hc11 | exact absurd rfl hc11; done)
                  | (
                   refine done_l ?_
                   refine t_normal ?_
                   refine c_true hf rfl ?_
                   refine c_region ?_
                   refine step_l (st_rd hf (Wn.none rfl) (rd_assign hf rfl rfl) hS rfl rfl ?_)
                   clear hf; intro a hf
                   refine done_l ?_
                   refine t_normal ?_
                   refine c_seq ?_
                   refine any_begin mixed hS.drew ?_
                   replace hS := hS.drew
                   have hT := hS
                   refine any_takeA (i := 0) hf rfl (Wn.none rfl) (rd_move hf rfl rfl) hT rfl rfl ?_
                   clear hf; intro a hf
                   refine any_takeA (i := 3) hf rfl (Wn.none rfl) (rd_move hf rfl rfl) hT rfl rfl ?_
                   clear hf; intro a hf
                   refine any_takeA (i := 4) hf rfl (Wn.none rfl) (rd_str hf rfl rfl Try.underlying23 Try.underlying9 Try.underlying5 (by intro _ h; first | exact h.slOfRw (by repeat (first | exact Sel.head | apply Sel.tail)) | exact h.slOfBlkPre (by repeat (first | exact Sel.head | apply Sel.tail)) (bvs_len1 _) | exact h.slOfRw (by repeat (first | exact Sel.head | apply Sel.tail)))) hT rfl rfl ?_
                   clear hf; intro a hf
                   refine any_one (i := 1) rfl (by kernel_rfl) (st_call hf (Wn.none rfl) rfl rfl rfl fn16 (DBytes_c _ _ (frs (byts rw2)) _ (hS.selA) (by omega)) rfl rfl ?_)
                   clear hf hS; rintro v a w ⟨qb1, capb1, rfl, hS⟩ hf
                   replace hT := hS.sub' hT (by repeat (first | exact Sub.refl | exact Sub.none | exact Sub.behind | (apply Sub.cons; (focus ((repeat (first | exact Sel.head | apply Sel.tail)); done))) | apply Sub.skip))
                   refine ⟨hT, ?_⟩
                   refine any_one (i := 2) rfl (by kernel_rfl) (st_rd hf (Wn.none rfl) (rd_str hf rfl rfl Try.underlying23 Try.underlying9 Try.underlying5 (by intro _ h; first | exact h.slOfRw (by repeat (first | exact Sel.head | apply Sel.tail)) | exact h.slOfBlkPre (by repeat (first | exact Sel.head | apply Sel.tail)) (bvs_len1 _) | exact h.slOfRw (by repeat (first | exact Sel.head | apply Sel.tail)))) hS rfl rfl ?_)
                   clear hf; intro a hf
                   refine ⟨hT, ?_⟩
                   refine any_takeB (i := 5) hf rfl (by kernel_rfl) (by kernel_rfl) (by kernel_rfl) (fun _ _ _ _ h => h) (Wn.none rfl) (rd_neqS hf rfl rfl rfl) hT rfl rfl ?_ ?_
                   ·
                    clear hf; intro hc12 a hf
                    exact absurd rfl hc12
                   ·
                    clear hf; intro hc12 a hf
                    first
                    | (first | exact Bool.noConfusion hc12 | exact absurd rfl hc12; done)
                    | (
                     refine any_takeA (i := 6) hf rfl (Wn.none rfl) (rd_move hf rfl rfl) hT rfl rfl ?_
                     clear hf; intro a hf
                     refine any_takeA (i := 7) hf rfl (Wn.some hf rfl rfl rfl rfl) (rd_move hf rfl rfl) hT rfl rfl ?_
                     clear hf; intro a hf
                     refine any_takeA (i := 9) hf rfl (Wn.some hf rfl rfl rfl rfl) (rd_move hf rfl rfl) hT rfl rfl ?_
                     clear hf; intro a hf
                     refine any_takeA (i := 10) hf rfl (Wn.some hf rfl rfl rfl rfl) (rd_len hf rfl rfl Try.underlying23) hT rfl rfl ?_
                     clear hf; intro a hf
                     refine any_one (i := 8) rfl (by kernel_rfl) (st_call hf (Wn.some hf rfl rfl rfl rfl) rfl rfl rfl fn24 (DSure_c _ _ _ _ (hS.selA)) rfl rfl ?_)
                     clear hf hS; rintro v a w ⟨rfl, hS⟩ hf
                     replace hT := hS.sub' hT (by repeat (first | exact Sub.refl | exact Sub.none | exact Sub.behind | (apply Sub.cons; (focus ((repeat (first | exact Sel.head | apply Sel.tail)); done))) | apply Sub.skip))
                     refine ⟨hT, ?_⟩
                     refine any_takeB (i := 11) hf rfl (by kernel_rfl) (by kernel_rfl) (by kernel_rfl) (fun _ _ _ _ h => h) (Wn.some hf rfl rfl rfl rfl) (rd_neq hf rfl rfl rfl) hT rfl rfl ?_ ?_
                     ·
                      clear hf; intro hc13 a hf
                      exact absurd rfl hc13
                     ·
                      clear hf; intro hc13 a hf
                      first
                      | (first | exact Bool.noConfusion hc13 | exact absurd rfl hc13; done)
                      | (
                       refine any_takeA (i := 12) hf rfl (Wn.none rfl) (rd_pick_f hf rfl rfl rfl) hT rfl rfl ?_
                       clear hf; intro a hf
                       refine any_takeA (i := 13) hf rfl (Wn.none rfl) (rd_move hf rfl rfl) hT rfl rfl ?_
                       clear hf; intro a hf
                       refine any_takeA (i := 14) hf rfl (Wn.some hf rfl rfl rfl rfl) (rd_move hf rfl rfl) hT rfl rfl ?_
                       clear hf; intro a hf
                       refine any_takeA (i := 16) hf rfl (Wn.some hf rfl rfl rfl rfl) (rd_move hf rfl rfl) hT rfl rfl ?_
                       clear hf; intro a hf
                       refine any_takeA (i := 17) hf rfl (Wn.some hf rfl rfl rfl rfl) (rd_len hf rfl rfl Try.underlying22) hT rfl rfl ?_
                       clear hf; intro a hf
                       refine any_one (i := 15) rfl (by kernel_rfl) (st_call hf (Wn.some hf rfl rfl rfl rfl) rfl rfl rfl fn22 (WLen_c _ _ _ _ _ _ (hS.sels (.cons (by repeat (first | exact Sel.head | apply Sel.tail)) (.cons (by repeat (first | exact Sel.head | apply Sel.tail)) .nil)))) rfl rfl ?_)
                       clear hf hS; rintro v a w ⟨rfl, hS⟩ hf
                       replace hT := hS.sub' hT (by repeat (first | exact Sub.refl | exact Sub.none | exact Sub.behind | (apply Sub.cons; (focus ((repeat (first | exact Sel.head | apply Sel.tail)); done))) | apply Sub.skip))
                       refine ⟨hT, ?_⟩
                       refine any_takeB (i := 18) hf rfl (by kernel_rfl) (by kernel_rfl) (by kernel_rfl) (fun _ _ _ _ h => h) (Wn.some hf rfl rfl rfl rfl) (rd_neq hf rfl rfl rfl) hT rfl rfl ?_ ?_
                       ·
                        clear hf; intro hc14 a hf
                        exact absurd rfl hc14
                       ·
                        clear hf; intro hc14 a hf
                        first
                        | (first | exact Bool.noConfusion hc14 | exact absurd rfl hc14; done)
                        | (
                         refine any_takeA (i := 19) hf rfl (Wn.none rfl) (rd_pick_f hf rfl rfl rfl) hT rfl rfl ?_
                         clear hf; intro a hf
                         refine any_takeA (i := 20) hf rfl (Wn.none rfl) (rd_move hf rfl rfl) hT rfl rfl ?_
                         clear hf; intro a hf
                         refine any_takeA (i := 21) hf rfl (Wn.some hf rfl rfl rfl rfl) (rd_move hf rfl rfl) hT rfl rfl ?_
                         clear hf; intro a hf
                         refine any_takeA (i := 23) hf rfl (Wn.some hf rfl rfl rfl rfl) (rd_move hf rfl rfl) hT rfl rfl ?_
                         clear hf; intro a hf
                         refine any_takeA (i := 24) hf rfl (Wn.some hf rfl rfl rfl rfl) (rd_len hf rfl rfl Try.underlying23) hT rfl rfl ?_
                         clear hf; intro a hf
                         refine any_one (i := 22) rfl (by kernel_rfl) (st_call hf (Wn.some hf rfl rfl rfl rfl) rfl rfl rfl fn23 (WSize_c _ _ _ _ _ _ (hS.sels (.cons (by repeat (first | exact Sel.head | apply Sel.tail)) (.cons (by repeat (first | exact Sel.head | apply Sel.tail)) .nil)))) rfl rfl ?_)
                         clear hf hS; rintro v a w ⟨rfl, hS⟩ hf
                         replace hT := hS.sub' hT (by repeat (first | exact Sub.refl | exact Sub.none | exact Sub.behind | (apply Sub.cons; (focus ((repeat (first | exact Sel.head | apply Sel.tail)); done))) | apply Sub.skip))
                         refine ⟨hT, ?_⟩
                         refine any_takeB (i := 25) hf rfl (by kernel_rfl) (by kernel_rfl) (by kernel_rfl) (fun _ _ _ _ h => h) (Wn.some hf rfl rfl rfl rfl) (rd_neq hf rfl rfl rfl) hT rfl rfl ?_ ?_
                         ·
                          clear hf; intro hc15 a hf
                          exact absurd rfl hc15
                         ·
                          clear hf; intro hc15 a hf
                          first
                          | (first | exact Bool.noConfusion hc15 | exact absurd rfl hc15; done)
                          | (
                           refine any_takeA (i := 26) hf rfl (Wn.none rfl) (rd_pick_f hf rfl rfl rfl) hT rfl rfl ?_
                           clear hf; intro a hf
                           refine any_takeA (i := 27) hf rfl (Wn.none rfl) (rd_move hf rfl rfl) hT rfl rfl ?_
                           clear hf; intro a hf
                           refine any_takeA (i := 28) hf rfl (Wn.some hf rfl rfl rfl rfl) (rd_move hf rfl rfl) hT rfl rfl ?_
                           clear hf; intro a hf
                           refine any_takeA (i := 30) hf rfl (Wn.some hf rfl rfl rfl rfl) (rd_move hf rfl rfl) hT rfl rfl ?_
                           clear hf; intro a hf
                           refine any_one (i := 29) rfl (by kernel_rfl) (st_call hf (Wn.some hf rfl rfl rfl rfl) rfl rfl rfl fn25 (WRoom_c _ _ _ _ _ _ (hS.sels (.cons (by repeat (first | exact Sel.head | apply Sel.tail)) (.cons (by repeat (first | exact Sel.head | apply Sel.tail)) .nil))) (by omega) (by omega)) rfl rfl ?_)
                           clear hf hS; rintro v a w ⟨rfl, hS⟩ hf
                           replace hT := hS.sub' hT (by repeat (first | exact Sub.refl | exact Sub.none | exact Sub.behind | (apply Sub.cons; (focus ((repeat (first | exact Sel.head | apply Sel.tail)); done))) | apply Sub.skip))
                           refine ⟨hT, ?_⟩
                           refine any_takeB (i := 31) hf rfl (by kernel_rfl) (by kernel_rfl) (by kernel_rfl) (fun _ _ _ _ h => h) (Wn.some hf rfl rfl rfl rfl) (rd_neq hf rfl rfl rfl) hT rfl rfl ?_ ?_
                           ·
                            clear hf; intro hc16 a hf
                            exact absurd (by omega) hc16
                           ·
                            clear hf; intro hc16 a hf
                            first
                            | (first | exact Bool.noConfusion hc16 | exact absurd rfl hc16; done)
                            | (
                             refine any_takeA (i := 32) hf rfl (Wn.none rfl) (rd_pick_f hf rfl rfl rfl) hT rfl rfl ?_
                             clear hf; intro a hf
                             refine any_done (by kernel_rfl) ?_
                             refine t_normal ?_
                             refine c_false hf rfl ?_
                             refine c_skip ?_
                             refine b_normal ?_
                             refine t_normal ?_
                             refine c_region ?_
                             refine step_l (st_rd hf (Wn.none rfl) (rd_move hf rfl rfl) hS rfl rfl ?_)
                             clear hf; intro a hf
                             refine step_l (st_rd hf (Wn.none rfl) (rd_add hf rfl rfl rfl (by first | exact Go.IntWalk.i64_in _ (by omega) | exact rfl)) hS rfl rfl ?_)
                             clear hf; intro a hf
                             refine step_l (st_rd hf (Wn.none rfl) (rd_assign hf rfl rfl) hS rfl rfl ?_)
                             clear hf; intro a hf
                             refine done_l ?_
                             refine t_normal ⟨(i + 1, rw2, qq2, cc2, gg2), ((((hf.back (by repeat (first | exact Behind.refl | refine Behind.skip rfl ?_)) hk0).kb hf 10 rfl (by first | rfl | exact int_eq (by omega))).kb hf 9 rfl (by first | rfl | exact int_eq (by omega))).kb hf 6 rfl (by first | rfl | exact int_eq (by omega))), ⟨hS.subA, ⟨by omega, hfb2, hrv2, hbg2⟩⟩, by first | omega | (simp only []; omega)⟩
                             )
                           )
                         )
                       )
                     )
                   )
                 ·
                  clear hf; intro hc11 a hf
                  first
                  | (first | exact Bool.noConfusion hc11 | exact absurd rfl hc11; done)
                  | (
                   refine done_l ?_
                   refine t_normal ?_
                   refine c_false hf rfl ?_
                   refine c_skip ?_
                   refine t_normal ?_
                   refine c_seq ?_
                   refine any_begin mixed hS.drew ?_
                   replace hS := hS.drew
                   have hT := hS
                   refine any_takeA (i := 0) hf rfl (Wn.none rfl) (rd_move hf rfl rfl) hT rfl rfl ?_
                   clear hf; intro a hf
                   refine any_takeA (i := 3) hf rfl (Wn.none rfl) (rd_move hf rfl rfl) hT rfl rfl ?_
                   clear hf; intro a hf
                   refine any_takeA (i := 4) hf rfl (Wn.none rfl) (rd_str hf rfl rfl Try.underlying23 Try.underlying9 Try.underlying5 (by intro _ h; first | exact h.slOfRw (by repeat (first | exact Sel.head | apply Sel.tail)) | exact h.slOfBlkPre (by repeat (first | exact Sel.head | apply Sel.tail)) (bvs_len1 _) | exact h.slOfRw (by repeat (first | exact Sel.head | apply Sel.tail)))) hT rfl rfl ?_
                   clear hf; intro a hf
                   refine any_one (i := 1) rfl (by kernel_rfl) (st_call hf (Wn.none rfl) rfl rfl rfl fn16 (DBytes_c _ _ (frs (byts rw2)) _ (hS.selA) (by omega)) rfl rfl ?_)
                   clear hf hS; rintro v a w ⟨qb1, capb1, rfl, hS⟩ hf
                   replace hT := hS.sub' hT (by repeat (first | exact Sub.refl | exact Sub.none | exact Sub.behind | (apply Sub.cons; (focus ((repeat (first | exact Sel.head | apply Sel.tail)); done))) | apply Sub.skip))
                   refine ⟨hT, ?_⟩
                   refine any_one (i := 2) rfl (by kernel_rfl) (st_rd hf (Wn.none rfl) (rd_str hf rfl rfl Try.underlying23 Try.underlying9 Try.underlying5 (by intro _ h; first | exact h.slOfRw (by repeat (first | exact Sel.head | apply Sel.tail)) | exact h.slOfBlkPre (by repeat (first | exact Sel.head | apply Sel.tail)) (bvs_len1 _) | exact h.slOfRw (by repeat (first | exact Sel.head | apply Sel.tail)))) hS rfl rfl ?_)
                   clear hf; intro a hf
                   refine ⟨hT, ?_⟩
                   refine any_takeB (i := 5) hf rfl (by kernel_rfl) (by kernel_rfl) (by kernel_rfl) (fun _ _ _ _ h => h) (Wn.none rfl) (rd_neqS hf rfl rfl rfl) hT rfl rfl ?_ ?_
                   ·
                    clear hf; intro hc17 a hf
                    exact absurd rfl hc17
                   ·
                    clear hf; intro hc17 a hf
                    first
                    | (first | exact Bool.noConfusion hc17 | exact absurd rfl hc17; done)
                    | (
                     refine any_takeA (i := 6) hf rfl (Wn.none rfl) (rd_move hf rfl rfl) hT rfl rfl ?_
                     clear hf; intro a hf
                     refine any_takeA (i := 7) hf rfl (Wn.some hf rfl rfl rfl rfl) (rd_move hf rfl rfl) hT rfl rfl ?_
                     clear hf; intro a hf
                     refine any_takeA (i := 9) hf rfl (Wn.some hf rfl rfl rfl rfl) (rd_move hf rfl rfl) hT rfl rfl ?_
                     clear hf; intro a hf
                     refine any_takeA (i := 10) hf rfl (Wn.some hf rfl rfl rfl rfl) (rd_len hf rfl rfl Try.underlying23) hT rfl rfl ?_
                     clear hf; intro a hf
                     refine any_one (i := 8) rfl (by kernel_rfl) (st_call hf (Wn.some hf rfl rfl rfl rfl) rfl rfl rfl fn24 (DSure_c _ _ _ _ (hS.selA)) rfl rfl ?_)
                     clear hf hS; rintro v a w ⟨rfl, hS⟩ hf
                     replace hT := hS.sub' hT (by repeat (first | exact Sub.refl | exact Sub.none | exact Sub.behind | (apply Sub.cons; (focus ((repeat (first | exact Sel.head | apply Sel.tail)); done))) | apply Sub.skip))
                     refine ⟨hT, ?_⟩
                     refine any_takeB (i := 11) hf rfl (by kernel_rfl) (by kernel_rfl) (by kernel_rfl) (fun _ _ _ _ h => h) (Wn.some hf rfl rfl rfl rfl) (rd_neq hf rfl rfl rfl) hT rfl rfl ?_ ?_
                     ·
                      clear hf; intro hc18 a hf
                      exact absurd rfl hc18
                     ·
                      clear hf; intro hc18 a hf
                      first
                      | (first | exact Bool.noConfusion hc18 | exact absurd rfl hc18; done)
                      | (
                       refine any_takeA (i := 12) hf rfl (Wn.none rfl) (rd_pick_f hf rfl rfl rfl) hT rfl rfl ?_
                       clear hf; intro a hf
                       refine any_takeA (i := 13) hf rfl (Wn.none rfl) (rd_move hf rfl rfl) hT rfl rfl ?_
                       clear hf; intro a hf
                       refine any_takeA (i := 14) hf rfl (Wn.some hf rfl rfl rfl rfl) (rd_move hf rfl rfl) hT rfl rfl ?_
                       clear hf; intro a hf
                       refine any_takeA (i := 16) hf rfl (Wn.some hf rfl rfl rfl rfl) (rd_move hf rfl rfl) hT rfl rfl ?_
                       clear hf; intro a hf
                       refine any_takeA (i := 17) hf rfl (Wn.some hf rfl rfl rfl rfl) (rd_len hf rfl rfl Try.underlying22) hT rfl rfl ?_
                       clear hf; intro a hf
                       refine any_one (i := 15) rfl (by kernel_rfl) (st_call hf (Wn.some hf rfl rfl rfl rfl) rfl rfl rfl fn22 (WLen_c _ _ _ _ _ _ (hS.sels (.cons (by repeat (first | exact Sel.head | apply Sel.tail)) (.cons (by repeat (first | exact Sel.head | apply Sel.tail)) .nil)))) rfl rfl ?_)
                       clear hf hS; rintro v a w ⟨rfl, hS⟩ hf
                       replace hT := hS.sub' hT (by repeat (first | exact Sub.refl | exact Sub.none | exact Sub.behind | (apply Sub.cons; (focus ((repeat (first | exact Sel.head | apply Sel.tail)); done))) | apply Sub.skip))
                       refine ⟨hT, ?_⟩
                       refine any_takeB (i := 18) hf rfl (by kernel_rfl) (by kernel_rfl) (by kernel_rfl) (fun _ _ _ _ h => h) (Wn.some hf rfl rfl rfl rfl) (rd_neq hf rfl rfl rfl) hT rfl rfl ?_ ?_
                       ·
                        clear hf; intro hc19 a hf
                        exact absurd rfl hc19
                       ·
                        clear hf; intro hc19 a hf
                        first
                        | (first | exact Bool.noConfusion hc19 | exact absurd rfl hc19; done)
                        | (
                         refine any_takeA (i := 19) hf rfl (Wn.none rfl) (rd_pick_f hf rfl rfl rfl) hT rfl rfl ?_
                         clear hf; intro a hf
                         refine any_takeA (i := 20) hf rfl (Wn.none rfl) (rd_move hf rfl rfl) hT rfl rfl ?_
                         clear hf; intro a hf
                         refine any_takeA (i := 21) hf rfl (Wn.some hf rfl rfl rfl rfl) (rd_move hf rfl rfl) hT rfl rfl ?_
                         clear hf; intro a hf
                         refine any_takeA (i := 23) hf rfl (Wn.some hf rfl rfl rfl rfl) (rd_move hf rfl rfl) hT rfl rfl ?_
                         clear hf; intro a hf
                         refine any_takeA (i := 24) hf rfl (Wn.some hf rfl rfl rfl rfl) (rd_len hf rfl rfl Try.underlying23) hT rfl rfl ?_
                         clear hf; intro a hf
                         refine any_one (i := 22) rfl (by kernel_rfl) (st_call hf (Wn.some hf rfl rfl rfl rfl) rfl rfl rfl fn23 (WSize_c _ _ _ _ _ _ (hS.sels (.cons (by repeat (first | exact Sel.head | apply Sel.tail)) (.cons (by repeat (first | exact Sel.head | apply Sel.tail)) .nil)))) rfl rfl ?_)
                         clear hf hS; rintro v a w ⟨rfl, hS⟩ hf
                         replace hT := hS.sub' hT (by repeat (first | exact Sub.refl | exact Sub.none | exact Sub.behind | (apply Sub.cons; (focus ((repeat (first | exact Sel.head | apply Sel.tail)); done))) | apply Sub.skip))
                         refine ⟨hT, ?_⟩
                         refine any_takeB (i := 25) hf rfl (by kernel_rfl) (by kernel_rfl) (by kernel_rfl) (fun _ _ _ _ h => h) (Wn.some hf rfl rfl rfl rfl) (rd_neq hf rfl rfl rfl) hT rfl rfl ?_ ?_
                         ·
                          clear hf; intro hc20 a hf
                          exact absurd rfl hc20
                         ·
                          clear hf; intro hc20 a hf
                          first
                          | (first | exact Bool.noConfusion hc20 | exact absurd rfl hc20; done)
                          | (
                           refine any_takeA (i := 26) hf rfl (Wn.none rfl) (rd_pick_f hf rfl rfl rfl) hT rfl rfl ?_
                           clear hf; intro a hf
                           refine any_takeA (i := 27) hf rfl (Wn.none rfl) (rd_move hf rfl rfl) hT rfl rfl ?_
                           clear hf; intro a hf
                           refine any_takeA (i := 28) hf rfl (Wn.some hf rfl rfl rfl rfl) (rd_move hf rfl rfl) hT rfl rfl ?_
                           clear hf; intro a hf
                           refine any_takeA (i := 30) hf rfl (Wn.some hf rfl rfl rfl rfl) (rd_move hf rfl rfl) hT rfl rfl ?_
                           clear hf; intro a hf
                           refine any_one (i := 29) rfl (by kernel_rfl) (st_call hf (Wn.some hf rfl rfl rfl rfl) rfl rfl rfl fn25 (WRoom_c _ _ _ _ _ _ (hS.sels (.cons (by repeat (first | exact Sel.head | apply Sel.tail)) (.cons (by repeat (first | exact Sel.head | apply Sel.tail)) .nil))) (by omega) (by omega)) rfl rfl ?_)
                           clear hf hS; rintro v a w ⟨rfl, hS⟩ hf
                           replace hT := hS.sub' hT (by repeat (first | exact Sub.refl | exact Sub.none | exact Sub.behind | (apply Sub.cons; (focus ((repeat (first | exact Sel.head | apply Sel.tail)); done))) | apply Sub.skip))
                           refine ⟨hT, ?_⟩
                           refine any_takeB (i := 31) hf rfl (by kernel_rfl) (by kernel_rfl) (by kernel_rfl) (fun _ _ _ _ h => h) (Wn.some hf rfl rfl rfl rfl) (rd_neq hf rfl rfl rfl) hT rfl rfl ?_ ?_
                           ·
                            clear hf; intro hc21 a hf
                            exact absurd (by omega) hc21
                           ·
                            clear hf; intro hc21 a hf
                            first
                            | (first | exact Bool.noConfusion hc21 | exact absurd rfl hc21; done)
                            | (
                             refine any_takeA (i := 32) hf rfl (Wn.none rfl) (rd_pick_f hf rfl rfl rfl) hT rfl rfl ?_
                             clear hf; intro a hf
                             refine any_done (by kernel_rfl) ?_
                             refine t_normal ?_
                             refine c_false hf rfl ?_
                             refine c_skip ?_
                             refine b_normal ?_
                             refine t_normal ?_
                             refine c_region ?_
                             refine step_l (st_rd hf (Wn.none rfl) (rd_move hf rfl rfl) hS rfl rfl ?_)
                             clear hf; intro a hf
                             refine step_l (st_rd hf (Wn.none rfl) (rd_add hf rfl rfl rfl (by first | exact Go.IntWalk.i64_in _ (by omega) | exact rfl)) hS rfl rfl ?_)
                             clear hf; intro a hf
                             refine step_l (st_rd hf (Wn.none rfl) (rd_assign hf rfl rfl) hS rfl rfl ?_)
                             clear hf; intro a hf
                             refine done_l ?_
                             refine t_normal ⟨(i + 1, rw2, qq2, cc2, gg2), ((((hf.back (by repeat (first | exact Behind.refl | refine Behind.skip rfl ?_)) hk0).kb hf 10 rfl (by first | rfl | exact int_eq (by omega))).kb hf 9 rfl (by first | rfl | exact int_eq (by omega))).kb hf 6 rfl (by first | rfl | exact int_eq (by omega))), ⟨hS.subA, ⟨by omega, hfb2, hrv2, hbg2⟩⟩, by first | omega | (simp only []; omega)⟩
                             )
                           )
                         )
                       )
                     )
                   )
                 )
               )
             )
           ·
            clear hf; intro hc7 a hf
            first
            | (first | exact Bool.noConfusion hc7 | exact absurd rfl hc7; done)
            | (
             refine step_l (st_rd hf (Wn.none rfl) (rd_assign hf rfl rfl) hS rfl rfl ?_)
             clear hf; intro a hf
             refine done_l ?_
             refine t_normal ?_
             refine c_false hf rfl ?_
             refine c_seq ?_
             refine any_begin mixed hS.drew ?_
             replace hS := hS.drew
             have hT := hS
             refine any_takeA (i := 0) hf rfl (Wn.none rfl) (rd_move hf rfl rfl) hT rfl rfl ?_
             clear hf; intro a hf
             refine any_takeA (i := 2) hf rfl (Wn.none rfl) (rd_fieldAddrB hf rfl rfl fb53_1 rfl) hT rfl rfl ?_
             clear hf; intro a hf
             refine any_takeA (i := 3) hf rfl (Wn.none rfl) (rd_load1 hf rfl rfl ag23 (by intro _ h; first | exact h.cell (by repeat (first | exact Sel.head | apply Sel.tail)) (by rfl))) hT rfl rfl ?_
             clear hf; intro a hf
             refine any_takeA (i := 4) hf rfl (Wn.none rfl) (rd_len hf rfl rfl Try.underlying23) hT rfl rfl ?_
             clear hf; intro a hf
             refine any_takeA (i := 7) hf rfl (Wn.none rfl) (rd_move hf rfl rfl) hT rfl rfl ?_
             clear hf; intro a hf
             refine any_one (i := 1) rfl (by kernel_rfl) (st_call hf (Wn.none rfl) rfl rfl rfl fn28 (size_c rows _ _ _ hS rfl (by omega) (by omega) (fun _ h => BB.mk (h.slOfRw (xs := rows.map sval) (by repeat (first | exact Sel.head | apply Sel.tail))) (hrv _ (h.subA)))) rfl rfl ?_)
             clear hf hS; rintro v a w ⟨rfl, hS⟩ hf
             replace hT := hS.sub' hT (by repeat (first | exact Sub.refl | exact Sub.none | exact Sub.behind | (apply Sub.cons; (focus ((repeat (first | exact Sel.head | apply Sel.tail)); done))) | apply Sub.skip))
             refine ⟨hT, ?_⟩
             refine any_takeA (i := 5) hf rfl (Wn.none rfl) (rd_add hf rfl rfl rfl (by first | exact Go.IntWalk.i64_in _ (by omega) | exact rfl)) hT rfl rfl ?_
             clear hf; intro a hf
             refine any_takeA (i := 6) hf rfl (Wn.none rfl) (rd_add hf rfl rfl rfl (by first | exact Go.IntWalk.i64_in _ (by omega) | exact rfl)) hT rfl rfl ?_
             clear hf; intro a hf
             refine any_takeB (i := 8) hf rfl (by kernel_rfl) (by kernel_rfl) (by kernel_rfl) (fun _ _ _ _ h => h) (Wn.none rfl) (rd_gtr hf rfl rfl rfl) hT rfl rfl ?_ ?_
             ·
              clear hf; intro hc22 a hf
              have hAE : aE ((m : Nat) : Int) (frs (byts rows)) x.2.1.2.2 = 5 := a_full (by omega) (by omega); obtain ⟨e1, e2, e3⟩ := a_no (n := rows.length) (s := (frs (byts rows)).length) hAE (by decide)
              first
              | (first | exact Bool.noConfusion hc22 | exact absurd rfl hc22; done)
              | (
               refine any_takeA (i := 9) hf rfl (Wn.none rfl) (rd_assign hf rfl rfl) hT rfl rfl ?_
               clear hf; intro a hf
               refine any_done (by kernel_rfl) ?_
               refine t_normal ?_
               refine c_true hf rfl ?_
               refine c_region ?_
               refine step_l (st_rd hf (Wn.none rfl) (rd_assign hf rfl rfl) hS rfl rfl ?_)
               clear hf; intro a hf
               refine done_l ?_
               refine b_normal ?_
               refine t_normal ?_
               refine c_seq ?_
               refine c_region ?_
               refine step_l (st_rd hf (Wn.none rfl) (rd_move hf rfl rfl) hS rfl rfl ?_)
               clear hf; intro a hf
               refine step_l (st_rd hf (Wn.none rfl) (rd_fieldAddrB hf rfl rfl fb53_1 rfl) hS rfl rfl ?_)
               clear hf; intro a hf
               refine step_l (st_rd hf (Wn.none rfl) (rd_load1 hf rfl rfl ag23 (by intro _ h; first | exact h.cell (by repeat (first | exact Sel.head | apply Sel.tail)) (by rfl))) hS rfl rfl ?_)
               clear hf; intro a hf
               refine step_l (st_call hf (Wn.none rfl) rfl rfl rfl fn14 (WAppend_c _ _ _ _ _ _ x.2.1.2.2 _ _ _ (hS.sels (.cons (by repeat (first | exact Sel.head | apply Sel.tail)) (.cons (by repeat (first | exact Sel.head | apply Sel.tail)) .nil))) (by omega) (by omega) (by omega) rfl (fun _ h => hx2 _ (h.subA))) rfl rfl ?_)
               clear hf hS; rintro v a w ⟨rfl, hS⟩ hf; rw [hAE] at hf; rw [e1, e2, e3] at hS
               refine step_l (st_rd hf (Wn.none rfl) (rd_move hf rfl rfl) hS rfl rfl ?_)
               clear hf; intro a hf
               refine step_l (st_rdB hf (Wn.none rfl) (rd_neq hf rfl rfl rfl) hS rfl rfl ?_ ?_)
               ·
                clear hf; intro hc23 a hf
                exact absurd rfl hc23
               ·
                clear hf; intro hc23 a hf
                first
                | (first | exact Bool.noConfusion hc23 | exact absurd rfl hc23; done)
                | (
                 refine done_l ?_
                 refine t_normal ?_
                 refine c_false hf rfl ?_
                 refine c_skip ?_
                 refine b_normal ?_
                 refine t_normal ?_
                 refine c_seq ?_
                 obtain ⟨rw2, hrw⟩ : ∃ z : List (Sli UInt8), z = rows := ⟨_, rfl⟩
                 rw [← hrw] at hf hS
                 have hfb2 : (frs (byts rw2)).length ≤ m := by rw [hrw]; exact hfb
                 have hrv2 : ∀ w, Sat W R w → ∀ y ∈ rw2, SlAt w y.1 y.2.2.length 1 (bvs y.2.2) := by rw [hrw]; exact hrv
                 have hbg2 : ∀ z ∈ byts rw2, z.length ≤ 60000 := by rw [hrw]; exact hbg
                 obtain ⟨qq2, hqq⟩ : ∃ z, z = qr := ⟨_, rfl⟩; obtain ⟨cc2, hcc⟩ : ∃ z, z = capr := ⟨_, rfl⟩; obtain ⟨gg2, hgg⟩ : ∃ z, z = g := ⟨_, rfl⟩; rw [← hqq, ← hcc, ← hgg] at hf hS; have hrl2 := frs_ge (byts rw2); rw [byts_len] at hrl2
                 refine c_region ?_
                 refine step_l (st_rd hf (Wn.none rfl) (rd_assign hf rfl rfl) hS rfl rfl ?_)
                 clear hf; intro a hf
                 refine done_l ?_
                 refine t_normal ?_
                 refine c_seq ?_
                 refine c_seq ?_
                 refine c_region ?_
                 refine step_l (st_rd hf (Wn.none rfl) (rd_move hf rfl rfl) hS rfl rfl ?_)
                 clear hf; intro a hf
                 refine step_l (st_rd hf (Wn.none rfl) (rd_len hf rfl rfl Try.underlying22) hS rfl rfl ?_)
                 clear hf; intro a hf
                 refine step_l (st_rd hf (Wn.none rfl) (rd_move hf rfl rfl) hS rfl rfl ?_)
                 clear hf; intro a hf
                 refine done_l ?_
                 refine t_normal ?_
                 refine c_block ?_
                 have hk2 := Keep.of hf [(18, 18), (20, 20), (121, 129)] (by repeat (first | exact Keep.nil | apply Keep.drop rfl | apply Keep.take rfl))
                 refine c_loopK hk2 (α := Nat × Option Addr × Nat) (fun ⟨k, q, cap⟩ => [(18, .slice q (frs ((byts rw2).take k)).length cap), (121, .int .i64 (k : Nat))]) (fun ⟨k, q, cap⟩ w => Sat W (Rw 5 1 q (frs ((byts rw2).take k)).length cap (bvs (frs ((byts rw2).take k))) :: Rw 23 1 qq2 rw2.length cc2 (rw2.map sval) :: Blk gg2 [.pointer (some ⟨pd, 0, none⟩), .int .i64 (rw2.length : Nat)] 59 :: DkP 5 56 pd ((m : Nat) : Int) (frs (byts rw2)) (frs (byts rw2)).length :: R) w ∧ k ≤ rw2.length) (fun ⟨k, q, cap⟩ => rw2.length - k) (0, none, 0) (((hf.keep hk2).kb hf 121 rfl (by first | rfl | exact int_eq (by omega))).kb hf 18 rfl (by first | rfl | exact int_eq (by omega))) ⟨(hS.rwNil 5 1).subA, by omega⟩ ?_
                 clear hf hS; rintro ⟨k, q, cap⟩ a w hf ⟨hS, hkr⟩; (try dsimp only [List.cons_append, List.nil_append] at hf)
                 refine c_seq ?_
                 refine c_region ?_
                 refine step_l (st_rdB hf (Wn.none rfl) (rd_lss hf rfl rfl rfl) hS rfl rfl ?_ ?_)
                 ·
                  clear hf; intro hc24 a hf
                  obtain ⟨y, hget2⟩ := get_of_lt (l := rw2) (k := k) (by omega) rfl; obtain ⟨ad2, rfl⟩ := (hS.slOfRw (xs := rw2.map sval) (by repeat (first | exact Sel.head | apply Sel.tail))).some (by omega); have hfk := frs_le (byts rw2) (k + 1); have hfs2 := congrArg List.length (frs_step hget2); rw [List.length_append, frB_len] at hfs2
                  first
                  | (first | exact Bool.noConfusion hc24 | exact absurd rfl hc24; done)
                  | (
                   refine done_l ?_
                   refine t_normal ?_
                   refine c_seq ?_
                   refine c_true hf rfl ?_
                   refine c_skip ?_
                   refine t_normal ?_
                   refine c_seq ?_
                   refine c_block ?_
                   refine c_seq ?_
                   refine c_region ?_
                   refine step_l (st_rd hf (Wn.none rfl) ((by first | exact rd_indexAddrN1 hf rfl rfl rfl Try.underlying22 sz23 (by omega) | exact rd_indexAddr hf rfl rfl rfl Try.underlying22 sz23 (by first | decide | omega) (by omega))) hS rfl rfl ?_)
                   clear hf; intro a hf
                   refine step_l (st_rd hf (Wn.none rfl) (rd_load1 hf rfl rfl ag23 (by intro _ h; exact (h.slOfRw (xs := rw2.map sval) (by repeat (first | exact Sel.head | apply Sel.tail))).get (u := sval y) (by simp [hget2]))) hS rfl rfl ?_)
                   clear hf; intro a hf
                   refine step_l (st_rd hf (Wn.none rfl) (rd_assign hf rfl rfl) hS rfl rfl ?_)
                   clear hf; intro a hf
                   refine done_l ?_
                   refine t_normal ?_
                   refine c_region ?_
                   refine step_l (st_rd hf (Wn.none rfl) (rd_move hf rfl rfl) hS rfl rfl ?_)
                   clear hf; intro a hf
                   refine step_l (st_rd hf (Wn.none rfl) (rd_move hf rfl rfl) hS rfl rfl ?_)
                   clear hf; intro a hf
                   refine step_l (st_call hf (Wn.none rfl) rfl rfl rfl fn18 (RFrame_c y.2.2 _ _ _ hS rfl (by have := hbg2 _ (List.mem_of_getElem? (byts_get hget2)); omega) (fun _ h => hrv2 _ (h.subA) y (List.mem_of_getElem? hget2))) rfl rfl ?_)
                   clear hf hS; rintro v a w ⟨qf, capf, rfl, hS⟩ hf; have hfl := frB_len y.2.2
                   refine step_l (st_append hf (Wn.none rfl) rfl rfl rfl Try.underlying23 tyb5 (by rfl) (by decide) hS (by repeat (first | exact Sel.head | apply Sel.tail)) (by first | exact hS.slOfBlk (by repeat (first | exact Sel.head | apply Sel.tail)) (by rfl) | exact hS.slOfBlkPre (by repeat (first | exact Sel.head | apply Sel.tail)) (bvs_len1 _) | exact hS.slOfRw (by repeat (first | exact Sel.head | apply Sel.tail)) | exact SlAt.nil _ _ _) (by first | rfl | exact bvs_one _ | (simp [Value.oneCell']; done) | exact svs_one _) (by omega) rfl rfl ?_)
                   clear hf hS; intro pA128 capA128 a w hf hS hnilA
                   refine step_l (st_rd hf (Wn.none rfl) (rd_assign hf rfl rfl) hS rfl rfl ?_)
                   clear hf; intro a hf
                   refine done_l ?_
                   refine b_normal ?_
                   refine t_normal ?_
                   refine c_region ?_
                   refine step_l (st_rd hf (Wn.none rfl) (rd_add hf rfl rfl rfl (by first | exact Go.IntWalk.i64_in _ (by omega) | exact rfl)) hS rfl rfl ?_)
                   clear hf; intro a hf
                   refine step_l (st_rd hf (Wn.none rfl) (rd_move hf rfl rfl) hS rfl rfl ?_)
                   clear hf; intro a hf
                   refine done_l ?_
                   refine t_normal ⟨(k + 1, pA128, capA128), (((hf.back (by repeat (first | exact Behind.refl | refine Behind.skip rfl ?_)) hk2).kb hf 121 rfl (by first | rfl | exact int_eq (by omega))).kb hf 18 rfl (by exact slice_eq (by rw [frs_step hget2, List.length_append]))), ⟨((hS.selA : Sat W (Rw 5 1 pA128 _ capA128 _ :: _) _).rwCast (xs' := bvs (frs ((byts rw2).take (k + 1)))) (len' := (frs ((byts rw2).take (k + 1))).length) (by rw [frs_step hget2]; simp) (by rw [frs_step hget2, List.length_append])).subA, by omega⟩, by first | omega | (simp only []; omega)⟩
                   )
                 ·
                  clear hf; intro hc24 a hf
                  obtain rfl : k = rw2.length := by omega
                  rw [byts_all] at hf hS
                  first
                  | (first | exact Bool.noConfusion hc24 | exact absurd rfl hc24; done)
                  | (
                   refine done_l ?_
                   refine t_normal ?_
                   refine c_seq ?_
                   refine c_false hf rfl ?_
                   refine c_exit ?_
                   refine t_exit ?_
                   refine t_exit ?_
                   refine b_exit ?_
                   refine t_normal ?_
                   refine c_seq ?_
                   refine c_region ?_
                   refine step_l (st_rd hf (Wn.none rfl) (rd_move hf rfl rfl) hS rfl rfl ?_)
                   clear hf; intro a hf
                   refine step_l (st_rd hf (Wn.none rfl) (rd_move hf rfl rfl) hS rfl rfl ?_)
                   clear hf; intro a hf
                   refine step_l (st_rd hf (Wn.none rfl) (rd_len hf rfl rfl Try.underlying23) hS rfl rfl ?_)
                   clear hf; intro a hf
                   refine step_l (st_rd hf (Wn.none rfl) (rd_sub hf rfl rfl rfl (by first | exact Go.IntWalk.i64_in _ (by omega) | exact rfl)) hS rfl rfl ?_)
                   clear hf; intro a hf
                   refine step_l (st_rd hf (Wn.none rfl) (rd_sub hf rfl rfl rfl (by first | exact Go.IntWalk.i64_in _ (by omega) | exact rfl)) hS rfl rfl ?_)
                   clear hf; intro a hf
                   refine step_l (st_rd hf (Wn.none rfl) (rd_min hf rfl rfl rfl) hS rfl rfl ?_)
                   clear hf; intro a hf
                   refine step_l (st_rd hf (Wn.none rfl) (rd_assign hf rfl rfl) hS rfl rfl ?_)
                   clear hf; intro a hf
                   refine done_l ?_
                   refine t_normal ?_
                   refine c_seq ?_
                   refine c_seq ?_
                   refine c_region ?_
                   refine step_l (st_rd hf (Wn.none rfl) (rd_move hf rfl rfl) hS rfl rfl ?_)
                   clear hf; intro a hf
                   refine step_l (st_rdB hf (Wn.none rfl) (rd_lss hf rfl rfl rfl) hS rfl rfl ?_ ?_)
                   ·
                    clear hf; intro hc26 a hf
                    first
                    | (first | exact Bool.noConfusion hc26 | exact absurd rfl hc26; done)
                    | (
                     refine done_l ?_
                     refine t_normal ?_
                     refine c_true hf rfl ?_
                     refine c_region ?_
                     refine step_l (st_rd hf (Wn.none rfl) (rd_assign hf rfl rfl) hS rfl rfl ?_)
                     clear hf; intro a hf
                     refine done_l ?_
                     refine t_normal ?_
                     refine c_seq ?_
                     refine any_begin mixed hS.drew ?_
                     replace hS := hS.drew
                     have hT := hS
                     refine any_takeA (i := 0) hf rfl (Wn.none rfl) (rd_move hf rfl rfl) hT rfl rfl ?_
                     clear hf; intro a hf
                     refine any_takeA (i := 3) hf rfl (Wn.none rfl) (rd_move hf rfl rfl) hT rfl rfl ?_
                     clear hf; intro a hf
                     refine any_takeA (i := 4) hf rfl (Wn.none rfl) (rd_str hf rfl rfl Try.underlying23 Try.underlying9 Try.underlying5 (by intro _ h; first | exact h.slOfRw (by repeat (first | exact Sel.head | apply Sel.tail)) | exact h.slOfBlkPre (by repeat (first | exact Sel.head | apply Sel.tail)) (bvs_len1 _) | exact h.slOfRw (by repeat (first | exact Sel.head | apply Sel.tail)))) hT rfl rfl ?_
                     clear hf; intro a hf
                     refine any_one (i := 1) rfl (by kernel_rfl) (st_call hf (Wn.none rfl) rfl rfl rfl fn16 (DBytes_c _ _ (frs (byts rw2)) _ (hS.selA) (by omega)) rfl rfl ?_)
                     clear hf hS; rintro v a w ⟨qb1, capb1, rfl, hS⟩ hf
                     replace hT := hS.sub' hT (by repeat (first | exact Sub.refl | exact Sub.none | exact Sub.behind | (apply Sub.cons; (focus ((repeat (first | exact Sel.head | apply Sel.tail)); done))) | apply Sub.skip))
                     refine ⟨hT, ?_⟩
                     refine any_one (i := 2) rfl (by kernel_rfl) (st_rd hf (Wn.none rfl) (rd_str hf rfl rfl Try.underlying23 Try.underlying9 Try.underlying5 (by intro _ h; first | exact h.slOfRw (by repeat (first | exact Sel.head | apply Sel.tail)) | exact h.slOfBlkPre (by repeat (first | exact Sel.head | apply Sel.tail)) (bvs_len1 _) | exact h.slOfRw (by repeat (first | exact Sel.head | apply Sel.tail)))) hS rfl rfl ?_)
                     clear hf; intro a hf
                     refine ⟨hT, ?_⟩
                     refine any_takeB (i := 5) hf rfl (by kernel_rfl) (by kernel_rfl) (by kernel_rfl) (fun _ _ _ _ h => h) (Wn.none rfl) (rd_neqS hf rfl rfl rfl) hT rfl rfl ?_ ?_
                     ·
                      clear hf; intro hc27 a hf
                      exact absurd rfl hc27
                     ·
                      clear hf; intro hc27 a hf
                      first
                      | (first | exact Bool.noConfusion hc27 | exact absurd rfl hc27; done)
                      | (
                       refine any_takeA (i := 6) hf rfl (Wn.none rfl) (rd_move hf rfl rfl) hT rfl rfl ?_
                       clear hf; intro a hf
                       refine any_takeA (i := 7) hf rfl (Wn.some hf rfl rfl rfl rfl) (rd_move hf rfl rfl) hT rfl rfl ?_
                       clear hf; intro a hf
                       refine any_takeA (i := 9) hf rfl (Wn.some hf rfl rfl rfl rfl) (rd_move hf rfl rfl) hT rfl rfl ?_
                       clear hf; intro a hf
                       refine any_takeA (i := 10) hf rfl (Wn.some hf rfl rfl rfl rfl) (rd_len hf rfl rfl Try.underlying23) hT rfl rfl ?_
                       clear hf; intro a hf
                       refine any_one (i := 8) rfl (by kernel_rfl) (st_call hf (Wn.some hf rfl rfl rfl rfl) rfl rfl rfl fn24 (DSure_c _ _ _ _ (hS.selA)) rfl rfl ?_)
                       clear hf hS; rintro v a w ⟨rfl, hS⟩ hf
                       replace hT := hS.sub' hT (by repeat (first | exact Sub.refl | exact Sub.none | exact Sub.behind | (apply Sub.cons; (focus ((repeat (first | exact Sel.head | apply Sel.tail)); done))) | apply Sub.skip))
                       refine ⟨hT, ?_⟩
                       refine any_takeB (i := 11) hf rfl (by kernel_rfl) (by kernel_rfl) (by kernel_rfl) (fun _ _ _ _ h => h) (Wn.some hf rfl rfl rfl rfl) (rd_neq hf rfl rfl rfl) hT rfl rfl ?_ ?_
                       ·
                        clear hf; intro hc28 a hf
                        exact absurd rfl hc28
                       ·
                        clear hf; intro hc28 a hf
                        first
                        | (first | exact Bool.noConfusion hc28 | exact absurd rfl hc28; done)
                        | (
                         refine any_takeA (i := 12) hf rfl (Wn.none rfl) (rd_pick_f hf rfl rfl rfl) hT rfl rfl ?_
                         clear hf; intro a hf
                         refine any_takeA (i := 13) hf rfl (Wn.none rfl) (rd_move hf rfl rfl) hT rfl rfl ?_
                         clear hf; intro a hf
                         refine any_takeA (i := 14) hf rfl (Wn.some hf rfl rfl rfl rfl) (rd_move hf rfl rfl) hT rfl rfl ?_
                         clear hf; intro a hf
                         refine any_takeA (i := 16) hf rfl (Wn.some hf rfl rfl rfl rfl) (rd_move hf rfl rfl) hT rfl rfl ?_
                         clear hf; intro a hf
                         refine any_takeA (i := 17) hf rfl (Wn.some hf rfl rfl rfl rfl) (rd_len hf rfl rfl Try.underlying22) hT rfl rfl ?_
                         clear hf; intro a hf
                         refine any_one (i := 15) rfl (by kernel_rfl) (st_call hf (Wn.some hf rfl rfl rfl rfl) rfl rfl rfl fn22 (WLen_c _ _ _ _ _ _ (hS.sels (.cons (by repeat (first | exact Sel.head | apply Sel.tail)) (.cons (by repeat (first | exact Sel.head | apply Sel.tail)) .nil)))) rfl rfl ?_)
                         clear hf hS; rintro v a w ⟨rfl, hS⟩ hf
                         replace hT := hS.sub' hT (by repeat (first | exact Sub.refl | exact Sub.none | exact Sub.behind | (apply Sub.cons; (focus ((repeat (first | exact Sel.head | apply Sel.tail)); done))) | apply Sub.skip))
                         refine ⟨hT, ?_⟩
                         refine any_takeB (i := 18) hf rfl (by kernel_rfl) (by kernel_rfl) (by kernel_rfl) (fun _ _ _ _ h => h) (Wn.some hf rfl rfl rfl rfl) (rd_neq hf rfl rfl rfl) hT rfl rfl ?_ ?_
                         ·
                          clear hf; intro hc29 a hf
                          exact absurd rfl hc29
                         ·
                          clear hf; intro hc29 a hf
                          first
                          | (first | exact Bool.noConfusion hc29 | exact absurd rfl hc29; done)
                          | (
                           refine any_takeA (i := 19) hf rfl (Wn.none rfl) (rd_pick_f hf rfl rfl rfl) hT rfl rfl ?_
                           clear hf; intro a hf
                           refine any_takeA (i := 20) hf rfl (Wn.none rfl) (rd_move hf rfl rfl) hT rfl rfl ?_
                           clear hf; intro a hf
                           refine any_takeA (i := 21) hf rfl (Wn.some hf rfl rfl rfl rfl) (rd_move hf rfl rfl) hT rfl rfl ?_
                           clear hf; intro a hf
                           refine any_takeA (i := 23) hf rfl (Wn.some hf rfl rfl rfl rfl) (rd_move hf rfl rfl) hT rfl rfl ?_
                           clear hf; intro a hf
                           refine any_takeA (i := 24) hf rfl (Wn.some hf rfl rfl rfl rfl) (rd_len hf rfl rfl Try.underlying23) hT rfl rfl ?_
                           clear hf; intro a hf
                           refine any_one (i := 22) rfl (by kernel_rfl) (st_call hf (Wn.some hf rfl rfl rfl rfl) rfl rfl rfl fn23 (WSize_c _ _ _ _ _ _ (hS.sels (.cons (by repeat (first | exact Sel.head | apply Sel.tail)) (.cons (by repeat (first | exact Sel.head | apply Sel.tail)) .nil)))) rfl rfl ?_)
                           clear hf hS; rintro v a w ⟨rfl, hS⟩ hf
                           replace hT := hS.sub' hT (by repeat (first | exact Sub.refl | exact Sub.none | exact Sub.behind | (apply Sub.cons; (focus ((repeat (first | exact Sel.head | apply Sel.tail)); done))) | apply Sub.skip))
                           refine ⟨hT, ?_⟩
                           refine any_takeB (i := 25) hf rfl (by kernel_rfl) (by kernel_rfl) (by kernel_rfl) (fun _ _ _ _ h => h) (Wn.some hf rfl rfl rfl rfl) (rd_neq hf rfl rfl rfl) hT rfl rfl ?_ ?_
                           ·
                            clear hf; intro hc30 a hf
                            exact absurd rfl hc30
                           ·
                            clear hf; intro hc30 a hf
                            first
                            | (first | exact Bool.noConfusion hc30 | exact absurd rfl hc30; done)
                            | (
                             refine any_takeA (i := 26) hf rfl (Wn.none rfl) (rd_pick_f hf rfl rfl rfl) hT rfl rfl ?_
                             clear hf; intro a hf
                             refine any_takeA (i := 27) hf rfl (Wn.none rfl) (rd_move hf rfl rfl) hT rfl rfl ?_
                             clear hf; intro a hf
                             refine any_takeA (i := 28) hf rfl (Wn.some hf rfl rfl rfl rfl) (rd_move hf rfl rfl) hT rfl rfl ?_
                             clear hf; intro a hf
                             refine any_takeA (i := 30) hf rfl (Wn.some hf rfl rfl rfl rfl) (rd_move hf rfl rfl) hT rfl rfl ?_
                             clear hf; intro a hf
                             refine any_one (i := 29) rfl (by kernel_rfl) (st_call hf (Wn.some hf rfl rfl rfl rfl) rfl rfl rfl fn25 (WRoom_c _ _ _ _ _ _ (hS.sels (.cons (by repeat (first | exact Sel.head | apply Sel.tail)) (.cons (by repeat (first | exact Sel.head | apply Sel.tail)) .nil))) (by omega) (by omega)) rfl rfl ?_)
                             clear hf hS; rintro v a w ⟨rfl, hS⟩ hf
                             replace hT := hS.sub' hT (by repeat (first | exact Sub.refl | exact Sub.none | exact Sub.behind | (apply Sub.cons; (focus ((repeat (first | exact Sel.head | apply Sel.tail)); done))) | apply Sub.skip))
                             refine ⟨hT, ?_⟩
                             refine any_takeB (i := 31) hf rfl (by kernel_rfl) (by kernel_rfl) (by kernel_rfl) (fun _ _ _ _ h => h) (Wn.some hf rfl rfl rfl rfl) (rd_neq hf rfl rfl rfl) hT rfl rfl ?_ ?_
                             ·
                              clear hf; intro hc31 a hf
                              exact absurd (by omega) hc31
                             ·
                              clear hf; intro hc31 a hf
                              first
                              | (first | exact Bool.noConfusion hc31 | exact absurd rfl hc31; done)
                              | (
                               refine any_takeA (i := 32) hf rfl (Wn.none rfl) (rd_pick_f hf rfl rfl rfl) hT rfl rfl ?_
                               clear hf; intro a hf
                               refine any_done (by kernel_rfl) ?_
                               refine t_normal ?_
                               refine c_false hf rfl ?_
                               refine c_skip ?_
                               refine b_normal ?_
                               refine t_normal ?_
                               refine c_region ?_
                               refine step_l (st_rd hf (Wn.none rfl) (rd_move hf rfl rfl) hS rfl rfl ?_)
                               clear hf; intro a hf
                               refine step_l (st_rd hf (Wn.none rfl) (rd_add hf rfl rfl rfl (by first | exact Go.IntWalk.i64_in _ (by omega) | exact rfl)) hS rfl rfl ?_)
                               clear hf; intro a hf
                               refine step_l (st_rd hf (Wn.none rfl) (rd_assign hf rfl rfl) hS rfl rfl ?_)
                               clear hf; intro a hf
                               refine done_l ?_
                               refine t_normal ⟨(i + 1, rw2, qq2, cc2, gg2), ((((hf.back (by repeat (first | exact Behind.refl | refine Behind.skip rfl ?_)) hk0).kb hf 10 rfl (by first | rfl | exact int_eq (by omega))).kb hf 9 rfl (by first | rfl | exact int_eq (by omega))).kb hf 6 rfl (by first | rfl | exact int_eq (by omega))), ⟨hS.subA, ⟨by omega, hfb2, hrv2, hbg2⟩⟩, by first | omega | (simp only []; omega)⟩
                               )
                             )
                           )
                         )
                       )
                     )
                   ·
                    clear hf; intro hc26 a hf
                    first
                    | (first | exact Bool.noConfusion hc26 | exact absurd rfl hc26; done)
                    | (
                     refine done_l ?_
                     refine t_normal ?_
                     refine c_false hf rfl ?_
                     refine c_skip ?_
                     refine t_normal ?_
                     refine c_seq ?_
                     refine any_begin mixed hS.drew ?_
                     replace hS := hS.drew
                     have hT := hS
                     refine any_takeA (i := 0) hf rfl (Wn.none rfl) (rd_move hf rfl rfl) hT rfl rfl ?_
                     clear hf; intro a hf
                     refine any_takeA (i := 3) hf rfl (Wn.none rfl) (rd_move hf rfl rfl) hT rfl rfl ?_
                     clear hf; intro a hf
                     refine any_takeA (i := 4) hf rfl (Wn.none rfl) (rd_str hf rfl rfl Try.underlying23 Try.underlying9 Try.underlying5 (by intro _ h; first | exact h.slOfRw (by repeat (first | exact Sel.head | apply Sel.tail)) | exact h.slOfBlkPre (by repeat (first | exact Sel.head | apply Sel.tail)) (bvs_len1 _) | exact h.slOfRw (by repeat (first | exact Sel.head | apply Sel.tail)))) hT rfl rfl ?_
                     clear hf; intro a hf
                     refine any_one (i := 1) rfl (by kernel_rfl) (st_call hf (Wn.none rfl) rfl rfl rfl fn16 (DBytes_c _ _ (frs (byts rw2)) _ (hS.selA) (by omega)) rfl rfl ?_)
                     clear hf hS; rintro v a w ⟨qb1, capb1, rfl, hS⟩ hf
                     replace hT := hS.sub' hT (by repeat (first | exact Sub.refl | exact Sub.none | exact Sub.behind | (apply Sub.cons; (focus ((repeat (first | exact Sel.head | apply Sel.tail)); done))) | apply Sub.skip))
                     refine ⟨hT, ?_⟩
                     refine any_one (i := 2) rfl (by kernel_rfl) (st_rd hf (Wn.none rfl) (rd_str hf rfl rfl Try.underlying23 Try.underlying9 Try.underlying5 (by intro _ h; first | exact h.slOfRw (by repeat (first | exact Sel.head | apply Sel.tail)) | exact h.slOfBlkPre (by repeat (first | exact Sel.head | apply Sel.tail)) (bvs_len1 _) | exact h.slOfRw (by repeat (first | exact Sel.head | apply Sel.tail)))) hS rfl rfl ?_)
                     clear hf; intro a hf
                     refine ⟨hT, ?_⟩
                     refine any_takeB (i := 5) hf rfl (by kernel_rfl) (by kernel_rfl) (by kernel_rfl) (fun _ _ _ _ h => h) (Wn.none rfl) (rd_neqS hf rfl rfl rfl) hT rfl rfl ?_ ?_
                     ·
                      clear hf; intro hc32 a hf
                      exact absurd rfl hc32
                     ·
                      clear hf; intro hc32 a hf
                      first
                      | (first | exact Bool.noConfusion hc32 | exact absurd rfl hc32; done)
                      | (
                       refine any_takeA (i := 6) hf rfl (Wn.none rfl) (rd_move hf rfl rfl) hT rfl rfl ?_
                       clear hf; intro a hf
                       refine any_takeA (i := 7) hf rfl (Wn.some hf rfl rfl rfl rfl) (rd_move hf rfl rfl) hT rfl rfl ?_
                       clear hf; intro a hf
                       refine any_takeA (i := 9) hf rfl (Wn.some hf rfl rfl rfl rfl) (rd_move hf rfl rfl) hT rfl rfl ?_
                       clear hf; intro a hf
                       refine any_takeA (i := 10) hf rfl (Wn.some hf rfl rfl rfl rfl) (rd_len hf rfl rfl Try.underlying23) hT rfl rfl ?_
                       clear hf; intro a hf
                       refine any_one (i := 8) rfl (by kernel_rfl) (st_call hf (Wn.some hf rfl rfl rfl rfl) rfl rfl rfl fn24 (DSure_c _ _ _ _ (hS.selA)) rfl rfl ?_)
                       clear hf hS; rintro v a w ⟨rfl, hS⟩ hf
                       replace hT := hS.sub' hT (by repeat (first | exact Sub.refl | exact Sub.none | exact Sub.behind | (apply Sub.cons; (focus ((repeat (first | exact Sel.head | apply Sel.tail)); done))) | apply Sub.skip))
                       refine ⟨hT, ?_⟩
                       refine any_takeB (i := 11) hf rfl (by kernel_rfl) (by kernel_rfl) (by kernel_rfl) (fun _ _ _ _ h => h) (Wn.some hf rfl rfl rfl rfl) (rd_neq hf rfl rfl rfl) hT rfl rfl ?_ ?_
                       ·
                        clear hf; intro hc33 a hf
                        exact absurd rfl hc33
                       ·
                        clear hf; intro hc33 a hf
                        first
                        | (first | exact Bool.noConfusion hc33 | exact absurd rfl hc33; done)
                        | (
                         refine any_takeA (i := 12) hf rfl (Wn.none rfl) (rd_pick_f hf rfl rfl rfl) hT rfl rfl ?_
                         clear hf; intro a hf
                         refine any_takeA (i := 13) hf rfl (Wn.none rfl) (rd_move hf rfl rfl) hT rfl rfl ?_
                         clear hf; intro a hf
                         refine any_takeA (i := 14) hf rfl (Wn.some hf rfl rfl rfl rfl) (rd_move hf rfl rfl) hT rfl rfl ?_
                         clear hf; intro a hf
                         refine any_takeA (i := 16) hf rfl (Wn.some hf rfl rfl rfl rfl) (rd_move hf rfl rfl) hT rfl rfl ?_
                         clear hf; intro a hf
                         refine any_takeA (i := 17) hf rfl (Wn.some hf rfl rfl rfl rfl) (rd_len hf rfl rfl Try.underlying22) hT rfl rfl ?_
                         clear hf; intro a hf
                         refine any_one (i := 15) rfl (by kernel_rfl) (st_call hf (Wn.some hf rfl rfl rfl rfl) rfl rfl rfl fn22 (WLen_c _ _ _ _ _ _ (hS.sels (.cons (by repeat (first | exact Sel.head | apply Sel.tail)) (.cons (by repeat (first | exact Sel.head | apply Sel.tail)) .nil)))) rfl rfl ?_)
                         clear hf hS; rintro v a w ⟨rfl, hS⟩ hf
                         replace hT := hS.sub' hT (by repeat (first | exact Sub.refl | exact Sub.none | exact Sub.behind | (apply Sub.cons; (focus ((repeat (first | exact Sel.head | apply Sel.tail)); done))) | apply Sub.skip))
                         refine ⟨hT, ?_⟩
                         refine any_takeB (i := 18) hf rfl (by kernel_rfl) (by kernel_rfl) (by kernel_rfl) (fun _ _ _ _ h => h) (Wn.some hf rfl rfl rfl rfl) (rd_neq hf rfl rfl rfl) hT rfl rfl ?_ ?_
                         ·
                          clear hf; intro hc34 a hf
                          exact absurd rfl hc34
                         ·
                          clear hf; intro hc34 a hf
                          first
                          | (first | exact Bool.noConfusion hc34 | exact absurd rfl hc34; done)
                          | (
                           refine any_takeA (i := 19) hf rfl (Wn.none rfl) (rd_pick_f hf rfl rfl rfl) hT rfl rfl ?_
                           clear hf; intro a hf
                           refine any_takeA (i := 20) hf rfl (Wn.none rfl) (rd_move hf rfl rfl) hT rfl rfl ?_
                           clear hf; intro a hf
                           refine any_takeA (i := 21) hf rfl (Wn.some hf rfl rfl rfl rfl) (rd_move hf rfl rfl) hT rfl rfl ?_
                           clear hf; intro a hf
                           refine any_takeA (i := 23) hf rfl (Wn.some hf rfl rfl rfl rfl) (rd_move hf rfl rfl) hT rfl rfl ?_
                           clear hf; intro a hf
                           refine any_takeA (i := 24) hf rfl (Wn.some hf rfl rfl rfl rfl) (rd_len hf rfl rfl Try.underlying23) hT rfl rfl ?_
                           clear hf; intro a hf
                           refine any_one (i := 22) rfl (by kernel_rfl) (st_call hf (Wn.some hf rfl rfl rfl rfl) rfl rfl rfl fn23 (WSize_c _ _ _ _ _ _ (hS.sels (.cons (by repeat (first | exact Sel.head | apply Sel.tail)) (.cons (by repeat (first | exact Sel.head | apply Sel.tail)) .nil)))) rfl rfl ?_)
                           clear hf hS; rintro v a w ⟨rfl, hS⟩ hf
                           replace hT := hS.sub' hT (by repeat (first | exact Sub.refl | exact Sub.none | exact Sub.behind | (apply Sub.cons; (focus ((repeat (first | exact Sel.head | apply Sel.tail)); done))) | apply Sub.skip))
                           refine ⟨hT, ?_⟩
                           refine any_takeB (i := 25) hf rfl (by kernel_rfl) (by kernel_rfl) (by kernel_rfl) (fun _ _ _ _ h => h) (Wn.some hf rfl rfl rfl rfl) (rd_neq hf rfl rfl rfl) hT rfl rfl ?_ ?_
                           ·
                            clear hf; intro hc35 a hf
                            exact absurd rfl hc35
                           ·
                            clear hf; intro hc35 a hf
                            first
                            | (first | exact Bool.noConfusion hc35 | exact absurd rfl hc35; done)
                            | (
                             refine any_takeA (i := 26) hf rfl (Wn.none rfl) (rd_pick_f hf rfl rfl rfl) hT rfl rfl ?_
                             clear hf; intro a hf
                             refine any_takeA (i := 27) hf rfl (Wn.none rfl) (rd_move hf rfl rfl) hT rfl rfl ?_
                             clear hf; intro a hf
                             refine any_takeA (i := 28) hf rfl (Wn.some hf rfl rfl rfl rfl) (rd_move hf rfl rfl) hT rfl rfl ?_
                             clear hf; intro a hf
                             refine any_takeA (i := 30) hf rfl (Wn.some hf rfl rfl rfl rfl) (rd_move hf rfl rfl) hT rfl rfl ?_
                             clear hf; intro a hf
                             refine any_one (i := 29) rfl (by kernel_rfl) (st_call hf (Wn.some hf rfl rfl rfl rfl) rfl rfl rfl fn25 (WRoom_c _ _ _ _ _ _ (hS.sels (.cons (by repeat (first | exact Sel.head | apply Sel.tail)) (.cons (by repeat (first | exact Sel.head | apply Sel.tail)) .nil))) (by omega) (by omega)) rfl rfl ?_)
                             clear hf hS; rintro v a w ⟨rfl, hS⟩ hf
                             replace hT := hS.sub' hT (by repeat (first | exact Sub.refl | exact Sub.none | exact Sub.behind | (apply Sub.cons; (focus ((repeat (first | exact Sel.head | apply Sel.tail)); done))) | apply Sub.skip))
                             refine ⟨hT, ?_⟩
                             refine any_takeB (i := 31) hf rfl (by kernel_rfl) (by kernel_rfl) (by kernel_rfl) (fun _ _ _ _ h => h) (Wn.some hf rfl rfl rfl rfl) (rd_neq hf rfl rfl rfl) hT rfl rfl ?_ ?_
                             ·
                              clear hf; intro hc36 a hf
                              exact absurd (by omega) hc36
                             ·
                              clear hf; intro hc36 a hf
                              first
                              | (first | exact Bool.noConfusion hc36 | exact absurd rfl hc36; done)
                              | (
                               refine any_takeA (i := 32) hf rfl (Wn.none rfl) (rd_pick_f hf rfl rfl rfl) hT rfl rfl ?_
                               clear hf; intro a hf
                               refine any_done (by kernel_rfl) ?_
                               refine t_normal ?_
                               refine c_false hf rfl ?_
                               refine c_skip ?_
                               refine b_normal ?_
                               refine t_normal ?_
                               refine c_region ?_
                               refine step_l (st_rd hf (Wn.none rfl) (rd_move hf rfl rfl) hS rfl rfl ?_)
                               clear hf; intro a hf
                               refine step_l (st_rd hf (Wn.none rfl) (rd_add hf rfl rfl rfl (by first | exact Go.IntWalk.i64_in _ (by omega) | exact rfl)) hS rfl rfl ?_)
                               clear hf; intro a hf
                               refine step_l (st_rd hf (Wn.none rfl) (rd_assign hf rfl rfl) hS rfl rfl ?_)
                               clear hf; intro a hf
                               refine done_l ?_
                               refine t_normal ⟨(i + 1, rw2, qq2, cc2, gg2), ((((hf.back (by repeat (first | exact Behind.refl | refine Behind.skip rfl ?_)) hk0).kb hf 10 rfl (by first | rfl | exact int_eq (by omega))).kb hf 9 rfl (by first | rfl | exact int_eq (by omega))).kb hf 6 rfl (by first | rfl | exact int_eq (by omega))), ⟨hS.subA, ⟨by omega, hfb2, hrv2, hbg2⟩⟩, by first | omega | (simp only []; omega)⟩
                               )
                             )
                           )
                         )
                       )
                     )
                   )
                 )
               )
             ·
              clear hf; intro hc22 a hf
              have hAE : aE ((m : Nat) : Int) (frs (byts rows)) x.2.1.2.2 = 0 := a_fit (by omega) (by omega); obtain ⟨a1, a2, a3⟩ := a_yes (n := rows.length) (s := (frs (byts rows)).length) hAE; have hfs : (frs (byts rows)) ++ frB x.2.1.2.2 = frs (byts (rows ++ [x.2.1])) := by rw [byts_snoc, frs_snoc]
              have e1 := a1.trans hfs; have e2 := a2.trans (show rows.length + 1 = (rows ++ [x.2.1]).length by simp); have e3 := a3.trans (congrArg List.length hfs)
              first
              | (first | exact Bool.noConfusion hc22 | exact absurd rfl hc22; done)
              | (
               refine any_takeA (i := 9) hf rfl (Wn.none rfl) (rd_assign hf rfl rfl) hT rfl rfl ?_
               clear hf; intro a hf
               refine any_done (by kernel_rfl) ?_
               refine t_normal ?_
               refine c_false hf rfl ?_
               refine any_begin mixed hS.drew ?_
               replace hS := hS.drew
               have hT := hS
               refine any_takeA (i := 0) hf rfl (Wn.none rfl) (rd_move hf rfl rfl) hT rfl rfl ?_
               clear hf; intro a hf
               refine any_takeA (i := 2) hf rfl (Wn.none rfl) (rd_fieldAddrB hf rfl rfl fb53_1 rfl) hT rfl rfl ?_
               clear hf; intro a hf
               refine any_takeA (i := 3) hf rfl (Wn.none rfl) (rd_load1 hf rfl rfl ag23 (by intro _ h; first | exact h.cell (by repeat (first | exact Sel.head | apply Sel.tail)) (by rfl))) hT rfl rfl ?_
               clear hf; intro a hf
               refine any_two (i := 1) (j := 4) rfl rfl (by kernel_rfl) ?_ ?_
               ·
                skip
                replace hS := hS.rwNil 23 1
                refine st_append hf (Wn.none rfl) rfl rfl rfl Try.underlying22 tyb23 (by rfl) (by decide) hS (by repeat (first | exact Sel.head | apply Sel.tail)) (by first | exact hS.slOfBlk (by repeat (first | exact Sel.head | apply Sel.tail)) (by rfl) | exact hS.slOfBlkPre (by repeat (first | exact Sel.head | apply Sel.tail)) (bvs_len1 _) | exact hS.slOfRw (by repeat (first | exact Sel.head | apply Sel.tail)) | exact SlAt.nil _ _ _) (by first | rfl | exact bvs_one _ | (simp [Value.oneCell']; done) | exact svs_one _) (by omega) rfl rfl ?_
                clear hf hS; intro pA78 capA78 a w hf hS hnilA
                replace hT := hS.sub' hT (by repeat (first | exact Sub.refl | exact Sub.none | exact Sub.behind | (apply Sub.cons; (focus ((repeat (first | exact Sel.head | apply Sel.tail)); done))) | apply Sub.skip))
                refine ⟨hT, ?_⟩
                refine any_one (i := 4) rfl (by kernel_rfl) (st_buildSlice hf (Wn.none rfl) hS rfl rfl Try.underlying22 sz23 zr23 (by decide) bz23_1 rfl (.cons rfl (by first | rfl) (by rfl) (by repeat (first | exact Put.nil | apply Put.cons | apply Put.succ)) .nil) rfl rfl ?_)
                clear hf hS; intro b_38 a w hf hS
                replace hT := hS.sub' hT (by repeat (first | exact Sub.refl | exact Sub.none | exact Sub.behind | (apply Sub.cons; (focus ((repeat (first | exact Sel.head | apply Sel.tail)); done))) | apply Sub.skip))
                refine ⟨hT, ?_⟩
                refine any_one (i := 5) rfl (by kernel_rfl) (st_append hf (Wn.none rfl) rfl rfl rfl Try.underlying22 tyb23 (by rfl) (by decide) hS (by repeat (first | exact Sel.head | apply Sel.tail)) (by first | exact hS.slOfBlk (by repeat (first | exact Sel.head | apply Sel.tail)) (by rfl) | exact hS.slOfBlkPre (by repeat (first | exact Sel.head | apply Sel.tail)) (bvs_len1 _) | exact hS.slOfRw (by repeat (first | exact Sel.head | apply Sel.tail)) | exact SlAt.nil _ _ _) (by first | rfl | exact bvs_one _ | (simp [Value.oneCell']; done) | exact svs_one _) (by omega) rfl rfl ?_)
                clear hf hS; intro pA82 capA82 a w hf hS hnilA
                replace hT := hS.sub' hT (by repeat (first | exact Sub.refl | exact Sub.none | exact Sub.behind | (apply Sub.cons; (focus ((repeat (first | exact Sel.head | apply Sel.tail)); done))) | apply Sub.skip))
                refine ⟨hT, ?_⟩
                refine any_takeA (i := 6) hf rfl (Wn.none rfl) (rd_assign hf rfl rfl) hT rfl rfl ?_
                clear hf; intro a hf
                refine any_done (by kernel_rfl) ?_
                replace hS := (hS.selA : Sat W (Rw 23 1 pA82 _ capA82 _ :: _) _).rwCast (xs' := (rows ++ [x.2.1]).map sval) (len' := (rows ++ [x.2.1]).length) (by simp) (by simp)
                replace hf := hf.kb hf 9 rfl (slice_eq (n' := (rows ++ [x.2.1]).length) (by simp))
                refine b_normal ?_
                refine t_normal ?_
                refine c_seq ?_
                refine c_region ?_
                refine step_l (st_rd hf (Wn.none rfl) (rd_move hf rfl rfl) hS rfl rfl ?_)
                clear hf; intro a hf
                refine step_l (st_rd hf (Wn.none rfl) (rd_fieldAddrB hf rfl rfl fb53_1 rfl) hS rfl rfl ?_)
                clear hf; intro a hf
                refine step_l (st_rd hf (Wn.none rfl) (rd_load1 hf rfl rfl ag23 (by intro _ h; first | exact h.cell (by repeat (first | exact Sel.head | apply Sel.tail)) (by rfl))) hS rfl rfl ?_)
                clear hf; intro a hf
                refine step_l (st_call hf (Wn.none rfl) rfl rfl rfl fn14 (WAppend_c _ _ _ _ _ _ x.2.1.2.2 _ _ _ (hS.sels (.cons (by repeat (first | exact Sel.head | apply Sel.tail)) (.cons (by repeat (first | exact Sel.head | apply Sel.tail)) .nil))) (by omega) (by omega) (by omega) rfl (fun _ h => hx2 _ (h.subA))) rfl rfl ?_)
                clear hf hS; rintro v a w ⟨rfl, hS⟩ hf; rw [hAE] at hf; rw [e1, e2, e3] at hS
                refine step_l (st_rd hf (Wn.none rfl) (rd_move hf rfl rfl) hS rfl rfl ?_)
                clear hf; intro a hf
                refine step_l (st_rdB hf (Wn.none rfl) (rd_neq hf rfl rfl rfl) hS rfl rfl ?_ ?_)
                ·
                 clear hf; intro hc40 a hf
                 exact absurd rfl hc40
                ·
                 clear hf; intro hc40 a hf
                 first
                 | (first | exact Bool.noConfusion hc40 | exact absurd rfl hc40; done)
                 | (
                  refine done_l ?_
                  refine t_normal ?_
                  refine c_false hf rfl ?_
                  refine c_skip ?_
                  refine b_normal ?_
                  refine t_normal ?_
                  refine c_seq ?_
                  obtain ⟨rw2, hrw⟩ : ∃ z : List (Sli UInt8), z = (rows ++ [x.2.1]) := ⟨_, rfl⟩
                  rw [← hrw] at hf hS
                  have hfb2 : (frs (byts rw2)).length ≤ m := by rw [hrw]; rw [← hfs, List.length_append, frB_len]; omega
                  have hrv2 : ∀ w, Sat W R w → ∀ y ∈ rw2, SlAt w y.1 y.2.2.length 1 (bvs y.2.2) := by rw [hrw]; exact fun w h y hy => (List.mem_append.1 hy).elim (hrv w h y) (fun h2 => by rw [List.mem_singleton.1 h2]; exact hx2 w h)
                  have hbg2 : ∀ z ∈ byts rw2, z.length ≤ 60000 := by rw [hrw]; rw [byts_snoc]; exact fun z hz => (List.mem_append.1 hz).elim (hbg z) (fun h2 => by rw [List.mem_singleton.1 h2]; omega)
                  obtain ⟨qq2, hqq⟩ : ∃ z, z = pA82 := ⟨_, rfl⟩; obtain ⟨cc2, hcc⟩ : ∃ z, z = capA82 := ⟨_, rfl⟩; obtain ⟨gg2, hgg⟩ : ∃ z, z = g := ⟨_, rfl⟩; rw [← hqq, ← hcc, ← hgg] at hf hS; have hrl2 := frs_ge (byts rw2); rw [byts_len] at hrl2
                  refine c_region ?_
                  refine step_l (st_rd hf (Wn.none rfl) (rd_assign hf rfl rfl) hS rfl rfl ?_)
                  clear hf; intro a hf
                  refine done_l ?_
                  refine t_normal ?_
                  refine c_seq ?_
                  refine c_seq ?_
                  refine c_region ?_
                  refine step_l (st_rd hf (Wn.none rfl) (rd_move hf rfl rfl) hS rfl rfl ?_)
                  clear hf; intro a hf
                  refine step_l (st_rd hf (Wn.none rfl) (rd_len hf rfl rfl Try.underlying22) hS rfl rfl ?_)
                  clear hf; intro a hf
                  refine step_l (st_rd hf (Wn.none rfl) (rd_move hf rfl rfl) hS rfl rfl ?_)
                  clear hf; intro a hf
                  refine done_l ?_
                  refine t_normal ?_
                  refine c_block ?_
                  have hk3 := Keep.of hf [(18, 18), (20, 20), (121, 129)] (by repeat (first | exact Keep.nil | apply Keep.drop rfl | apply Keep.take rfl))
                  refine c_loopK hk3 (α := Nat × Option Addr × Nat) (fun ⟨k, q, cap⟩ => [(18, .slice q (frs ((byts rw2).take k)).length cap), (121, .int .i64 (k : Nat))]) (fun ⟨k, q, cap⟩ w => Sat W (Rw 5 1 q (frs ((byts rw2).take k)).length cap (bvs (frs ((byts rw2).take k))) :: Rw 23 1 qq2 rw2.length cc2 (rw2.map sval) :: Blk gg2 [.pointer (some ⟨pd, 0, none⟩), .int .i64 (rw2.length : Nat)] 59 :: DkP 5 56 pd ((m : Nat) : Int) (frs (byts rw2)) (frs (byts rw2)).length :: R) w ∧ k ≤ rw2.length) (fun ⟨k, q, cap⟩ => rw2.length - k) (0, none, 0) (((hf.keep hk3).kb hf 121 rfl (by first | rfl | exact int_eq (by omega))).kb hf 18 rfl (by first | rfl | exact int_eq (by omega))) ⟨(hS.rwNil 5 1).subA, by omega⟩ ?_
                  clear hf hS; rintro ⟨k, q, cap⟩ a w hf ⟨hS, hkr⟩; (try dsimp only [List.cons_append, List.nil_append] at hf)
                  refine c_seq ?_
                  refine c_region ?_
                  refine step_l (st_rdB hf (Wn.none rfl) (rd_lss hf rfl rfl rfl) hS rfl rfl ?_ ?_)
                  ·
                   clear hf; intro hc41 a hf
                   obtain ⟨y, hget2⟩ := get_of_lt (l := rw2) (k := k) (by omega) rfl; obtain ⟨ad2, rfl⟩ := (hS.slOfRw (xs := rw2.map sval) (by repeat (first | exact Sel.head | apply Sel.tail))).some (by omega); have hfk := frs_le (byts rw2) (k + 1); have hfs2 := congrArg List.length (frs_step hget2); rw [List.length_append, frB_len] at hfs2
                   first
                   | (first | exact Bool.noConfusion hc41 | exact absurd rfl hc41; done)
                   | (
                    refine done_l ?_
                    refine t_normal ?_
                    refine c_seq ?_
                    refine c_true hf rfl ?_
                    refine c_skip ?_
                    refine t_normal ?_
                    refine c_seq ?_
                    refine c_block ?_
                    refine c_seq ?_
                    refine c_region ?_
                    refine step_l (st_rd hf (Wn.none rfl) ((by first | exact rd_indexAddrN1 hf rfl rfl rfl Try.underlying22 sz23 (by omega) | exact rd_indexAddr hf rfl rfl rfl Try.underlying22 sz23 (by first | decide | omega) (by omega))) hS rfl rfl ?_)
                    clear hf; intro a hf
                    refine step_l (st_rd hf (Wn.none rfl) (rd_load1 hf rfl rfl ag23 (by intro _ h; exact (h.slOfRw (xs := rw2.map sval) (by repeat (first | exact Sel.head | apply Sel.tail))).get (u := sval y) (by simp [hget2]))) hS rfl rfl ?_)
                    clear hf; intro a hf
                    refine step_l (st_rd hf (Wn.none rfl) (rd_assign hf rfl rfl) hS rfl rfl ?_)
                    clear hf; intro a hf
                    refine done_l ?_
                    refine t_normal ?_
                    refine c_region ?_
                    refine step_l (st_rd hf (Wn.none rfl) (rd_move hf rfl rfl) hS rfl rfl ?_)
                    clear hf; intro a hf
                    refine step_l (st_rd hf (Wn.none rfl) (rd_move hf rfl rfl) hS rfl rfl ?_)
                    clear hf; intro a hf
                    refine step_l (st_call hf (Wn.none rfl) rfl rfl rfl fn18 (RFrame_c y.2.2 _ _ _ hS rfl (by have := hbg2 _ (List.mem_of_getElem? (byts_get hget2)); omega) (fun _ h => hrv2 _ (h.subA) y (List.mem_of_getElem? hget2))) rfl rfl ?_)
                    clear hf hS; rintro v a w ⟨qf, capf, rfl, hS⟩ hf; have hfl := frB_len y.2.2
                    refine step_l (st_append hf (Wn.none rfl) rfl rfl rfl Try.underlying23 tyb5 (by rfl) (by decide) hS (by repeat (first | exact Sel.head | apply Sel.tail)) (by first | exact hS.slOfBlk (by repeat (first | exact Sel.head | apply Sel.tail)) (by rfl) | exact hS.slOfBlkPre (by repeat (first | exact Sel.head | apply Sel.tail)) (bvs_len1 _) | exact hS.slOfRw (by repeat (first | exact Sel.head | apply Sel.tail)) | exact SlAt.nil _ _ _) (by first | rfl | exact bvs_one _ | (simp [Value.oneCell']; done) | exact svs_one _) (by omega) rfl rfl ?_)
                    clear hf hS; intro pA128 capA128 a w hf hS hnilA
                    refine step_l (st_rd hf (Wn.none rfl) (rd_assign hf rfl rfl) hS rfl rfl ?_)
                    clear hf; intro a hf
                    refine done_l ?_
                    refine b_normal ?_
                    refine t_normal ?_
                    refine c_region ?_
                    refine step_l (st_rd hf (Wn.none rfl) (rd_add hf rfl rfl rfl (by first | exact Go.IntWalk.i64_in _ (by omega) | exact rfl)) hS rfl rfl ?_)
                    clear hf; intro a hf
                    refine step_l (st_rd hf (Wn.none rfl) (rd_move hf rfl rfl) hS rfl rfl ?_)
                    clear hf; intro a hf
                    refine done_l ?_
                    refine t_normal ⟨(k + 1, pA128, capA128), (((hf.back (by repeat (first | exact Behind.refl | refine Behind.skip rfl ?_)) hk3).kb hf 121 rfl (by first | rfl | exact int_eq (by omega))).kb hf 18 rfl (by exact slice_eq (by rw [frs_step hget2, List.length_append]))), ⟨((hS.selA : Sat W (Rw 5 1 pA128 _ capA128 _ :: _) _).rwCast (xs' := bvs (frs ((byts rw2).take (k + 1)))) (len' := (frs ((byts rw2).take (k + 1))).length) (by rw [frs_step hget2]; simp) (by rw [frs_step hget2, List.length_append])).subA, by omega⟩, by first | omega | (simp only []; omega)⟩
                    )
                  ·
                   clear hf; intro hc41 a hf
                   obtain rfl : k = rw2.length := by omega
                   rw [byts_all] at hf hS
                   first
                   | (first | exact Bool.noConfusion hc41 | exact absurd rfl hc41; done)
                   | (
                    refine done_l ?_
                    refine t_normal ?_
                    refine c_seq ?_
                    refine c_false hf rfl ?_
                    refine c_exit ?_
                    refine t_exit ?_
                    refine t_exit ?_
                    refine b_exit ?_
                    refine t_normal ?_
                    refine c_seq ?_
                    refine c_region ?_
                    refine step_l (st_rd hf (Wn.none rfl) (rd_move hf rfl rfl) hS rfl rfl ?_)
                    clear hf; intro a hf
                    refine step_l (st_rd hf (Wn.none rfl) (rd_move hf rfl rfl) hS rfl rfl ?_)
                    clear hf; intro a hf
                    refine step_l (st_rd hf (Wn.none rfl) (rd_len hf rfl rfl Try.underlying23) hS rfl rfl ?_)
                    clear hf; intro a hf
                    refine step_l (st_rd hf (Wn.none rfl) (rd_sub hf rfl rfl rfl (by first | exact Go.IntWalk.i64_in _ (by omega) | exact rfl)) hS rfl rfl ?_)
                    clear hf; intro a hf
                    refine step_l (st_rd hf (Wn.none rfl) (rd_sub hf rfl rfl rfl (by first | exact Go.IntWalk.i64_in _ (by omega) | exact rfl)) hS rfl rfl ?_)
                    clear hf; intro a hf
                    refine step_l (st_rd hf (Wn.none rfl) (rd_min hf rfl rfl rfl) hS rfl rfl ?_)
                    clear hf; intro a hf
                    refine step_l (st_rd hf (Wn.none rfl) (rd_assign hf rfl rfl) hS rfl rfl ?_)
                    clear hf; intro a hf
                    refine done_l ?_
                    refine t_normal ?_
                    refine c_seq ?_
                    refine c_seq ?_
                    refine c_region ?_
                    refine step_l (st_rd hf (Wn.none rfl) (rd_move hf rfl rfl) hS rfl rfl ?_)
                    clear hf; intro a hf
                    refine step_l (st_rdB hf (Wn.none rfl) (rd_lss hf rfl rfl rfl) hS rfl rfl ?_ ?_)
                    ·
                     clear hf; intro hc43 a hf
                     first
                     | (first | exact Bool.noConfusion hc43 | exact absurd rfl hc43; done)
                     | (
                      refine done_l ?_
                      refine t_normal ?_
                      refine c_true hf rfl ?_
                      refine c_region ?_
                      refine step_l (st_rd hf (Wn.none rfl) (rd_assign hf rfl rfl) hS rfl rfl ?_)
                      clear hf; intro a hf
                      refine done_l ?_
                      refine t_normal ?_
                      refine c_seq ?_
                      refine any_begin mixed hS.drew ?_
                      replace hS := hS.drew
                      have hT := hS
                      refine any_takeA (i := 0) hf rfl (Wn.none rfl) (rd_move hf rfl rfl) hT rfl rfl ?_
                      clear hf; intro a hf
                      refine any_takeA (i := 3) hf rfl (Wn.none rfl) (rd_move hf rfl rfl) hT rfl rfl ?_
                      clear hf; intro a hf
                      refine any_takeA (i := 4) hf rfl (Wn.none rfl) (rd_str hf rfl rfl Try.underlying23 Try.underlying9 Try.underlying5 (by intro _ h; first | exact h.slOfRw (by repeat (first | exact Sel.head | apply Sel.tail)) | exact h.slOfBlkPre (by repeat (first | exact Sel.head | apply Sel.tail)) (bvs_len1 _) | exact h.slOfRw (by repeat (first | exact Sel.head | apply Sel.tail)))) hT rfl rfl ?_
                      clear hf; intro a hf
                      refine any_one (i := 1) rfl (by kernel_rfl) (st_call hf (Wn.none rfl) rfl rfl rfl fn16 (DBytes_c _ _ (frs (byts rw2)) _ (hS.selA) (by omega)) rfl rfl ?_)
                      clear hf hS; rintro v a w ⟨qb1, capb1, rfl, hS⟩ hf
                      replace hT := hS.sub' hT (by repeat (first | exact Sub.refl | exact Sub.none | exact Sub.behind | (apply Sub.cons; (focus ((repeat (first | exact Sel.head | apply Sel.tail)); done))) | apply Sub.skip))
                      refine ⟨hT, ?_⟩
                      refine any_one (i := 2) rfl (by kernel_rfl) (st_rd hf (Wn.none rfl) (rd_str hf rfl rfl Try.underlying23 Try.underlying9 Try.underlying5 (by intro _ h; first | exact h.slOfRw (by repeat (first | exact Sel.head | apply Sel.tail)) | exact h.slOfBlkPre (by repeat (first | exact Sel.head | apply Sel.tail)) (bvs_len1 _) | exact h.slOfRw (by repeat (first | exact Sel.head | apply Sel.tail)))) hS rfl rfl ?_)
                      clear hf; intro a hf
                      refine ⟨hT, ?_⟩
                      refine any_takeB (i := 5) hf rfl (by kernel_rfl) (by kernel_rfl) (by kernel_rfl) (fun _ _ _ _ h => h) (Wn.none rfl) (rd_neqS hf rfl rfl rfl) hT rfl rfl ?_ ?_
                      ·
                       clear hf; intro hc44 a hf
                       exact absurd rfl hc44
                      ·
                       clear hf; intro hc44 a hf
                       first
                       | (first | exact Bool.noConfusion hc44 | exact absurd rfl hc44; done)
                       | (
                        refine any_takeA (i := 6) hf rfl (Wn.none rfl) (rd_move hf rfl rfl) hT rfl rfl ?_
                        clear hf; intro a hf
                        refine any_takeA (i := 7) hf rfl (Wn.some hf rfl rfl rfl rfl) (rd_move hf rfl rfl) hT rfl rfl ?_
                        clear hf; intro a hf
                        refine any_takeA (i := 9) hf rfl (Wn.some hf rfl rfl rfl rfl) (rd_move hf rfl rfl) hT rfl rfl ?_
                        clear hf; intro a hf
                        refine any_takeA (i := 10) hf rfl (Wn.some hf rfl rfl rfl rfl) (rd_len hf rfl rfl Try.underlying23) hT rfl rfl ?_
                        clear hf; intro a hf
                        refine any_one (i := 8) rfl (by kernel_rfl) (st_call hf (Wn.some hf rfl rfl rfl rfl) rfl rfl rfl fn24 (DSure_c _ _ _ _ (hS.selA)) rfl rfl ?_)
                        clear hf hS; rintro v a w ⟨rfl, hS⟩ hf
                        replace hT := hS.sub' hT (by repeat (first | exact Sub.refl | exact Sub.none | exact Sub.behind | (apply Sub.cons; (focus ((repeat (first | exact Sel.head | apply Sel.tail)); done))) | apply Sub.skip))
                        refine ⟨hT, ?_⟩
                        refine any_takeB (i := 11) hf rfl (by kernel_rfl) (by kernel_rfl) (by kernel_rfl) (fun _ _ _ _ h => h) (Wn.some hf rfl rfl rfl rfl) (rd_neq hf rfl rfl rfl) hT rfl rfl ?_ ?_
                        ·
                         clear hf; intro hc45 a hf
                         exact absurd rfl hc45
                        ·
                         clear hf; intro hc45 a hf
                         first
                         | (first | exact Bool.noConfusion hc45 | exact absurd rfl hc45; done)
                         | (
                          refine any_takeA (i := 12) hf rfl (Wn.none rfl) (rd_pick_f hf rfl rfl rfl) hT rfl rfl ?_
                          clear hf; intro a hf
                          refine any_takeA (i := 13) hf rfl (Wn.none rfl) (rd_move hf rfl rfl) hT rfl rfl ?_
                          clear hf; intro a hf
                          refine any_takeA (i := 14) hf rfl (Wn.some hf rfl rfl rfl rfl) (rd_move hf rfl rfl) hT rfl rfl ?_
                          clear hf; intro a hf
                          refine any_takeA (i := 16) hf rfl (Wn.some hf rfl rfl rfl rfl) (rd_move hf rfl rfl) hT rfl rfl ?_
                          clear hf; intro a hf
                          refine any_takeA (i := 17) hf rfl (Wn.some hf rfl rfl rfl rfl) (rd_len hf rfl rfl Try.underlying22) hT rfl rfl ?_
                          clear hf; intro a hf
                          refine any_one (i := 15) rfl (by kernel_rfl) (st_call hf (Wn.some hf rfl rfl rfl rfl) rfl rfl rfl fn22 (WLen_c _ _ _ _ _ _ (hS.sels (.cons (by repeat (first | exact Sel.head | apply Sel.tail)) (.cons (by repeat (first | exact Sel.head | apply Sel.tail)) .nil)))) rfl rfl ?_)
                          clear hf hS; rintro v a w ⟨rfl, hS⟩ hf
                          replace hT := hS.sub' hT (by repeat (first | exact Sub.refl | exact Sub.none | exact Sub.behind | (apply Sub.cons; (focus ((repeat (first | exact Sel.head | apply Sel.tail)); done))) | apply Sub.skip))
                          refine ⟨hT, ?_⟩
                          refine any_takeB (i := 18) hf rfl (by kernel_rfl) (by kernel_rfl) (by kernel_rfl) (fun _ _ _ _ h => h) (Wn.some hf rfl rfl rfl rfl) (rd_neq hf rfl rfl rfl) hT rfl rfl ?_ ?_
                          ·
                           clear hf; intro hc46 a hf
                           exact absurd rfl hc46
                          ·
                           clear hf; intro hc46 a hf
                           first
                           | (first | exact Bool.noConfusion hc46 | exact absurd rfl hc46; done)
                           | (
                            refine any_takeA (i := 19) hf rfl (Wn.none rfl) (rd_pick_f hf rfl rfl rfl) hT rfl rfl ?_
                            clear hf; intro a hf
                            refine any_takeA (i := 20) hf rfl (Wn.none rfl) (rd_move hf rfl rfl) hT rfl rfl ?_
                            clear hf; intro a hf
                            refine any_takeA (i := 21) hf rfl (Wn.some hf rfl rfl rfl rfl) (rd_move hf rfl rfl) hT rfl rfl ?_
                            clear hf; intro a hf
                            refine any_takeA (i := 23) hf rfl (Wn.some hf rfl rfl rfl rfl) (rd_move hf rfl rfl) hT rfl rfl ?_
                            clear hf; intro a hf
                            refine any_takeA (i := 24) hf rfl (Wn.some hf rfl rfl rfl rfl) (rd_len hf rfl rfl Try.underlying23) hT rfl rfl ?_
                            clear hf; intro a hf
                            refine any_one (i := 22) rfl (by kernel_rfl) (st_call hf (Wn.some hf rfl rfl rfl rfl) rfl rfl rfl fn23 (WSize_c _ _ _ _ _ _ (hS.sels (.cons (by repeat (first | exact Sel.head | apply Sel.tail)) (.cons (by repeat (first | exact Sel.head | apply Sel.tail)) .nil)))) rfl rfl ?_)
                            clear hf hS; rintro v a w ⟨rfl, hS⟩ hf
                            replace hT := hS.sub' hT (by repeat (first | exact Sub.refl | exact Sub.none | exact Sub.behind | (apply Sub.cons; (focus ((repeat (first | exact Sel.head | apply Sel.tail)); done))) | apply Sub.skip))
                            refine ⟨hT, ?_⟩
                            refine any_takeB (i := 25) hf rfl (by kernel_rfl) (by kernel_rfl) (by kernel_rfl) (fun _ _ _ _ h => h) (Wn.some hf rfl rfl rfl rfl) (rd_neq hf rfl rfl rfl) hT rfl rfl ?_ ?_
                            ·
                             clear hf; intro hc47 a hf
                             exact absurd rfl hc47
                            ·
                             clear hf; intro hc47 a hf
                             first
                             | (first | exact Bool.noConfusion hc47 | exact absurd rfl hc47; done)
                             | (
                              refine any_takeA (i := 26) hf rfl (Wn.none rfl) (rd_pick_f hf rfl rfl rfl) hT rfl rfl ?_
                              clear hf; intro a hf
                              refine any_takeA (i := 27) hf rfl (Wn.none rfl) (rd_move hf rfl rfl) hT rfl rfl ?_
                              clear hf; intro a hf
                              refine any_takeA (i := 28) hf rfl (Wn.some hf rfl rfl rfl rfl) (rd_move hf rfl rfl) hT rfl rfl ?_
                              clear hf; intro a hf
                              refine any_takeA (i := 30) hf rfl (Wn.some hf rfl rfl rfl rfl) (rd_move hf rfl rfl) hT rfl rfl ?_
                              clear hf; intro a hf
                              refine any_one (i := 29) rfl (by kernel_rfl) (st_call hf (Wn.some hf rfl rfl rfl rfl) rfl rfl rfl fn25 (WRoom_c _ _ _ _ _ _ (hS.sels (.cons (by repeat (first | exact Sel.head | apply Sel.tail)) (.cons (by repeat (first | exact Sel.head | apply Sel.tail)) .nil))) (by omega) (by omega)) rfl rfl ?_)
                              clear hf hS; rintro v a w ⟨rfl, hS⟩ hf
                              replace hT := hS.sub' hT (by repeat (first | exact Sub.refl | exact Sub.none | exact Sub.behind | (apply Sub.cons; (focus ((repeat (first | exact Sel.head | apply Sel.tail)); done))) | apply Sub.skip))
                              refine ⟨hT, ?_⟩
                              refine any_takeB (i := 31) hf rfl (by kernel_rfl) (by kernel_rfl) (by kernel_rfl) (fun _ _ _ _ h => h) (Wn.some hf rfl rfl rfl rfl) (rd_neq hf rfl rfl rfl) hT rfl rfl ?_ ?_
                              ·
                               clear hf; intro hc48 a hf
                               exact absurd (by omega) hc48
                              ·
                               clear hf; intro hc48 a hf
                               first
                               | (first | exact Bool.noConfusion hc48 | exact absurd rfl hc48; done)
                               | (
                                refine any_takeA (i := 32) hf rfl (Wn.none rfl) (rd_pick_f hf rfl rfl rfl) hT rfl rfl ?_
                                clear hf; intro a hf
                                refine any_done (by kernel_rfl) ?_
                                refine t_normal ?_
                                refine c_false hf rfl ?_
                                refine c_skip ?_
                                refine b_normal ?_
                                refine t_normal ?_
                                refine c_region ?_
                                refine step_l (st_rd hf (Wn.none rfl) (rd_move hf rfl rfl) hS rfl rfl ?_)
                                clear hf; intro a hf
                                refine step_l (st_rd hf (Wn.none rfl) (rd_add hf rfl rfl rfl (by first | exact Go.IntWalk.i64_in _ (by omega) | exact rfl)) hS rfl rfl ?_)
                                clear hf; intro a hf
                                refine step_l (st_rd hf (Wn.none rfl) (rd_assign hf rfl rfl) hS rfl rfl ?_)
                                clear hf; intro a hf
                                refine done_l ?_
                                refine t_normal ⟨(i + 1, rw2, qq2, cc2, gg2), ((((hf.back (by repeat (first | exact Behind.refl | refine Behind.skip rfl ?_)) hk0).kb hf 10 rfl (by first | rfl | exact int_eq (by omega))).kb hf 9 rfl (by first | rfl | exact int_eq (by omega))).kb hf 6 rfl (by first | rfl | exact int_eq (by omega))), ⟨hS.subA, ⟨by omega, hfb2, hrv2, hbg2⟩⟩, by first | omega | (simp only []; omega)⟩
                                )
                              )
                            )
                          )
                        )
                      )
                    ·
                     clear hf; intro hc43 a hf
                     first
                     | (first | exact Bool.noConfusion hc43 | exact absurd rfl hc43; done)
                     | (
                      refine done_l ?_
                      refine t_normal ?_
                      refine c_false hf rfl ?_
                      refine c_skip ?_
                      refine t_normal ?_
                      refine c_seq ?_
                      refine any_begin mixed hS.drew ?_
                      replace hS := hS.drew
                      have hT := hS
                      refine any_takeA (i := 0) hf rfl (Wn.none rfl) (rd_move hf rfl rfl) hT rfl rfl ?_
                      clear hf; intro a hf
                      refine any_takeA (i := 3) hf rfl (Wn.none rfl) (rd_move hf rfl rfl) hT rfl rfl ?_
                      clear hf; intro a hf
                      refine any_takeA (i := 4) hf rfl (Wn.none rfl) (rd_str hf rfl rfl Try.underlying23 Try.underlying9 Try.underlying5 (by intro _ h; first | exact h.slOfRw (by repeat (first | exact Sel.head | apply Sel.tail)) | exact h.slOfBlkPre (by repeat (first | exact Sel.head | apply Sel.tail)) (bvs_len1 _) | exact h.slOfRw (by repeat (first | exact Sel.head | apply Sel.tail)))) hT rfl rfl ?_
                      clear hf; intro a hf
                      refine any_one (i := 1) rfl (by kernel_rfl) (st_call hf (Wn.none rfl) rfl rfl rfl fn16 (DBytes_c _ _ (frs (byts rw2)) _ (hS.selA) (by omega)) rfl rfl ?_)
                      clear hf hS; rintro v a w ⟨qb1, capb1, rfl, hS⟩ hf
                      replace hT := hS.sub' hT (by repeat (first | exact Sub.refl | exact Sub.none | exact Sub.behind | (apply Sub.cons; (focus ((repeat (first | exact Sel.head | apply Sel.tail)); done))) | apply Sub.skip))
                      refine ⟨hT, ?_⟩
                      refine any_one (i := 2) rfl (by kernel_rfl) (st_rd hf (Wn.none rfl) (rd_str hf rfl rfl Try.underlying23 Try.underlying9 Try.underlying5 (by intro _ h; first | exact h.slOfRw (by repeat (first | exact Sel.head | apply Sel.tail)) | exact h.slOfBlkPre (by repeat (first | exact Sel.head | apply Sel.tail)) (bvs_len1 _) | exact h.slOfRw (by repeat (first | exact Sel.head | apply Sel.tail)))) hS rfl rfl ?_)
                      clear hf; intro a hf
                      refine ⟨hT, ?_⟩
                      refine any_takeB (i := 5) hf rfl (by kernel_rfl) (by kernel_rfl) (by kernel_rfl) (fun _ _ _ _ h => h) (Wn.none rfl) (rd_neqS hf rfl rfl rfl) hT rfl rfl ?_ ?_
                      ·
                       clear hf; intro hc49 a hf
                       exact absurd rfl hc49
                      ·
                       clear hf; intro hc49 a hf
                       first
                       | (first | exact Bool.noConfusion hc49 | exact absurd rfl hc49; done)
                       | (
                        refine any_takeA (i := 6) hf rfl (Wn.none rfl) (rd_move hf rfl rfl) hT rfl rfl ?_
                        clear hf; intro a hf
                        refine any_takeA (i := 7) hf rfl (Wn.some hf rfl rfl rfl rfl) (rd_move hf rfl rfl) hT rfl rfl ?_
                        clear hf; intro a hf
                        refine any_takeA (i := 9) hf rfl (Wn.some hf rfl rfl rfl rfl) (rd_move hf rfl rfl) hT rfl rfl ?_
                        clear hf; intro a hf
                        refine any_takeA (i := 10) hf rfl (Wn.some hf rfl rfl rfl rfl) (rd_len hf rfl rfl Try.underlying23) hT rfl rfl ?_
                        clear hf; intro a hf
                        refine any_one (i := 8) rfl (by kernel_rfl) (st_call hf (Wn.some hf rfl rfl rfl rfl) rfl rfl rfl fn24 (DSure_c _ _ _ _ (hS.selA)) rfl rfl ?_)
                        clear hf hS; rintro v a w ⟨rfl, hS⟩ hf
                        replace hT := hS.sub' hT (by repeat (first | exact Sub.refl | exact Sub.none | exact Sub.behind | (apply Sub.cons; (focus ((repeat (first | exact Sel.head | apply Sel.tail)); done))) | apply Sub.skip))
                        refine ⟨hT, ?_⟩
                        refine any_takeB (i := 11) hf rfl (by kernel_rfl) (by kernel_rfl) (by kernel_rfl) (fun _ _ _ _ h => h) (Wn.some hf rfl rfl rfl rfl) (rd_neq hf rfl rfl rfl) hT rfl rfl ?_ ?_
                        ·
                         clear hf; intro hc50 a hf
                         exact absurd rfl hc50
                        ·
                         clear hf; intro hc50 a hf
                         first
                         | (first | exact Bool.noConfusion hc50 | exact absurd rfl hc50; done)
                         | (
                          refine any_takeA (i := 12) hf rfl (Wn.none rfl) (rd_pick_f hf rfl rfl rfl) hT rfl rfl ?_
                          clear hf; intro a hf
                          refine any_takeA (i := 13) hf rfl (Wn.none rfl) (rd_move hf rfl rfl) hT rfl rfl ?_
                          clear hf; intro a hf
                          refine any_takeA (i := 14) hf rfl (Wn.some hf rfl rfl rfl rfl) (rd_move hf rfl rfl) hT rfl rfl ?_
                          clear hf; intro a hf
                          refine any_takeA (i := 16) hf rfl (Wn.some hf rfl rfl rfl rfl) (rd_move hf rfl rfl) hT rfl rfl ?_
                          clear hf; intro a hf
                          refine any_takeA (i := 17) hf rfl (Wn.some hf rfl rfl rfl rfl) (rd_len hf rfl rfl Try.underlying22) hT rfl rfl ?_
                          clear hf; intro a hf
                          refine any_one (i := 15) rfl (by kernel_rfl) (st_call hf (Wn.some hf rfl rfl rfl rfl) rfl rfl rfl fn22 (WLen_c _ _ _ _ _ _ (hS.sels (.cons (by repeat (first | exact Sel.head | apply Sel.tail)) (.cons (by repeat (first | exact Sel.head | apply Sel.tail)) .nil)))) rfl rfl ?_)
                          clear hf hS; rintro v a w ⟨rfl, hS⟩ hf
                          replace hT := hS.sub' hT (by repeat (first | exact Sub.refl | exact Sub.none | exact Sub.behind | (apply Sub.cons; (focus ((repeat (first | exact Sel.head | apply Sel.tail)); done))) | apply Sub.skip))
                          refine ⟨hT, ?_⟩
                          refine any_takeB (i := 18) hf rfl (by kernel_rfl) (by kernel_rfl) (by kernel_rfl) (fun _ _ _ _ h => h) (Wn.some hf rfl rfl rfl rfl) (rd_neq hf rfl rfl rfl) hT rfl rfl ?_ ?_
                          ·
                           clear hf; intro hc51 a hf
                           exact absurd rfl hc51
                          ·
                           clear hf; intro hc51 a hf
                           first
                           | (first | exact Bool.noConfusion hc51 | exact absurd rfl hc51; done)
                           | (
                            refine any_takeA (i := 19) hf rfl (Wn.none rfl) (rd_pick_f hf rfl rfl rfl) hT rfl rfl ?_
                            clear hf; intro a hf
                            refine any_takeA (i := 20) hf rfl (Wn.none rfl) (rd_move hf rfl rfl) hT rfl rfl ?_
                            clear hf; intro a hf
                            refine any_takeA (i := 21) hf rfl (Wn.some hf rfl rfl rfl rfl) (rd_move hf rfl rfl) hT rfl rfl ?_
                            clear hf; intro a hf
                            refine any_takeA (i := 23) hf rfl (Wn.some hf rfl rfl rfl rfl) (rd_move hf rfl rfl) hT rfl rfl ?_
                            clear hf; intro a hf
                            refine any_takeA (i := 24) hf rfl (Wn.some hf rfl rfl rfl rfl) (rd_len hf rfl rfl Try.underlying23) hT rfl rfl ?_
                            clear hf; intro a hf
                            refine any_one (i := 22) rfl (by kernel_rfl) (st_call hf (Wn.some hf rfl rfl rfl rfl) rfl rfl rfl fn23 (WSize_c _ _ _ _ _ _ (hS.sels (.cons (by repeat (first | exact Sel.head | apply Sel.tail)) (.cons (by repeat (first | exact Sel.head | apply Sel.tail)) .nil)))) rfl rfl ?_)
                            clear hf hS; rintro v a w ⟨rfl, hS⟩ hf
                            replace hT := hS.sub' hT (by repeat (first | exact Sub.refl | exact Sub.none | exact Sub.behind | (apply Sub.cons; (focus ((repeat (first | exact Sel.head | apply Sel.tail)); done))) | apply Sub.skip))
                            refine ⟨hT, ?_⟩
                            refine any_takeB (i := 25) hf rfl (by kernel_rfl) (by kernel_rfl) (by kernel_rfl) (fun _ _ _ _ h => h) (Wn.some hf rfl rfl rfl rfl) (rd_neq hf rfl rfl rfl) hT rfl rfl ?_ ?_
                            ·
                             clear hf; intro hc52 a hf
                             exact absurd rfl hc52
                            ·
                             clear hf; intro hc52 a hf
                             first
                             | (first | exact Bool.noConfusion hc52 | exact absurd rfl hc52; done)
                             | (
                              refine any_takeA (i := 26) hf rfl (Wn.none rfl) (rd_pick_f hf rfl rfl rfl) hT rfl rfl ?_
                              clear hf; intro a hf
                              refine any_takeA (i := 27) hf rfl (Wn.none rfl) (rd_move hf rfl rfl) hT rfl rfl ?_
                              clear hf; intro a hf
                              refine any_takeA (i := 28) hf rfl (Wn.some hf rfl rfl rfl rfl) (rd_move hf rfl rfl) hT rfl rfl ?_
                              clear hf; intro a hf
                              refine any_takeA (i := 30) hf rfl (Wn.some hf rfl rfl rfl rfl) (rd_move hf rfl rfl) hT rfl rfl ?_
                              clear hf; intro a hf
                              refine any_one (i := 29) rfl (by kernel_rfl) (st_call hf (Wn.some hf rfl rfl rfl rfl) rfl rfl rfl fn25 (WRoom_c _ _ _ _ _ _ (hS.sels (.cons (by repeat (first | exact Sel.head | apply Sel.tail)) (.cons (by repeat (first | exact Sel.head | apply Sel.tail)) .nil))) (by omega) (by omega)) rfl rfl ?_)
                              clear hf hS; rintro v a w ⟨rfl, hS⟩ hf
                              replace hT := hS.sub' hT (by repeat (first | exact Sub.refl | exact Sub.none | exact Sub.behind | (apply Sub.cons; (focus ((repeat (first | exact Sel.head | apply Sel.tail)); done))) | apply Sub.skip))
                              refine ⟨hT, ?_⟩
                              refine any_takeB (i := 31) hf rfl (by kernel_rfl) (by kernel_rfl) (by kernel_rfl) (fun _ _ _ _ h => h) (Wn.some hf rfl rfl rfl rfl) (rd_neq hf rfl rfl rfl) hT rfl rfl ?_ ?_
                              ·
                               clear hf; intro hc53 a hf
                               exact absurd (by omega) hc53
                              ·
                               clear hf; intro hc53 a hf
                               first
                               | (first | exact Bool.noConfusion hc53 | exact absurd rfl hc53; done)
                               | (
                                refine any_takeA (i := 32) hf rfl (Wn.none rfl) (rd_pick_f hf rfl rfl rfl) hT rfl rfl ?_
                                clear hf; intro a hf
                                refine any_done (by kernel_rfl) ?_
                                refine t_normal ?_
                                refine c_false hf rfl ?_
                                refine c_skip ?_
                                refine b_normal ?_
                                refine t_normal ?_
                                refine c_region ?_
                                refine step_l (st_rd hf (Wn.none rfl) (rd_move hf rfl rfl) hS rfl rfl ?_)
                                clear hf; intro a hf
                                refine step_l (st_rd hf (Wn.none rfl) (rd_add hf rfl rfl rfl (by first | exact Go.IntWalk.i64_in _ (by omega) | exact rfl)) hS rfl rfl ?_)
                                clear hf; intro a hf
                                refine step_l (st_rd hf (Wn.none rfl) (rd_assign hf rfl rfl) hS rfl rfl ?_)
                                clear hf; intro a hf
                                refine done_l ?_
                                refine t_normal ⟨(i + 1, rw2, qq2, cc2, gg2), ((((hf.back (by repeat (first | exact Behind.refl | refine Behind.skip rfl ?_)) hk0).kb hf 10 rfl (by first | rfl | exact int_eq (by omega))).kb hf 9 rfl (by first | rfl | exact int_eq (by omega))).kb hf 6 rfl (by first | rfl | exact int_eq (by omega))), ⟨hS.subA, ⟨by omega, hfb2, hrv2, hbg2⟩⟩, by first | omega | (simp only []; omega)⟩
                                )
                              )
                            )
                          )
                        )
                      )
                    )
                  )
               ·
                skip
                refine st_buildSlice hf (Wn.none rfl) hS rfl rfl Try.underlying22 sz23 zr23 (by decide) bz23_1 rfl (.cons rfl (by first | rfl) (by rfl) (by repeat (first | exact Put.nil | apply Put.cons | apply Put.succ)) .nil) rfl rfl ?_
                clear hf hS; intro b_54 a w hf hS
                replace hT := hS.sub' hT (by repeat (first | exact Sub.refl | exact Sub.none | exact Sub.behind | (apply Sub.cons; (focus ((repeat (first | exact Sel.head | apply Sel.tail)); done))) | apply Sub.skip))
                refine ⟨hT, ?_⟩
                replace hS := hS.rwNil 23 1
                refine any_one (i := 1) rfl (by kernel_rfl) (st_append hf (Wn.none rfl) rfl rfl rfl Try.underlying22 tyb23 (by rfl) (by decide) hS (by repeat (first | exact Sel.head | apply Sel.tail)) (by first | exact hS.slOfBlk (by repeat (first | exact Sel.head | apply Sel.tail)) (by rfl) | exact hS.slOfBlkPre (by repeat (first | exact Sel.head | apply Sel.tail)) (bvs_len1 _) | exact hS.slOfRw (by repeat (first | exact Sel.head | apply Sel.tail)) | exact SlAt.nil _ _ _) (by first | rfl | exact bvs_one _ | (simp [Value.oneCell']; done) | exact svs_one _) (by omega) rfl rfl ?_)
                clear hf hS; intro pA78 capA78 a w hf hS hnilA
                replace hT := hS.sub' hT (by repeat (first | exact Sub.refl | exact Sub.none | exact Sub.behind | (apply Sub.cons; (focus ((repeat (first | exact Sel.head | apply Sel.tail)); done))) | apply Sub.skip))
                refine ⟨hT, ?_⟩
                refine any_one (i := 5) rfl (by kernel_rfl) (st_append hf (Wn.none rfl) rfl rfl rfl Try.underlying22 tyb23 (by rfl) (by decide) hS (by repeat (first | exact Sel.head | apply Sel.tail)) (by first | exact hS.slOfBlk (by repeat (first | exact Sel.head | apply Sel.tail)) (by rfl) | exact hS.slOfBlkPre (by repeat (first | exact Sel.head | apply Sel.tail)) (bvs_len1 _) | exact hS.slOfRw (by repeat (first | exact Sel.head | apply Sel.tail)) | exact SlAt.nil _ _ _) (by first | rfl | exact bvs_one _ | (simp [Value.oneCell']; done) | exact svs_one _) (by omega) rfl rfl ?_)
                clear hf hS; intro pA82 capA82 a w hf hS hnilA
                replace hT := hS.sub' hT (by repeat (first | exact Sub.refl | exact Sub.none | exact Sub.behind | (apply Sub.cons; (focus ((repeat (first | exact Sel.head | apply Sel.tail)); done))) | apply Sub.skip))
                refine ⟨hT, ?_⟩
                refine any_takeA (i := 6) hf rfl (Wn.none rfl) (rd_assign hf rfl rfl) hT rfl rfl ?_
                clear hf; intro a hf
                refine any_done (by kernel_rfl) ?_
                replace hS := (hS.selA : Sat W (Rw 23 1 pA82 _ capA82 _ :: _) _).rwCast (xs' := (rows ++ [x.2.1]).map sval) (len' := (rows ++ [x.2.1]).length) (by simp) (by simp)
                replace hf := hf.kb hf 9 rfl (slice_eq (n' := (rows ++ [x.2.1]).length) (by simp))
                refine b_normal ?_
                refine t_normal ?_
                refine c_seq ?_
                refine c_region ?_
                refine step_l (st_rd hf (Wn.none rfl) (rd_move hf rfl rfl) hS rfl rfl ?_)
                clear hf; intro a hf
                refine step_l (st_rd hf (Wn.none rfl) (rd_fieldAddrB hf rfl rfl fb53_1 rfl) hS rfl rfl ?_)
                clear hf; intro a hf
                refine step_l (st_rd hf (Wn.none rfl) (rd_load1 hf rfl rfl ag23 (by intro _ h; first | exact h.cell (by repeat (first | exact Sel.head | apply Sel.tail)) (by rfl))) hS rfl rfl ?_)
                clear hf; intro a hf
                refine step_l (st_call hf (Wn.none rfl) rfl rfl rfl fn14 (WAppend_c _ _ _ _ _ _ x.2.1.2.2 _ _ _ (hS.sels (.cons (by repeat (first | exact Sel.head | apply Sel.tail)) (.cons (by repeat (first | exact Sel.head | apply Sel.tail)) .nil))) (by omega) (by omega) (by omega) rfl (fun _ h => hx2 _ (h.subA))) rfl rfl ?_)
                clear hf hS; rintro v a w ⟨rfl, hS⟩ hf; rw [hAE] at hf; rw [e1, e2, e3] at hS
                refine step_l (st_rd hf (Wn.none rfl) (rd_move hf rfl rfl) hS rfl rfl ?_)
                clear hf; intro a hf
                refine step_l (st_rdB hf (Wn.none rfl) (rd_neq hf rfl rfl rfl) hS rfl rfl ?_ ?_)
                ·
                 clear hf; intro hc57 a hf
                 exact absurd rfl hc57
                ·
                 clear hf; intro hc57 a hf
                 first
                 | (first | exact Bool.noConfusion hc57 | exact absurd rfl hc57; done)
                 | (
                  refine done_l ?_
                  refine t_normal ?_
                  refine c_false hf rfl ?_
                  refine c_skip ?_
                  refine b_normal ?_
                  refine t_normal ?_
                  refine c_seq ?_
                  obtain ⟨rw2, hrw⟩ : ∃ z : List (Sli UInt8), z = (rows ++ [x.2.1]) := ⟨_, rfl⟩
                  rw [← hrw] at hf hS
                  have hfb2 : (frs (byts rw2)).length ≤ m := by rw [hrw]; rw [← hfs, List.length_append, frB_len]; omega
                  have hrv2 : ∀ w, Sat W R w → ∀ y ∈ rw2, SlAt w y.1 y.2.2.length 1 (bvs y.2.2) := by rw [hrw]; exact fun w h y hy => (List.mem_append.1 hy).elim (hrv w h y) (fun h2 => by rw [List.mem_singleton.1 h2]; exact hx2 w h)
                  have hbg2 : ∀ z ∈ byts rw2, z.length ≤ 60000 := by rw [hrw]; rw [byts_snoc]; exact fun z hz => (List.mem_append.1 hz).elim (hbg z) (fun h2 => by rw [List.mem_singleton.1 h2]; omega)
                  obtain ⟨qq2, hqq⟩ : ∃ z, z = pA82 := ⟨_, rfl⟩; obtain ⟨cc2, hcc⟩ : ∃ z, z = capA82 := ⟨_, rfl⟩; obtain ⟨gg2, hgg⟩ : ∃ z, z = g := ⟨_, rfl⟩; rw [← hqq, ← hcc, ← hgg] at hf hS; have hrl2 := frs_ge (byts rw2); rw [byts_len] at hrl2
                  refine c_region ?_
                  refine step_l (st_rd hf (Wn.none rfl) (rd_assign hf rfl rfl) hS rfl rfl ?_)
                  clear hf; intro a hf
                  refine done_l ?_
                  refine t_normal ?_
                  refine c_seq ?_
                  refine c_seq ?_
                  refine c_region ?_
                  refine step_l (st_rd hf (Wn.none rfl) (rd_move hf rfl rfl) hS rfl rfl ?_)
                  clear hf; intro a hf
                  refine step_l (st_rd hf (Wn.none rfl) (rd_len hf rfl rfl Try.underlying22) hS rfl rfl ?_)
                  clear hf; intro a hf
                  refine step_l (st_rd hf (Wn.none rfl) (rd_move hf rfl rfl) hS rfl rfl ?_)
                  clear hf; intro a hf
                  refine done_l ?_
                  refine t_normal ?_
                  refine c_block ?_
                  have hk4 := Keep.of hf [(18, 18), (20, 20), (121, 129)] (by repeat (first | exact Keep.nil | apply Keep.drop rfl | apply Keep.take rfl))
                  refine c_loopK hk4 (α := Nat × Option Addr × Nat) (fun ⟨k, q, cap⟩ => [(18, .slice q (frs ((byts rw2).take k)).length cap), (121, .int .i64 (k : Nat))]) (fun ⟨k, q, cap⟩ w => Sat W (Rw 5 1 q (frs ((byts rw2).take k)).length cap (bvs (frs ((byts rw2).take k))) :: Rw 23 1 qq2 rw2.length cc2 (rw2.map sval) :: Blk gg2 [.pointer (some ⟨pd, 0, none⟩), .int .i64 (rw2.length : Nat)] 59 :: DkP 5 56 pd ((m : Nat) : Int) (frs (byts rw2)) (frs (byts rw2)).length :: R) w ∧ k ≤ rw2.length) (fun ⟨k, q, cap⟩ => rw2.length - k) (0, none, 0) (((hf.keep hk4).kb hf 121 rfl (by first | rfl | exact int_eq (by omega))).kb hf 18 rfl (by first | rfl | exact int_eq (by omega))) ⟨(hS.rwNil 5 1).subA, by omega⟩ ?_
                  clear hf hS; rintro ⟨k, q, cap⟩ a w hf ⟨hS, hkr⟩; (try dsimp only [List.cons_append, List.nil_append] at hf)
                  refine c_seq ?_
                  refine c_region ?_
                  refine step_l (st_rdB hf (Wn.none rfl) (rd_lss hf rfl rfl rfl) hS rfl rfl ?_ ?_)
                  ·
                   clear hf; intro hc58 a hf
                   obtain ⟨y, hget2⟩ := get_of_lt (l := rw2) (k := k) (by omega) rfl; obtain ⟨ad2, rfl⟩ := (hS.slOfRw (xs := rw2.map sval) (by repeat (first | exact Sel.head | apply Sel.tail))).some (by omega); have hfk := frs_le (byts rw2) (k + 1); have hfs2 := congrArg List.length (frs_step hget2); rw [List.length_append, frB_len] at hfs2
                   first
                   | (first | exact Bool.noConfusion hc58 | exact absurd rfl hc58; done)
                   | (
                    refine done_l ?_
                    refine t_normal ?_
                    refine c_seq ?_
                    refine c_true hf rfl ?_
                    refine c_skip ?_
                    refine t_normal ?_
                    refine c_seq ?_
                    refine c_block ?_
                    refine c_seq ?_
                    refine c_region ?_
                    refine step_l (st_rd hf (Wn.none rfl) ((by first | exact rd_indexAddrN1 hf rfl rfl rfl Try.underlying22 sz23 (by omega) | exact rd_indexAddr hf rfl rfl rfl Try.underlying22 sz23 (by first | decide | omega) (by omega))) hS rfl rfl ?_)
                    clear hf; intro a hf
                    refine step_l (st_rd hf (Wn.none rfl) (rd_load1 hf rfl rfl ag23 (by intro _ h; exact (h.slOfRw (xs := rw2.map sval) (by repeat (first | exact Sel.head | apply Sel.tail))).get (u := sval y) (by simp [hget2]))) hS rfl rfl ?_)
                    clear hf; intro a hf
                    refine step_l (st_rd hf (Wn.none rfl) (rd_assign hf rfl rfl) hS rfl rfl ?_)
                    clear hf; intro a hf
                    refine done_l ?_
                    refine t_normal ?_
                    refine c_region ?_
                    refine step_l (st_rd hf (Wn.none rfl) (rd_move hf rfl rfl) hS rfl rfl ?_)
                    clear hf; intro a hf
                    refine step_l (st_rd hf (Wn.none rfl) (rd_move hf rfl rfl) hS rfl rfl ?_)
                    clear hf; intro a hf
                    refine step_l (st_call hf (Wn.none rfl) rfl rfl rfl fn18 (RFrame_c y.2.2 _ _ _ hS rfl (by have := hbg2 _ (List.mem_of_getElem? (byts_get hget2)); omega) (fun _ h => hrv2 _ (h.subA) y (List.mem_of_getElem? hget2))) rfl rfl ?_)
                    clear hf hS; rintro v a w ⟨qf, capf, rfl, hS⟩ hf; have hfl := frB_len y.2.2
                    refine step_l (st_append hf (Wn.none rfl) rfl rfl rfl Try.underlying23 tyb5 (by rfl) (by decide) hS (by repeat (first | exact Sel.head | apply Sel.tail)) (by first | exact hS.slOfBlk (by repeat (first | exact Sel.head | apply Sel.tail)) (by rfl) | exact hS.slOfBlkPre (by repeat (first | exact Sel.head | apply Sel.tail)) (bvs_len1 _) | exact hS.slOfRw (by repeat (first | exact Sel.head | apply Sel.tail)) | exact SlAt.nil _ _ _) (by first | rfl | exact bvs_one _ | (simp [Value.oneCell']; done) | exact svs_one _) (by omega) rfl rfl ?_)
                    clear hf hS; intro pA128 capA128 a w hf hS hnilA
                    refine step_l (st_rd hf (Wn.none rfl) (rd_assign hf rfl rfl) hS rfl rfl ?_)
                    clear hf; intro a hf
                    refine done_l ?_
                    refine b_normal ?_
                    refine t_normal ?_
                    refine c_region ?_
                    refine step_l (st_rd hf (Wn.none rfl) (rd_add hf rfl rfl rfl (by first | exact Go.IntWalk.i64_in _ (by omega) | exact rfl)) hS rfl rfl ?_)
                    clear hf; intro a hf
                    refine step_l (st_rd hf (Wn.none rfl) (rd_move hf rfl rfl) hS rfl rfl ?_)
                    clear hf; intro a hf
                    refine done_l ?_
                    refine t_normal ⟨(k + 1, pA128, capA128), (((hf.back (by repeat (first | exact Behind.refl | refine Behind.skip rfl ?_)) hk4).kb hf 121 rfl (by first | rfl | exact int_eq (by omega))).kb hf 18 rfl (by exact slice_eq (by rw [frs_step hget2, List.length_append]))), ⟨((hS.selA : Sat W (Rw 5 1 pA128 _ capA128 _ :: _) _).rwCast (xs' := bvs (frs ((byts rw2).take (k + 1)))) (len' := (frs ((byts rw2).take (k + 1))).length) (by rw [frs_step hget2]; simp) (by rw [frs_step hget2, List.length_append])).subA, by omega⟩, by first | omega | (simp only []; omega)⟩
                    )
                  ·
                   clear hf; intro hc58 a hf
                   obtain rfl : k = rw2.length := by omega
                   rw [byts_all] at hf hS
                   first
                   | (first | exact Bool.noConfusion hc58 | exact absurd rfl hc58; done)
                   | (
                    refine done_l ?_
                    refine t_normal ?_
                    refine c_seq ?_
                    refine c_false hf rfl ?_
                    refine c_exit ?_
                    refine t_exit ?_
                    refine t_exit ?_
                    refine b_exit ?_
                    refine t_normal ?_
                    refine c_seq ?_
                    refine c_region ?_
                    refine step_l (st_rd hf (Wn.none rfl) (rd_move hf rfl rfl) hS rfl rfl ?_)
                    clear hf; intro a hf
                    refine step_l (st_rd hf (Wn.none rfl) (rd_move hf rfl rfl) hS rfl rfl ?_)
                    clear hf; intro a hf
                    refine step_l (st_rd hf (Wn.none rfl) (rd_len hf rfl rfl Try.underlying23) hS rfl rfl ?_)
                    clear hf; intro a hf
                    refine step_l (st_rd hf (Wn.none rfl) (rd_sub hf rfl rfl rfl (by first | exact Go.IntWalk.i64_in _ (by omega) | exact rfl)) hS rfl rfl ?_)
                    clear hf; intro a hf
                    refine step_l (st_rd hf (Wn.none rfl) (rd_sub hf rfl rfl rfl (by first | exact Go.IntWalk.i64_in _ (by omega) | exact rfl)) hS rfl rfl ?_)
                    clear hf; intro a hf
                    refine step_l (st_rd hf (Wn.none rfl) (rd_min hf rfl rfl rfl) hS rfl rfl ?_)
                    clear hf; intro a hf
                    refine step_l (st_rd hf (Wn.none rfl) (rd_assign hf rfl rfl) hS rfl rfl ?_)
                    clear hf; intro a hf
                    refine done_l ?_
                    refine t_normal ?_
                    refine c_seq ?_
                    refine c_seq ?_
                    refine c_region ?_
                    refine step_l (st_rd hf (Wn.none rfl) (rd_move hf rfl rfl) hS rfl rfl ?_)
                    clear hf; intro a hf
                    refine step_l (st_rdB hf (Wn.none rfl) (rd_lss hf rfl rfl rfl) hS rfl rfl ?_ ?_)
                    ·
                     clear hf; intro hc60 a hf
                     first
                     | (first | exact Bool.noConfusion hc60 | exact absurd rfl hc60; done)
                     | (
                      refine done_l ?_
                      refine t_normal ?_
                      refine c_true hf rfl ?_
                      refine c_region ?_
                      refine step_l (st_rd hf (Wn.none rfl) (rd_assign hf rfl rfl) hS rfl rfl ?_)
                      clear hf; intro a hf
                      refine done_l ?_
                      refine t_normal ?_
                      refine c_seq ?_
                      refine any_begin mixed hS.drew ?_
                      replace hS := hS.drew
                      have hT := hS
                      refine any_takeA (i := 0) hf rfl (Wn.none rfl) (rd_move hf rfl rfl) hT rfl rfl ?_
                      clear hf; intro a hf
                      refine any_takeA (i := 3) hf rfl (Wn.none rfl) (rd_move hf rfl rfl) hT rfl rfl ?_
                      clear hf; intro a hf
                      refine any_takeA (i := 4) hf rfl (Wn.none rfl) (rd_str hf rfl rfl Try.underlying23 Try.underlying9 Try.underlying5 (by intro _ h; first | exact h.slOfRw (by repeat (first | exact Sel.head | apply Sel.tail)) | exact h.slOfBlkPre (by repeat (first | exact Sel.head | apply Sel.tail)) (bvs_len1 _) | exact h.slOfRw (by repeat (first | exact Sel.head | apply Sel.tail)))) hT rfl rfl ?_
                      clear hf; intro a hf
                      refine any_one (i := 1) rfl (by kernel_rfl) (st_call hf (Wn.none rfl) rfl rfl rfl fn16 (DBytes_c _ _ (frs (byts rw2)) _ (hS.selA) (by omega)) rfl rfl ?_)
                      clear hf hS; rintro v a w ⟨qb1, capb1, rfl, hS⟩ hf
                      replace hT := hS.sub' hT (by repeat (first | exact Sub.refl | exact Sub.none | exact Sub.behind | (apply Sub.cons; (focus ((repeat (first | exact Sel.head | apply Sel.tail)); done))) | apply Sub.skip))
                      refine ⟨hT, ?_⟩
                      refine any_one (i := 2) rfl (by kernel_rfl) (st_rd hf (Wn.none rfl) (rd_str hf rfl rfl Try.underlying23 Try.underlying9 Try.underlying5 (by intro _ h; first | exact h.slOfRw (by repeat (first | exact Sel.head | apply Sel.tail)) | exact h.slOfBlkPre (by repeat (first | exact Sel.head | apply Sel.tail)) (bvs_len1 _) | exact h.slOfRw (by repeat (first | exact Sel.head | apply Sel.tail)))) hS rfl rfl ?_)
                      clear hf; intro a hf
                      refine ⟨hT, ?_⟩
                      refine any_takeB (i := 5) hf rfl (by kernel_rfl) (by kernel_rfl) (by kernel_rfl) (fun _ _ _ _ h => h) (Wn.none rfl) (rd_neqS hf rfl rfl rfl) hT rfl rfl ?_ ?_
                      ·
                       clear hf; intro hc61 a hf
                       exact absurd rfl hc61
                      ·
                       clear hf; intro hc61 a hf
                       first
                       | (first | exact Bool.noConfusion hc61 | exact absurd rfl hc61; done)
                       | (
                        refine any_takeA (i := 6) hf rfl (Wn.none rfl) (rd_move hf rfl rfl) hT rfl rfl ?_
                        clear hf; intro a hf
                        refine any_takeA (i := 7) hf rfl (Wn.some hf rfl rfl rfl rfl) (rd_move hf rfl rfl) hT rfl rfl ?_
                        clear hf; intro a hf
                        refine any_takeA (i := 9) hf rfl (Wn.some hf rfl rfl rfl rfl) (rd_move hf rfl rfl) hT rfl rfl ?_
                        clear hf; intro a hf
                        refine any_takeA (i := 10) hf rfl (Wn.some hf rfl rfl rfl rfl) (rd_len hf rfl rfl Try.underlying23) hT rfl rfl ?_
                        clear hf; intro a hf
                        refine any_one (i := 8) rfl (by kernel_rfl) (st_call hf (Wn.some hf rfl rfl rfl rfl) rfl rfl rfl fn24 (DSure_c _ _ _ _ (hS.selA)) rfl rfl ?_)
                        clear hf hS; rintro v a w ⟨rfl, hS⟩ hf
                        replace hT := hS.sub' hT (by repeat (first | exact Sub.refl | exact Sub.none | exact Sub.behind | (apply Sub.cons; (focus ((repeat (first | exact Sel.head | apply Sel.tail)); done))) | apply Sub.skip))
                        refine ⟨hT, ?_⟩
                        refine any_takeB (i := 11) hf rfl (by kernel_rfl) (by kernel_rfl) (by kernel_rfl) (fun _ _ _ _ h => h) (Wn.some hf rfl rfl rfl rfl) (rd_neq hf rfl rfl rfl) hT rfl rfl ?_ ?_
                        ·
                         clear hf; intro hc62 a hf
                         exact absurd rfl hc62
                        ·
                         clear hf; intro hc62 a hf
                         first
                         | (first | exact Bool.noConfusion hc62 | exact absurd rfl hc62; done)
                         | (
                          refine any_takeA (i := 12) hf rfl (Wn.none rfl) (rd_pick_f hf rfl rfl rfl) hT rfl rfl ?_
                          clear hf; intro a hf
                          refine any_takeA (i := 13) hf rfl (Wn.none rfl) (rd_move hf rfl rfl) hT rfl rfl ?_
                          clear hf; intro a hf
                          refine any_takeA (i := 14) hf rfl (Wn.some hf rfl rfl rfl rfl) (rd_move hf rfl rfl) hT rfl rfl ?_
                          clear hf; intro a hf
                          refine any_takeA (i := 16) hf rfl (Wn.some hf rfl rfl rfl rfl) (rd_move hf rfl rfl) hT rfl rfl ?_
                          clear hf; intro a hf
                          refine any_takeA (i := 17) hf rfl (Wn.some hf rfl rfl rfl rfl) (rd_len hf rfl rfl Try.underlying22) hT rfl rfl ?_
                          clear hf; intro a hf
                          refine any_one (i := 15) rfl (by kernel_rfl) (st_call hf (Wn.some hf rfl rfl rfl rfl) rfl rfl rfl fn22 (WLen_c _ _ _ _ _ _ (hS.sels (.cons (by repeat (first | exact Sel.head | apply Sel.tail)) (.cons (by repeat (first | exact Sel.head | apply Sel.tail)) .nil)))) rfl rfl ?_)
                          clear hf hS; rintro v a w ⟨rfl, hS⟩ hf
                          replace hT := hS.sub' hT (by repeat (first | exact Sub.refl | exact Sub.none | exact Sub.behind | (apply Sub.cons; (focus ((repeat (first | exact Sel.head | apply Sel.tail)); done))) | apply Sub.skip))
                          refine ⟨hT, ?_⟩
                          refine any_takeB (i := 18) hf rfl (by kernel_rfl) (by kernel_rfl) (by kernel_rfl) (fun _ _ _ _ h => h) (Wn.some hf rfl rfl rfl rfl) (rd_neq hf rfl rfl rfl) hT rfl rfl ?_ ?_
                          ·
                           clear hf; intro hc63 a hf
                           exact absurd rfl hc63
                          ·
                           clear hf; intro hc63 a hf
                           first
                           | (first | exact Bool.noConfusion hc63 | exact absurd rfl hc63; done)
                           | (
                            refine any_takeA (i := 19) hf rfl (Wn.none rfl) (rd_pick_f hf rfl rfl rfl) hT rfl rfl ?_
                            clear hf; intro a hf
                            refine any_takeA (i := 20) hf rfl (Wn.none rfl) (rd_move hf rfl rfl) hT rfl rfl ?_
                            clear hf; intro a hf
                            refine any_takeA (i := 21) hf rfl (Wn.some hf rfl rfl rfl rfl) (rd_move hf rfl rfl) hT rfl rfl ?_
                            clear hf; intro a hf
                            refine any_takeA (i := 23) hf rfl (Wn.some hf rfl rfl rfl rfl) (rd_move hf rfl rfl) hT rfl rfl ?_
                            clear hf; intro a hf
                            refine any_takeA (i := 24) hf rfl (Wn.some hf rfl rfl rfl rfl) (rd_len hf rfl rfl Try.underlying23) hT rfl rfl ?_
                            clear hf; intro a hf
                            refine any_one (i := 22) rfl (by kernel_rfl) (st_call hf (Wn.some hf rfl rfl rfl rfl) rfl rfl rfl fn23 (WSize_c _ _ _ _ _ _ (hS.sels (.cons (by repeat (first | exact Sel.head | apply Sel.tail)) (.cons (by repeat (first | exact Sel.head | apply Sel.tail)) .nil)))) rfl rfl ?_)
                            clear hf hS; rintro v a w ⟨rfl, hS⟩ hf
                            replace hT := hS.sub' hT (by repeat (first | exact Sub.refl | exact Sub.none | exact Sub.behind | (apply Sub.cons; (focus ((repeat (first | exact Sel.head | apply Sel.tail)); done))) | apply Sub.skip))
                            refine ⟨hT, ?_⟩
                            refine any_takeB (i := 25) hf rfl (by kernel_rfl) (by kernel_rfl) (by kernel_rfl) (fun _ _ _ _ h => h) (Wn.some hf rfl rfl rfl rfl) (rd_neq hf rfl rfl rfl) hT rfl rfl ?_ ?_
                            ·
                             clear hf; intro hc64 a hf
                             exact absurd rfl hc64
                            ·
                             clear hf; intro hc64 a hf
                             first
                             | (first | exact Bool.noConfusion hc64 | exact absurd rfl hc64; done)
                             | (
                              refine any_takeA (i := 26) hf rfl (Wn.none rfl) (rd_pick_f hf rfl rfl rfl) hT rfl rfl ?_
                              clear hf; intro a hf
                              refine any_takeA (i := 27) hf rfl (Wn.none rfl) (rd_move hf rfl rfl) hT rfl rfl ?_
                              clear hf; intro a hf
                              refine any_takeA (i := 28) hf rfl (Wn.some hf rfl rfl rfl rfl) (rd_move hf rfl rfl) hT rfl rfl ?_
                              clear hf; intro a hf
                              refine any_takeA (i := 30) hf rfl (Wn.some hf rfl rfl rfl rfl) (rd_move hf rfl rfl) hT rfl rfl ?_
                              clear hf; intro a hf
                              refine any_one (i := 29) rfl (by kernel_rfl) (st_call hf (Wn.some hf rfl rfl rfl rfl) rfl rfl rfl fn25 (WRoom_c _ _ _ _ _ _ (hS.sels (.cons (by repeat (first | exact Sel.head | apply Sel.tail)) (.cons (by repeat (first | exact Sel.head | apply Sel.tail)) .nil))) (by omega) (by omega)) rfl rfl ?_)
                              clear hf hS; rintro v a w ⟨rfl, hS⟩ hf
                              replace hT := hS.sub' hT (by repeat (first | exact Sub.refl | exact Sub.none | exact Sub.behind | (apply Sub.cons; (focus ((repeat (first | exact Sel.head | apply Sel.tail)); done))) | apply Sub.skip))
                              refine ⟨hT, ?_⟩
                              refine any_takeB (i := 31) hf rfl (by kernel_rfl) (by kernel_rfl) (by kernel_rfl) (fun _ _ _ _ h => h) (Wn.some hf rfl rfl rfl rfl) (rd_neq hf rfl rfl rfl) hT rfl rfl ?_ ?_
                              ·
                               clear hf; intro hc65 a hf
                               exact absurd (by omega) hc65
                              ·
                               clear hf; intro hc65 a hf
                               first
                               | (first | exact Bool.noConfusion hc65 | exact absurd rfl hc65; done)
                               | (
                                refine any_takeA (i := 32) hf rfl (Wn.none rfl) (rd_pick_f hf rfl rfl rfl) hT rfl rfl ?_
                                clear hf; intro a hf
                                refine any_done (by kernel_rfl) ?_
                                refine t_normal ?_
                                refine c_false hf rfl ?_
                                refine c_skip ?_
                                refine b_normal ?_
                                refine t_normal ?_
                                refine c_region ?_
                                refine step_l (st_rd hf (Wn.none rfl) (rd_move hf rfl rfl) hS rfl rfl ?_)
                                clear hf; intro a hf
                                refine step_l (st_rd hf (Wn.none rfl) (rd_add hf rfl rfl rfl (by first | exact Go.IntWalk.i64_in _ (by omega) | exact rfl)) hS rfl rfl ?_)
                                clear hf; intro a hf
                                refine step_l (st_rd hf (Wn.none rfl) (rd_assign hf rfl rfl) hS rfl rfl ?_)
                                clear hf; intro a hf
                                refine done_l ?_
                                refine t_normal ⟨(i + 1, rw2, qq2, cc2, gg2), ((((hf.back (by repeat (first | exact Behind.refl | refine Behind.skip rfl ?_)) hk0).kb hf 10 rfl (by first | rfl | exact int_eq (by omega))).kb hf 9 rfl (by first | rfl | exact int_eq (by omega))).kb hf 6 rfl (by first | rfl | exact int_eq (by omega))), ⟨hS.subA, ⟨by omega, hfb2, hrv2, hbg2⟩⟩, by first | omega | (simp only []; omega)⟩
                                )
                              )
                            )
                          )
                        )
                      )
                    ·
                     clear hf; intro hc60 a hf
                     first
                     | (first | exact Bool.noConfusion hc60 | exact absurd rfl hc60; done)
                     | (
                      refine done_l ?_
                      refine t_normal ?_
                      refine c_false hf rfl ?_
                      refine c_skip ?_
                      refine t_normal ?_
                      refine c_seq ?_
                      refine any_begin mixed hS.drew ?_
                      replace hS := hS.drew
                      have hT := hS
                      refine any_takeA (i := 0) hf rfl (Wn.none rfl) (rd_move hf rfl rfl) hT rfl rfl ?_
                      clear hf; intro a hf
                      refine any_takeA (i := 3) hf rfl (Wn.none rfl) (rd_move hf rfl rfl) hT rfl rfl ?_
                      clear hf; intro a hf
                      refine any_takeA (i := 4) hf rfl (Wn.none rfl) (rd_str hf rfl rfl Try.underlying23 Try.underlying9 Try.underlying5 (by intro _ h; first | exact h.slOfRw (by repeat (first | exact Sel.head | apply Sel.tail)) | exact h.slOfBlkPre (by repeat (first | exact Sel.head | apply Sel.tail)) (bvs_len1 _) | exact h.slOfRw (by repeat (first | exact Sel.head | apply Sel.tail)))) hT rfl rfl ?_
                      clear hf; intro a hf
                      refine any_one (i := 1) rfl (by kernel_rfl) (st_call hf (Wn.none rfl) rfl rfl rfl fn16 (DBytes_c _ _ (frs (byts rw2)) _ (hS.selA) (by omega)) rfl rfl ?_)
                      clear hf hS; rintro v a w ⟨qb1, capb1, rfl, hS⟩ hf
                      replace hT := hS.sub' hT (by repeat (first | exact Sub.refl | exact Sub.none | exact Sub.behind | (apply Sub.cons; (focus ((repeat (first | exact Sel.head | apply Sel.tail)); done))) | apply Sub.skip))
                      refine ⟨hT, ?_⟩
                      refine any_one (i := 2) rfl (by kernel_rfl) (st_rd hf (Wn.none rfl) (rd_str hf rfl rfl Try.underlying23 Try.underlying9 Try.underlying5 (by intro _ h; first | exact h.slOfRw (by repeat (first | exact Sel.head | apply Sel.tail)) | exact h.slOfBlkPre (by repeat (first | exact Sel.head | apply Sel.tail)) (bvs_len1 _) | exact h.slOfRw (by repeat (first | exact Sel.head | apply Sel.tail)))) hS rfl rfl ?_)
                      clear hf; intro a hf
                      refine ⟨hT, ?_⟩
                      refine any_takeB (i := 5) hf rfl (by kernel_rfl) (by kernel_rfl) (by kernel_rfl) (fun _ _ _ _ h => h) (Wn.none rfl) (rd_neqS hf rfl rfl rfl) hT rfl rfl ?_ ?_
                      ·
                       clear hf; intro hc66 a hf
                       exact absurd rfl hc66
                      ·
                       clear hf; intro hc66 a hf
                       first
                       | (first | exact Bool.noConfusion hc66 | exact absurd rfl hc66; done)
                       | (
                        refine any_takeA (i := 6) hf rfl (Wn.none rfl) (rd_move hf rfl rfl) hT rfl rfl ?_
                        clear hf; intro a hf
                        refine any_takeA (i := 7) hf rfl (Wn.some hf rfl rfl rfl rfl) (rd_move hf rfl rfl) hT rfl rfl ?_
                        clear hf; intro a hf
                        refine any_takeA (i := 9) hf rfl (Wn.some hf rfl rfl rfl rfl) (rd_move hf rfl rfl) hT rfl rfl ?_
                        clear hf; intro a hf
                        refine any_takeA (i := 10) hf rfl (Wn.some hf rfl rfl rfl rfl) (rd_len hf rfl rfl Try.underlying23) hT rfl rfl ?_
                        clear hf; intro a hf
                        refine any_one (i := 8) rfl (by kernel_rfl) (st_call hf (Wn.some hf rfl rfl rfl rfl) rfl rfl rfl fn24 (DSure_c _ _ _ _ (hS.selA)) rfl rfl ?_)
                        clear hf hS; rintro v a w ⟨rfl, hS⟩ hf
                        replace hT := hS.sub' hT (by repeat (first | exact Sub.refl | exact Sub.none | exact Sub.behind | (apply Sub.cons; (focus ((repeat (first | exact Sel.head | apply Sel.tail)); done))) | apply Sub.skip))
                        refine ⟨hT, ?_⟩
                        refine any_takeB (i := 11) hf rfl (by kernel_rfl) (by kernel_rfl) (by kernel_rfl) (fun _ _ _ _ h => h) (Wn.some hf rfl rfl rfl rfl) (rd_neq hf rfl rfl rfl) hT rfl rfl ?_ ?_
                        ·
                         clear hf; intro hc67 a hf
                         exact absurd rfl hc67
                        ·
                         clear hf; intro hc67 a hf
                         first
                         | (first | exact Bool.noConfusion hc67 | exact absurd rfl hc67; done)
                         | (
                          refine any_takeA (i := 12) hf rfl (Wn.none rfl) (rd_pick_f hf rfl rfl rfl) hT rfl rfl ?_
                          clear hf; intro a hf
                          refine any_takeA (i := 13) hf rfl (Wn.none rfl) (rd_move hf rfl rfl) hT rfl rfl ?_
                          clear hf; intro a hf
                          refine any_takeA (i := 14) hf rfl (Wn.some hf rfl rfl rfl rfl) (rd_move hf rfl rfl) hT rfl rfl ?_
                          clear hf; intro a hf
                          refine any_takeA (i := 16) hf rfl (Wn.some hf rfl rfl rfl rfl) (rd_move hf rfl rfl) hT rfl rfl ?_
                          clear hf; intro a hf
                          refine any_takeA (i := 17) hf rfl (Wn.some hf rfl rfl rfl rfl) (rd_len hf rfl rfl Try.underlying22) hT rfl rfl ?_
                          clear hf; intro a hf
                          refine any_one (i := 15) rfl (by kernel_rfl) (st_call hf (Wn.some hf rfl rfl rfl rfl) rfl rfl rfl fn22 (WLen_c _ _ _ _ _ _ (hS.sels (.cons (by repeat (first | exact Sel.head | apply Sel.tail)) (.cons (by repeat (first | exact Sel.head | apply Sel.tail)) .nil)))) rfl rfl ?_)
                          clear hf hS; rintro v a w ⟨rfl, hS⟩ hf
                          replace hT := hS.sub' hT (by repeat (first | exact Sub.refl | exact Sub.none | exact Sub.behind | (apply Sub.cons; (focus ((repeat (first | exact Sel.head | apply Sel.tail)); done))) | apply Sub.skip))
                          refine ⟨hT, ?_⟩
                          refine any_takeB (i := 18) hf rfl (by kernel_rfl) (by kernel_rfl) (by kernel_rfl) (fun _ _ _ _ h => h) (Wn.some hf rfl rfl rfl rfl) (rd_neq hf rfl rfl rfl) hT rfl rfl ?_ ?_
                          ·
                           clear hf; intro hc68 a hf
                           exact absurd rfl hc68
                          ·
                           clear hf; intro hc68 a hf
                           first
                           | (first | exact Bool.noConfusion hc68 | exact absurd rfl hc68; done)
                           | (
                            refine any_takeA (i := 19) hf rfl (Wn.none rfl) (rd_pick_f hf rfl rfl rfl) hT rfl rfl ?_
                            clear hf; intro a hf
                            refine any_takeA (i := 20) hf rfl (Wn.none rfl) (rd_move hf rfl rfl) hT rfl rfl ?_
                            clear hf; intro a hf
                            refine any_takeA (i := 21) hf rfl (Wn.some hf rfl rfl rfl rfl) (rd_move hf rfl rfl) hT rfl rfl ?_
                            clear hf; intro a hf
                            refine any_takeA (i := 23) hf rfl (Wn.some hf rfl rfl rfl rfl) (rd_move hf rfl rfl) hT rfl rfl ?_
                            clear hf; intro a hf
                            refine any_takeA (i := 24) hf rfl (Wn.some hf rfl rfl rfl rfl) (rd_len hf rfl rfl Try.underlying23) hT rfl rfl ?_
                            clear hf; intro a hf
                            refine any_one (i := 22) rfl (by kernel_rfl) (st_call hf (Wn.some hf rfl rfl rfl rfl) rfl rfl rfl fn23 (WSize_c _ _ _ _ _ _ (hS.sels (.cons (by repeat (first | exact Sel.head | apply Sel.tail)) (.cons (by repeat (first | exact Sel.head | apply Sel.tail)) .nil)))) rfl rfl ?_)
                            clear hf hS; rintro v a w ⟨rfl, hS⟩ hf
                            replace hT := hS.sub' hT (by repeat (first | exact Sub.refl | exact Sub.none | exact Sub.behind | (apply Sub.cons; (focus ((repeat (first | exact Sel.head | apply Sel.tail)); done))) | apply Sub.skip))
                            refine ⟨hT, ?_⟩
                            refine any_takeB (i := 25) hf rfl (by kernel_rfl) (by kernel_rfl) (by kernel_rfl) (fun _ _ _ _ h => h) (Wn.some hf rfl rfl rfl rfl) (rd_neq hf rfl rfl rfl) hT rfl rfl ?_ ?_
                            ·
                             clear hf; intro hc69 a hf
                             exact absurd rfl hc69
                            ·
                             clear hf; intro hc69 a hf
                             first
                             | (first | exact Bool.noConfusion hc69 | exact absurd rfl hc69; done)
                             | (
                              refine any_takeA (i := 26) hf rfl (Wn.none rfl) (rd_pick_f hf rfl rfl rfl) hT rfl rfl ?_
                              clear hf; intro a hf
                              refine any_takeA (i := 27) hf rfl (Wn.none rfl) (rd_move hf rfl rfl) hT rfl rfl ?_
                              clear hf; intro a hf
                              refine any_takeA (i := 28) hf rfl (Wn.some hf rfl rfl rfl rfl) (rd_move hf rfl rfl) hT rfl rfl ?_
                              clear hf; intro a hf
                              refine any_takeA (i := 30) hf rfl (Wn.some hf rfl rfl rfl rfl) (rd_move hf rfl rfl) hT rfl rfl ?_
                              clear hf; intro a hf
                              refine any_one (i := 29) rfl (by kernel_rfl) (st_call hf (Wn.some hf rfl rfl rfl rfl) rfl rfl rfl fn25 (WRoom_c _ _ _ _ _ _ (hS.sels (.cons (by repeat (first | exact Sel.head | apply Sel.tail)) (.cons (by repeat (first | exact Sel.head | apply Sel.tail)) .nil))) (by omega) (by omega)) rfl rfl ?_)
                              clear hf hS; rintro v a w ⟨rfl, hS⟩ hf
                              replace hT := hS.sub' hT (by repeat (first | exact Sub.refl | exact Sub.none | exact Sub.behind | (apply Sub.cons; (focus ((repeat (first | exact Sel.head | apply Sel.tail)); done))) | apply Sub.skip))
                              refine ⟨hT, ?_⟩
                              refine any_takeB (i := 31) hf rfl (by kernel_rfl) (by kernel_rfl) (by kernel_rfl) (fun _ _ _ _ h => h) (Wn.some hf rfl rfl rfl rfl) (rd_neq hf rfl rfl rfl) hT rfl rfl ?_ ?_
                              ·
                               clear hf; intro hc70 a hf
                               exact absurd (by omega) hc70
                              ·
                               clear hf; intro hc70 a hf
                               first
                               | (first | exact Bool.noConfusion hc70 | exact absurd rfl hc70; done)
                               | (
                                refine any_takeA (i := 32) hf rfl (Wn.none rfl) (rd_pick_f hf rfl rfl rfl) hT rfl rfl ?_
                                clear hf; intro a hf
                                refine any_done (by kernel_rfl) ?_
                                refine t_normal ?_
                                refine c_false hf rfl ?_
                                refine c_skip ?_
                                refine b_normal ?_
                                refine t_normal ?_
                                refine c_region ?_
                                refine step_l (st_rd hf (Wn.none rfl) (rd_move hf rfl rfl) hS rfl rfl ?_)
                                clear hf; intro a hf
                                refine step_l (st_rd hf (Wn.none rfl) (rd_add hf rfl rfl rfl (by first | exact Go.IntWalk.i64_in _ (by omega) | exact rfl)) hS rfl rfl ?_)
                                clear hf; intro a hf
                                refine step_l (st_rd hf (Wn.none rfl) (rd_assign hf rfl rfl) hS rfl rfl ?_)
                                clear hf; intro a hf
                                refine done_l ?_
                                refine t_normal ⟨(i + 1, rw2, qq2, cc2, gg2), ((((hf.back (by repeat (first | exact Behind.refl | refine Behind.skip rfl ?_)) hk0).kb hf 10 rfl (by first | rfl | exact int_eq (by omega))).kb hf 9 rfl (by first | rfl | exact int_eq (by omega))).kb hf 6 rfl (by first | rfl | exact int_eq (by omega))), ⟨hS.subA, ⟨by omega, hfb2, hrv2, hbg2⟩⟩, by first | omega | (simp only []; omega)⟩
                                )
                              )
                            )
                          )
                        )
                      )
                    )
                  )
               )
             )
           )
         ·
          clear hf; intro hc6 a hf
          first
          | (first | exact Bool.noConfusion hc6 | exact absurd rfl hc6; done)
          | (
           refine step_l (st_rd hf (Wn.none rfl) (rd_assign hf rfl rfl) hS rfl rfl ?_)
           clear hf; intro a hf
           refine done_l ?_
           refine t_normal ?_
           refine c_false hf rfl ?_
           refine c_seq ?_
           refine c_region ?_
           refine step_l (st_rdB hf (Wn.none rfl) (rd_eql hf rfl rfl rfl) hS rfl rfl ?_ ?_)
           ·
            clear hf; intro hc71 a hf
            first
            | (first | exact Bool.noConfusion hc71 | exact absurd rfl hc71; done)
            | (
             refine step_l (st_rd hf (Wn.none rfl) (rd_assign hf rfl rfl) hS rfl rfl ?_)
             clear hf; intro a hf
             refine done_l ?_
             refine t_normal ?_
             refine c_true hf rfl ?_
             refine c_seq ?_
             refine c_region ?_
             refine step_l (st_rd hf (Wn.none rfl) (rd_fieldAddrB hf rfl rfl fb53_2 rfl) hS rfl rfl ?_)
             clear hf; intro a hf
             refine step_l (st_rd hf (Wn.none rfl) (rd_load1 hf rfl rfl ag22 (by intro _ h; first | exact h.cell (by repeat (first | exact Sel.head | apply Sel.tail)) (by rfl))) hS rfl rfl ?_)
             clear hf; intro a hf
             refine step_l (st_call hf (Wn.none rfl) rfl rfl rfl fn13 (small_c x.2.2.1.2.2 _ _ _ hS rfl (by omega) (fun _ h => hx4 _ (h.subA))) rfl rfl ?_)
             clear hf hS; rintro v a w ⟨qs1, caps1, rfl, hS⟩ hf; obtain ⟨M, hMM⟩ : ∃ M, M = smallW x.2.2.1.2.2 := ⟨_, rfl⟩; rw [← hMM] at hf hS; have hkM := SmW.of hMM; have hfaM := hkM.all; have hmlM := hkM.len
             refine step_l (st_rd hf (Wn.none rfl) (rd_assign hf rfl rfl) hS rfl rfl ?_)
             clear hf; intro a hf
             refine done_l ?_
             refine t_normal ?_
             refine c_seq ?_
             refine c_region ?_
             refine step_l (st_rd hf (Wn.none rfl) (rd_assign hf rfl rfl) hS rfl rfl ?_)
             clear hf; intro a hf
             refine done_l ?_
             refine t_normal ?_
             refine c_seq ?_
             refine c_seq ?_
             refine c_region ?_
             refine step_l (st_rd hf (Wn.none rfl) (rd_move hf rfl rfl) hS rfl rfl ?_)
             clear hf; intro a hf
             refine step_l (st_call hf (Wn.none rfl) rfl rfl rfl fn28 (size_c M _ _ _ hS rfl (by omega) (by omega) (fun _ h => (BB.sub (hx4 _ (h.subA)) (h.slOfRw (xs := M.map sval) (by repeat (first | exact Sel.head | apply Sel.tail))) hkM.sub))) rfl rfl ?_)
             clear hf hS; rintro v a w ⟨rfl, hS⟩ hf
             refine step_l (st_rd hf (Wn.none rfl) (rd_move hf rfl rfl) hS rfl rfl ?_)
             clear hf; intro a hf
             refine step_l (st_rdB hf (Wn.none rfl) (rd_gtr hf rfl rfl rfl) hS rfl rfl ?_ ?_)
             ·
              clear hf; intro hc72 a hf
              obtain ⟨d1, d2, d3⟩ := dRep_no (b := (frs (byts rows))) (s := (frs (byts rows)).length) hc72; have hif : (if dRepE ((m : Nat) : Int) (frs (byts M)) = 0 then M.length else rows.length) = rows.length := if_neg (by rw [d2]; decide)
              first
              | (first | exact Bool.noConfusion hc72 | exact absurd rfl hc72; done)
              | (
               refine done_l ?_
               refine t_normal ?_
               refine c_true hf rfl ?_
               refine c_region ?_
               refine step_l (st_rd hf (Wn.none rfl) (rd_assign hf rfl rfl) hS rfl rfl ?_)
               clear hf; intro a hf
               refine done_l ?_
               refine t_normal ?_
               refine c_seq ?_
               refine c_region ?_
               refine step_l (st_rd hf (Wn.none rfl) (rd_move hf rfl rfl) hS rfl rfl ?_)
               clear hf; intro a hf
               refine step_l (st_rd hf (Wn.none rfl) (rd_move hf rfl rfl) hS rfl rfl ?_)
               clear hf; intro a hf
               refine step_l (st_call hf (Wn.none rfl) rfl rfl rfl fn27 (WCompact_c _ _ _ _ _ _ M _ _ _ (hS.sels (.cons (by repeat (first | exact Sel.head | apply Sel.tail)) (.cons (by repeat (first | exact Sel.head | apply Sel.tail)) .nil))) (by omega) (by omega) rfl (by omega) (fun z hz => by have := hkM.row z hz; omega) (by omega) (fun _ h => (BB.sub (hx4 _ (h.subA)) (h.slOfRw (xs := M.map sval) (by repeat (first | exact Sel.head | apply Sel.tail))) hkM.sub))) rfl rfl ?_)
               clear hf hS; rintro v a w ⟨rfl, hS⟩ hf; rw [hif, d1, d3] at hS; rw [d2] at hf
               refine step_l (st_rd hf (Wn.none rfl) (rd_move hf rfl rfl) hS rfl rfl ?_)
               clear hf; intro a hf
               refine step_l (st_rdB hf (Wn.none rfl) (rd_neq hf rfl rfl rfl) hS rfl rfl ?_ ?_)
               ·
                clear hf; intro hc73 a hf
                exact absurd rfl hc73
               ·
                clear hf; intro hc73 a hf
                first
                | (first | exact Bool.noConfusion hc73 | exact absurd rfl hc73; done)
                | (
                 refine done_l ?_
                 refine t_normal ?_
                 refine c_false hf rfl ?_
                 refine c_skip ?_
                 refine b_normal ?_
                 refine t_normal ?_
                 refine c_seq ?_
                 obtain ⟨rw2, hrw⟩ : ∃ z : List (Sli UInt8), z = rows := ⟨_, rfl⟩
                 rw [← hrw] at hf hS
                 have hfb2 : (frs (byts rw2)).length ≤ m := by rw [hrw]; exact hfb
                 have hrv2 : ∀ w, Sat W R w → ∀ y ∈ rw2, SlAt w y.1 y.2.2.length 1 (bvs y.2.2) := by rw [hrw]; exact hrv
                 have hbg2 : ∀ z ∈ byts rw2, z.length ≤ 60000 := by rw [hrw]; exact hbg
                 obtain ⟨qq2, hqq⟩ : ∃ z, z = qr := ⟨_, rfl⟩; obtain ⟨cc2, hcc⟩ : ∃ z, z = capr := ⟨_, rfl⟩; obtain ⟨gg2, hgg⟩ : ∃ z, z = g := ⟨_, rfl⟩; rw [← hqq, ← hcc, ← hgg] at hf hS; have hrl2 := frs_ge (byts rw2); rw [byts_len] at hrl2
                 refine c_region ?_
                 refine step_l (st_rd hf (Wn.none rfl) (rd_assign hf rfl rfl) hS rfl rfl ?_)
                 clear hf; intro a hf
                 refine done_l ?_
                 refine t_normal ?_
                 refine c_seq ?_
                 refine c_seq ?_
                 refine c_region ?_
                 refine step_l (st_rd hf (Wn.none rfl) (rd_move hf rfl rfl) hS rfl rfl ?_)
                 clear hf; intro a hf
                 refine step_l (st_rd hf (Wn.none rfl) (rd_len hf rfl rfl Try.underlying22) hS rfl rfl ?_)
                 clear hf; intro a hf
                 refine step_l (st_rd hf (Wn.none rfl) (rd_move hf rfl rfl) hS rfl rfl ?_)
                 clear hf; intro a hf
                 refine done_l ?_
                 refine t_normal ?_
                 refine c_block ?_
                 have hk5 := Keep.of hf [(18, 18), (20, 20), (121, 129)] (by repeat (first | exact Keep.nil | apply Keep.drop rfl | apply Keep.take rfl))
                 refine c_loopK hk5 (α := Nat × Option Addr × Nat) (fun ⟨k, q, cap⟩ => [(18, .slice q (frs ((byts rw2).take k)).length cap), (121, .int .i64 (k : Nat))]) (fun ⟨k, q, cap⟩ w => Sat W (Rw 5 1 q (frs ((byts rw2).take k)).length cap (bvs (frs ((byts rw2).take k))) :: Rw 23 1 qq2 rw2.length cc2 (rw2.map sval) :: Blk gg2 [.pointer (some ⟨pd, 0, none⟩), .int .i64 (rw2.length : Nat)] 59 :: DkP 5 56 pd ((m : Nat) : Int) (frs (byts rw2)) (frs (byts rw2)).length :: R) w ∧ k ≤ rw2.length) (fun ⟨k, q, cap⟩ => rw2.length - k) (0, none, 0) (((hf.keep hk5).kb hf 121 rfl (by first | rfl | exact int_eq (by omega))).kb hf 18 rfl (by first | rfl | exact int_eq (by omega))) ⟨(hS.rwNil 5 1).subA, by omega⟩ ?_
                 clear hf hS; rintro ⟨k, q, cap⟩ a w hf ⟨hS, hkr⟩; (try dsimp only [List.cons_append, List.nil_append] at hf)
                 refine c_seq ?_
                 refine c_region ?_
                 refine step_l (st_rdB hf (Wn.none rfl) (rd_lss hf rfl rfl rfl) hS rfl rfl ?_ ?_)
                 ·
                  clear hf; intro hc74 a hf
                  obtain ⟨y, hget2⟩ := get_of_lt (l := rw2) (k := k) (by omega) rfl; obtain ⟨ad2, rfl⟩ := (hS.slOfRw (xs := rw2.map sval) (by repeat (first | exact Sel.head | apply Sel.tail))).some (by omega); have hfk := frs_le (byts rw2) (k + 1); have hfs2 := congrArg List.length (frs_step hget2); rw [List.length_append, frB_len] at hfs2
                  first
                  | (first | exact Bool.noConfusion hc74 | exact absurd rfl hc74; done)
                  | (
                   refine done_l ?_
                   refine t_normal ?_
                   refine c_seq ?_
                   refine c_true hf rfl ?_
                   refine c_skip ?_
                   refine t_normal ?_
                   refine c_seq ?_
                   refine c_block ?_
                   refine c_seq ?_
                   refine c_region ?_
                   refine step_l (st_rd hf (Wn.none rfl) ((by first | exact rd_indexAddrN1 hf rfl rfl rfl Try.underlying22 sz23 (by omega) | exact rd_indexAddr hf rfl rfl rfl Try.underlying22 sz23 (by first | decide | omega) (by omega))) hS rfl rfl ?_)
                   clear hf; intro a hf
                   refine step_l (st_rd hf (Wn.none rfl) (rd_load1 hf rfl rfl ag23 (by intro _ h; exact (h.slOfRw (xs := rw2.map sval) (by repeat (first | exact Sel.head | apply Sel.tail))).get (u := sval y) (by simp [hget2]))) hS rfl rfl ?_)
                   clear hf; intro a hf
                   refine step_l (st_rd hf (Wn.none rfl) (rd_assign hf rfl rfl) hS rfl rfl ?_)
                   clear hf; intro a hf
                   refine done_l ?_
                   refine t_normal ?_
                   refine c_region ?_
                   refine step_l (st_rd hf (Wn.none rfl) (rd_move hf rfl rfl) hS rfl rfl ?_)
                   clear hf; intro a hf
                   refine step_l (st_rd hf (Wn.none rfl) (rd_move hf rfl rfl) hS rfl rfl ?_)
                   clear hf; intro a hf
                   refine step_l (st_call hf (Wn.none rfl) rfl rfl rfl fn18 (RFrame_c y.2.2 _ _ _ hS rfl (by have := hbg2 _ (List.mem_of_getElem? (byts_get hget2)); omega) (fun _ h => hrv2 _ (h.subA) y (List.mem_of_getElem? hget2))) rfl rfl ?_)
                   clear hf hS; rintro v a w ⟨qf, capf, rfl, hS⟩ hf; have hfl := frB_len y.2.2
                   refine step_l (st_append hf (Wn.none rfl) rfl rfl rfl Try.underlying23 tyb5 (by rfl) (by decide) hS (by repeat (first | exact Sel.head | apply Sel.tail)) (by first | exact hS.slOfBlk (by repeat (first | exact Sel.head | apply Sel.tail)) (by rfl) | exact hS.slOfBlkPre (by repeat (first | exact Sel.head | apply Sel.tail)) (bvs_len1 _) | exact hS.slOfRw (by repeat (first | exact Sel.head | apply Sel.tail)) | exact SlAt.nil _ _ _) (by first | rfl | exact bvs_one _ | (simp [Value.oneCell']; done) | exact svs_one _) (by omega) rfl rfl ?_)
                   clear hf hS; intro pA128 capA128 a w hf hS hnilA
                   refine step_l (st_rd hf (Wn.none rfl) (rd_assign hf rfl rfl) hS rfl rfl ?_)
                   clear hf; intro a hf
                   refine done_l ?_
                   refine b_normal ?_
                   refine t_normal ?_
                   refine c_region ?_
                   refine step_l (st_rd hf (Wn.none rfl) (rd_add hf rfl rfl rfl (by first | exact Go.IntWalk.i64_in _ (by omega) | exact rfl)) hS rfl rfl ?_)
                   clear hf; intro a hf
                   refine step_l (st_rd hf (Wn.none rfl) (rd_move hf rfl rfl) hS rfl rfl ?_)
                   clear hf; intro a hf
                   refine done_l ?_
                   refine t_normal ⟨(k + 1, pA128, capA128), (((hf.back (by repeat (first | exact Behind.refl | refine Behind.skip rfl ?_)) hk5).kb hf 121 rfl (by first | rfl | exact int_eq (by omega))).kb hf 18 rfl (by exact slice_eq (by rw [frs_step hget2, List.length_append]))), ⟨((hS.selA : Sat W (Rw 5 1 pA128 _ capA128 _ :: _) _).rwCast (xs' := bvs (frs ((byts rw2).take (k + 1)))) (len' := (frs ((byts rw2).take (k + 1))).length) (by rw [frs_step hget2]; simp) (by rw [frs_step hget2, List.length_append])).subA, by omega⟩, by first | omega | (simp only []; omega)⟩
                   )
                 ·
                  clear hf; intro hc74 a hf
                  obtain rfl : k = rw2.length := by omega
                  rw [byts_all] at hf hS
                  first
                  | (first | exact Bool.noConfusion hc74 | exact absurd rfl hc74; done)
                  | (
                   refine done_l ?_
                   refine t_normal ?_
                   refine c_seq ?_
                   refine c_false hf rfl ?_
                   refine c_exit ?_
                   refine t_exit ?_
                   refine t_exit ?_
                   refine b_exit ?_
                   refine t_normal ?_
                   refine c_seq ?_
                   refine c_region ?_
                   refine step_l (st_rd hf (Wn.none rfl) (rd_move hf rfl rfl) hS rfl rfl ?_)
                   clear hf; intro a hf
                   refine step_l (st_rd hf (Wn.none rfl) (rd_move hf rfl rfl) hS rfl rfl ?_)
                   clear hf; intro a hf
                   refine step_l (st_rd hf (Wn.none rfl) (rd_len hf rfl rfl Try.underlying23) hS rfl rfl ?_)
                   clear hf; intro a hf
                   refine step_l (st_rd hf (Wn.none rfl) (rd_sub hf rfl rfl rfl (by first | exact Go.IntWalk.i64_in _ (by omega) | exact rfl)) hS rfl rfl ?_)
                   clear hf; intro a hf
                   refine step_l (st_rd hf (Wn.none rfl) (rd_sub hf rfl rfl rfl (by first | exact Go.IntWalk.i64_in _ (by omega) | exact rfl)) hS rfl rfl ?_)
                   clear hf; intro a hf
                   refine step_l (st_rd hf (Wn.none rfl) (rd_min hf rfl rfl rfl) hS rfl rfl ?_)
                   clear hf; intro a hf
                   refine step_l (st_rd hf (Wn.none rfl) (rd_assign hf rfl rfl) hS rfl rfl ?_)
                   clear hf; intro a hf
                   refine done_l ?_
                   refine t_normal ?_
                   refine c_seq ?_
                   refine c_seq ?_
                   refine c_region ?_
                   refine step_l (st_rd hf (Wn.none rfl) (rd_move hf rfl rfl) hS rfl rfl ?_)
                   clear hf; intro a hf
                   refine step_l (st_rdB hf (Wn.none rfl) (rd_lss hf rfl rfl rfl) hS rfl rfl ?_ ?_)
                   ·
                    clear hf; intro hc76 a hf
                    first
                    | (first | exact Bool.noConfusion hc76 | exact absurd rfl hc76; done)
                    | (
                     refine done_l ?_
                     refine t_normal ?_
                     refine c_true hf rfl ?_
                     refine c_region ?_
                     refine step_l (st_rd hf (Wn.none rfl) (rd_assign hf rfl rfl) hS rfl rfl ?_)
                     clear hf; intro a hf
                     refine done_l ?_
                     refine t_normal ?_
                     refine c_seq ?_
                     refine any_begin mixed hS.drew ?_
                     replace hS := hS.drew
                     have hT := hS
                     refine any_takeA (i := 0) hf rfl (Wn.none rfl) (rd_move hf rfl rfl) hT rfl rfl ?_
                     clear hf; intro a hf
                     refine any_takeA (i := 3) hf rfl (Wn.none rfl) (rd_move hf rfl rfl) hT rfl rfl ?_
                     clear hf; intro a hf
                     refine any_takeA (i := 4) hf rfl (Wn.none rfl) (rd_str hf rfl rfl Try.underlying23 Try.underlying9 Try.underlying5 (by intro _ h; first | exact h.slOfRw (by repeat (first | exact Sel.head | apply Sel.tail)) | exact h.slOfBlkPre (by repeat (first | exact Sel.head | apply Sel.tail)) (bvs_len1 _) | exact h.slOfRw (by repeat (first | exact Sel.head | apply Sel.tail)))) hT rfl rfl ?_
                     clear hf; intro a hf
                     refine any_one (i := 1) rfl (by kernel_rfl) (st_call hf (Wn.none rfl) rfl rfl rfl fn16 (DBytes_c _ _ (frs (byts rw2)) _ (hS.selA) (by omega)) rfl rfl ?_)
                     clear hf hS; rintro v a w ⟨qb1, capb1, rfl, hS⟩ hf
                     replace hT := hS.sub' hT (by repeat (first | exact Sub.refl | exact Sub.none | exact Sub.behind | (apply Sub.cons; (focus ((repeat (first | exact Sel.head | apply Sel.tail)); done))) | apply Sub.skip))
                     refine ⟨hT, ?_⟩
                     refine any_one (i := 2) rfl (by kernel_rfl) (st_rd hf (Wn.none rfl) (rd_str hf rfl rfl Try.underlying23 Try.underlying9 Try.underlying5 (by intro _ h; first | exact h.slOfRw (by repeat (first | exact Sel.head | apply Sel.tail)) | exact h.slOfBlkPre (by repeat (first | exact Sel.head | apply Sel.tail)) (bvs_len1 _) | exact h.slOfRw (by repeat (first | exact Sel.head | apply Sel.tail)))) hS rfl rfl ?_)
                     clear hf; intro a hf
                     refine ⟨hT, ?_⟩
                     refine any_takeB (i := 5) hf rfl (by kernel_rfl) (by kernel_rfl) (by kernel_rfl) (fun _ _ _ _ h => h) (Wn.none rfl) (rd_neqS hf rfl rfl rfl) hT rfl rfl ?_ ?_
                     ·
                      clear hf; intro hc77 a hf
                      exact absurd rfl hc77
                     ·
                      clear hf; intro hc77 a hf
                      first
                      | (first | exact Bool.noConfusion hc77 | exact absurd rfl hc77; done)
                      | (
                       refine any_takeA (i := 6) hf rfl (Wn.none rfl) (rd_move hf rfl rfl) hT rfl rfl ?_
                       clear hf; intro a hf
                       refine any_takeA (i := 7) hf rfl (Wn.some hf rfl rfl rfl rfl) (rd_move hf rfl rfl) hT rfl rfl ?_
                       clear hf; intro a hf
                       refine any_takeA (i := 9) hf rfl (Wn.some hf rfl rfl rfl rfl) (rd_move hf rfl rfl) hT rfl rfl ?_
                       clear hf; intro a hf
                       refine any_takeA (i := 10) hf rfl (Wn.some hf rfl rfl rfl rfl) (rd_len hf rfl rfl Try.underlying23) hT rfl rfl ?_
                       clear hf; intro a hf
                       refine any_one (i := 8) rfl (by kernel_rfl) (st_call hf (Wn.some hf rfl rfl rfl rfl) rfl rfl rfl fn24 (DSure_c _ _ _ _ (hS.selA)) rfl rfl ?_)
                       clear hf hS; rintro v a w ⟨rfl, hS⟩ hf
                       replace hT := hS.sub' hT (by repeat (first | exact Sub.refl | exact Sub.none | exact Sub.behind | (apply Sub.cons; (focus ((repeat (first | exact Sel.head | apply Sel.tail)); done))) | apply Sub.skip))
                       refine ⟨hT, ?_⟩
                       refine any_takeB (i := 11) hf rfl (by kernel_rfl) (by kernel_rfl) (by kernel_rfl) (fun _ _ _ _ h => h) (Wn.some hf rfl rfl rfl rfl) (rd_neq hf rfl rfl rfl) hT rfl rfl ?_ ?_
                       ·
                        clear hf; intro hc78 a hf
                        exact absurd rfl hc78
                       ·
                        clear hf; intro hc78 a hf
                        first
                        | (first | exact Bool.noConfusion hc78 | exact absurd rfl hc78; done)
                        | (
                         refine any_takeA (i := 12) hf rfl (Wn.none rfl) (rd_pick_f hf rfl rfl rfl) hT rfl rfl ?_
                         clear hf; intro a hf
                         refine any_takeA (i := 13) hf rfl (Wn.none rfl) (rd_move hf rfl rfl) hT rfl rfl ?_
                         clear hf; intro a hf
                         refine any_takeA (i := 14) hf rfl (Wn.some hf rfl rfl rfl rfl) (rd_move hf rfl rfl) hT rfl rfl ?_
                         clear hf; intro a hf
                         refine any_takeA (i := 16) hf rfl (Wn.some hf rfl rfl rfl rfl) (rd_move hf rfl rfl) hT rfl rfl ?_
                         clear hf; intro a hf
                         refine any_takeA (i := 17) hf rfl (Wn.some hf rfl rfl rfl rfl) (rd_len hf rfl rfl Try.underlying22) hT rfl rfl ?_
                         clear hf; intro a hf
                         refine any_one (i := 15) rfl (by kernel_rfl) (st_call hf (Wn.some hf rfl rfl rfl rfl) rfl rfl rfl fn22 (WLen_c _ _ _ _ _ _ (hS.sels (.cons (by repeat (first | exact Sel.head | apply Sel.tail)) (.cons (by repeat (first | exact Sel.head | apply Sel.tail)) .nil)))) rfl rfl ?_)
                         clear hf hS; rintro v a w ⟨rfl, hS⟩ hf
                         replace hT := hS.sub' hT (by repeat (first | exact Sub.refl | exact Sub.none | exact Sub.behind | (apply Sub.cons; (focus ((repeat (first | exact Sel.head | apply Sel.tail)); done))) | apply Sub.skip))
                         refine ⟨hT, ?_⟩
                         refine any_takeB (i := 18) hf rfl (by kernel_rfl) (by kernel_rfl) (by kernel_rfl) (fun _ _ _ _ h => h) (Wn.some hf rfl rfl rfl rfl) (rd_neq hf rfl rfl rfl) hT rfl rfl ?_ ?_
                         ·
                          clear hf; intro hc79 a hf
                          exact absurd rfl hc79
                         ·
                          clear hf; intro hc79 a hf
                          first
                          | (first | exact Bool.noConfusion hc79 | exact absurd rfl hc79; done)
                          | (
                           refine any_takeA (i := 19) hf rfl (Wn.none rfl) (rd_pick_f hf rfl rfl rfl) hT rfl rfl ?_
                           clear hf; intro a hf
                           refine any_takeA (i := 20) hf rfl (Wn.none rfl) (rd_move hf rfl rfl) hT rfl rfl ?_
                           clear hf; intro a hf
                           refine any_takeA (i := 21) hf rfl (Wn.some hf rfl rfl rfl rfl) (rd_move hf rfl rfl) hT rfl rfl ?_
                           clear hf; intro a hf
                           refine any_takeA (i := 23) hf rfl (Wn.some hf rfl rfl rfl rfl) (rd_move hf rfl rfl) hT rfl rfl ?_
                           clear hf; intro a hf
                           refine any_takeA (i := 24) hf rfl (Wn.some hf rfl rfl rfl rfl) (rd_len hf rfl rfl Try.underlying23) hT rfl rfl ?_
                           clear hf; intro a hf
                           refine any_one (i := 22) rfl (by kernel_rfl) (st_call hf (Wn.some hf rfl rfl rfl rfl) rfl rfl rfl fn23 (WSize_c _ _ _ _ _ _ (hS.sels (.cons (by repeat (first | exact Sel.head | apply Sel.tail)) (.cons (by repeat (first | exact Sel.head | apply Sel.tail)) .nil)))) rfl rfl ?_)
                           clear hf hS; rintro v a w ⟨rfl, hS⟩ hf
                           replace hT := hS.sub' hT (by repeat (first | exact Sub.refl | exact Sub.none | exact Sub.behind | (apply Sub.cons; (focus ((repeat (first | exact Sel.head | apply Sel.tail)); done))) | apply Sub.skip))
                           refine ⟨hT, ?_⟩
                           refine any_takeB (i := 25) hf rfl (by kernel_rfl) (by kernel_rfl) (by kernel_rfl) (fun _ _ _ _ h => h) (Wn.some hf rfl rfl rfl rfl) (rd_neq hf rfl rfl rfl) hT rfl rfl ?_ ?_
                           ·
                            clear hf; intro hc80 a hf
                            exact absurd rfl hc80
                           ·
                            clear hf; intro hc80 a hf
                            first
                            | (first | exact Bool.noConfusion hc80 | exact absurd rfl hc80; done)
                            | (
                             refine any_takeA (i := 26) hf rfl (Wn.none rfl) (rd_pick_f hf rfl rfl rfl) hT rfl rfl ?_
                             clear hf; intro a hf
                             refine any_takeA (i := 27) hf rfl (Wn.none rfl) (rd_move hf rfl rfl) hT rfl rfl ?_
                             clear hf; intro a hf
                             refine any_takeA (i := 28) hf rfl (Wn.some hf rfl rfl rfl rfl) (rd_move hf rfl rfl) hT rfl rfl ?_
                             clear hf; intro a hf
                             refine any_takeA (i := 30) hf rfl (Wn.some hf rfl rfl rfl rfl) (rd_move hf rfl rfl) hT rfl rfl ?_
                             clear hf; intro a hf
                             refine any_one (i := 29) rfl (by kernel_rfl) (st_call hf (Wn.some hf rfl rfl rfl rfl) rfl rfl rfl fn25 (WRoom_c _ _ _ _ _ _ (hS.sels (.cons (by repeat (first | exact Sel.head | apply Sel.tail)) (.cons (by repeat (first | exact Sel.head | apply Sel.tail)) .nil))) (by omega) (by omega)) rfl rfl ?_)
                             clear hf hS; rintro v a w ⟨rfl, hS⟩ hf
                             replace hT := hS.sub' hT (by repeat (first | exact Sub.refl | exact Sub.none | exact Sub.behind | (apply Sub.cons; (focus ((repeat (first | exact Sel.head | apply Sel.tail)); done))) | apply Sub.skip))
                             refine ⟨hT, ?_⟩
                             refine any_takeB (i := 31) hf rfl (by kernel_rfl) (by kernel_rfl) (by kernel_rfl) (fun _ _ _ _ h => h) (Wn.some hf rfl rfl rfl rfl) (rd_neq hf rfl rfl rfl) hT rfl rfl ?_ ?_
                             ·
                              clear hf; intro hc81 a hf
                              exact absurd (by omega) hc81
                             ·
                              clear hf; intro hc81 a hf
                              first
                              | (first | exact Bool.noConfusion hc81 | exact absurd rfl hc81; done)
                              | (
                               refine any_takeA (i := 32) hf rfl (Wn.none rfl) (rd_pick_f hf rfl rfl rfl) hT rfl rfl ?_
                               clear hf; intro a hf
                               refine any_done (by kernel_rfl) ?_
                               refine t_normal ?_
                               refine c_false hf rfl ?_
                               refine c_skip ?_
                               refine b_normal ?_
                               refine t_normal ?_
                               refine c_region ?_
                               refine step_l (st_rd hf (Wn.none rfl) (rd_move hf rfl rfl) hS rfl rfl ?_)
                               clear hf; intro a hf
                               refine step_l (st_rd hf (Wn.none rfl) (rd_add hf rfl rfl rfl (by first | exact Go.IntWalk.i64_in _ (by omega) | exact rfl)) hS rfl rfl ?_)
                               clear hf; intro a hf
                               refine step_l (st_rd hf (Wn.none rfl) (rd_assign hf rfl rfl) hS rfl rfl ?_)
                               clear hf; intro a hf
                               refine done_l ?_
                               refine t_normal ⟨(i + 1, rw2, qq2, cc2, gg2), ((((hf.back (by repeat (first | exact Behind.refl | refine Behind.skip rfl ?_)) hk0).kb hf 10 rfl (by first | rfl | exact int_eq (by omega))).kb hf 9 rfl (by first | rfl | exact int_eq (by omega))).kb hf 6 rfl (by first | rfl | exact int_eq (by omega))), ⟨hS.subA, ⟨by omega, hfb2, hrv2, hbg2⟩⟩, by first | omega | (simp only []; omega)⟩
                               )
                             )
                           )
                         )
                       )
                     )
                   ·
                    clear hf; intro hc76 a hf
                    first
                    | (first | exact Bool.noConfusion hc76 | exact absurd rfl hc76; done)
                    | (
                     refine done_l ?_
                     refine t_normal ?_
                     refine c_false hf rfl ?_
                     refine c_skip ?_
                     refine t_normal ?_
                     refine c_seq ?_
                     refine any_begin mixed hS.drew ?_
                     replace hS := hS.drew
                     have hT := hS
                     refine any_takeA (i := 0) hf rfl (Wn.none rfl) (rd_move hf rfl rfl) hT rfl rfl ?_
                     clear hf; intro a hf
                     refine any_takeA (i := 3) hf rfl (Wn.none rfl) (rd_move hf rfl rfl) hT rfl rfl ?_
                     clear hf; intro a hf
                     refine any_takeA (i := 4) hf rfl (Wn.none rfl) (rd_str hf rfl rfl Try.underlying23 Try.underlying9 Try.underlying5 (by intro _ h; first | exact h.slOfRw (by repeat (first | exact Sel.head | apply Sel.tail)) | exact h.slOfBlkPre (by repeat (first | exact Sel.head | apply Sel.tail)) (bvs_len1 _) | exact h.slOfRw (by repeat (first | exact Sel.head | apply Sel.tail)))) hT rfl rfl ?_
                     clear hf; intro a hf
                     refine any_one (i := 1) rfl (by kernel_rfl) (st_call hf (Wn.none rfl) rfl rfl rfl fn16 (DBytes_c _ _ (frs (byts rw2)) _ (hS.selA) (by omega)) rfl rfl ?_)
                     clear hf hS; rintro v a w ⟨qb1, capb1, rfl, hS⟩ hf
                     replace hT := hS.sub' hT (by repeat (first | exact Sub.refl | exact Sub.none | exact Sub.behind | (apply Sub.cons; (focus ((repeat (first | exact Sel.head | apply Sel.tail)); done))) | apply Sub.skip))
                     refine ⟨hT, ?_⟩
                     refine any_one (i := 2) rfl (by kernel_rfl) (st_rd hf (Wn.none rfl) (rd_str hf rfl rfl Try.underlying23 Try.underlying9 Try.underlying5 (by intro _ h; first | exact h.slOfRw (by repeat (first | exact Sel.head | apply Sel.tail)) | exact h.slOfBlkPre (by repeat (first | exact Sel.head | apply Sel.tail)) (bvs_len1 _) | exact h.slOfRw (by repeat (first | exact Sel.head | apply Sel.tail)))) hS rfl rfl ?_)
                     clear hf; intro a hf
                     refine ⟨hT, ?_⟩
                     refine any_takeB (i := 5) hf rfl (by kernel_rfl) (by kernel_rfl) (by kernel_rfl) (fun _ _ _ _ h => h) (Wn.none rfl) (rd_neqS hf rfl rfl rfl) hT rfl rfl ?_ ?_
                     ·
                      clear hf; intro hc82 a hf
                      exact absurd rfl hc82
                     ·
                      clear hf; intro hc82 a hf
                      first
                      | (first | exact Bool.noConfusion hc82 | exact absurd rfl hc82; done)
                      | (
                       refine any_takeA (i := 6) hf rfl (Wn.none rfl) (rd_move hf rfl rfl) hT rfl rfl ?_
                       clear hf; intro a hf
                       refine any_takeA (i := 7) hf rfl (Wn.some hf rfl rfl rfl rfl) (rd_move hf rfl rfl) hT rfl rfl ?_
                       clear hf; intro a hf
                       refine any_takeA (i := 9) hf rfl (Wn.some hf rfl rfl rfl rfl) (rd_move hf rfl rfl) hT rfl rfl ?_
                       clear hf; intro a hf
                       refine any_takeA (i := 10) hf rfl (Wn.some hf rfl rfl rfl rfl) (rd_len hf rfl rfl Try.underlying23) hT rfl rfl ?_
                       clear hf; intro a hf
                       refine any_one (i := 8) rfl (by kernel_rfl) (st_call hf (Wn.some hf rfl rfl rfl rfl) rfl rfl rfl fn24 (DSure_c _ _ _ _ (hS.selA)) rfl rfl ?_)
                       clear hf hS; rintro v a w ⟨rfl, hS⟩ hf
                       replace hT := hS.sub' hT (by repeat (first | exact Sub.refl | exact Sub.none | exact Sub.behind | (apply Sub.cons; (focus ((repeat (first | exact Sel.head | apply Sel.tail)); done))) | apply Sub.skip))
                       refine ⟨hT, ?_⟩
                       refine any_takeB (i := 11) hf rfl (by kernel_rfl) (by kernel_rfl) (by kernel_rfl) (fun _ _ _ _ h => h) (Wn.some hf rfl rfl rfl rfl) (rd_neq hf rfl rfl rfl) hT rfl rfl ?_ ?_
                       ·
                        clear hf; intro hc83 a hf
                        exact absurd rfl hc83
                       ·
                        clear hf; intro hc83 a hf
                        first
                        | (first | exact Bool.noConfusion hc83 | exact absurd rfl hc83; done)
                        | (
                         refine any_takeA (i := 12) hf rfl (Wn.none rfl) (rd_pick_f hf rfl rfl rfl) hT rfl rfl ?_
                         clear hf; intro a hf
                         refine any_takeA (i := 13) hf rfl (Wn.none rfl) (rd_move hf rfl rfl) hT rfl rfl ?_
                         clear hf; intro a hf
                         refine any_takeA (i := 14) hf rfl (Wn.some hf rfl rfl rfl rfl) (rd_move hf rfl rfl) hT rfl rfl ?_
                         clear hf; intro a hf
                         refine any_takeA (i := 16) hf rfl (Wn.some hf rfl rfl rfl rfl) (rd_move hf rfl rfl) hT rfl rfl ?_
                         clear hf; intro a hf
                         refine any_takeA (i := 17) hf rfl (Wn.some hf rfl rfl rfl rfl) (rd_len hf rfl rfl Try.underlying22) hT rfl rfl ?_
                         clear hf; intro a hf
                         refine any_one (i := 15) rfl (by kernel_rfl) (st_call hf (Wn.some hf rfl rfl rfl rfl) rfl rfl rfl fn22 (WLen_c _ _ _ _ _ _ (hS.sels (.cons (by repeat (first | exact Sel.head | apply Sel.tail)) (.cons (by repeat (first | exact Sel.head | apply Sel.tail)) .nil)))) rfl rfl ?_)
                         clear hf hS; rintro v a w ⟨rfl, hS⟩ hf
                         replace hT := hS.sub' hT (by repeat (first | exact Sub.refl | exact Sub.none | exact Sub.behind | (apply Sub.cons; (focus ((repeat (first | exact Sel.head | apply Sel.tail)); done))) | apply Sub.skip))
                         refine ⟨hT, ?_⟩
                         refine any_takeB (i := 18) hf rfl (by kernel_rfl) (by kernel_rfl) (by kernel_rfl) (fun _ _ _ _ h => h) (Wn.some hf rfl rfl rfl rfl) (rd_neq hf rfl rfl rfl) hT rfl rfl ?_ ?_
                         ·
                          clear hf; intro hc84 a hf
                          exact absurd rfl hc84
                         ·
                          clear hf; intro hc84 a hf
                          first
                          | (first | exact Bool.noConfusion hc84 | exact absurd rfl hc84; done)
                          | (
                           refine any_takeA (i := 19) hf rfl (Wn.none rfl) (rd_pick_f hf rfl rfl rfl) hT rfl rfl ?_
                           clear hf; intro a hf
                           refine any_takeA (i := 20) hf rfl (Wn.none rfl) (rd_move hf rfl rfl) hT rfl rfl ?_
                           clear hf; intro a hf
                           refine any_takeA (i := 21) hf rfl (Wn.some hf rfl rfl rfl rfl) (rd_move hf rfl rfl) hT rfl rfl ?_
                           clear hf; intro a hf
                           refine any_takeA (i := 23) hf rfl (Wn.some hf rfl rfl rfl rfl) (rd_move hf rfl rfl) hT rfl rfl ?_
                           clear hf; intro a hf
                           refine any_takeA (i := 24) hf rfl (Wn.some hf rfl rfl rfl rfl) (rd_len hf rfl rfl Try.underlying23) hT rfl rfl ?_
                           clear hf; intro a hf
                           refine any_one (i := 22) rfl (by kernel_rfl) (st_call hf (Wn.some hf rfl rfl rfl rfl) rfl rfl rfl fn23 (WSize_c _ _ _ _ _ _ (hS.sels (.cons (by repeat (first | exact Sel.head | apply Sel.tail)) (.cons (by repeat (first | exact Sel.head | apply Sel.tail)) .nil)))) rfl rfl ?_)
                           clear hf hS; rintro v a w ⟨rfl, hS⟩ hf
                           replace hT := hS.sub' hT (by repeat (first | exact Sub.refl | exact Sub.none | exact Sub.behind | (apply Sub.cons; (focus ((repeat (first | exact Sel.head | apply Sel.tail)); done))) | apply Sub.skip))
                           refine ⟨hT, ?_⟩
                           refine any_takeB (i := 25) hf rfl (by kernel_rfl) (by kernel_rfl) (by kernel_rfl) (fun _ _ _ _ h => h) (Wn.some hf rfl rfl rfl rfl) (rd_neq hf rfl rfl rfl) hT rfl rfl ?_ ?_
                           ·
                            clear hf; intro hc85 a hf
                            exact absurd rfl hc85
                           ·
                            clear hf; intro hc85 a hf
                            first
                            | (first | exact Bool.noConfusion hc85 | exact absurd rfl hc85; done)
                            | (
                             refine any_takeA (i := 26) hf rfl (Wn.none rfl) (rd_pick_f hf rfl rfl rfl) hT rfl rfl ?_
                             clear hf; intro a hf
                             refine any_takeA (i := 27) hf rfl (Wn.none rfl) (rd_move hf rfl rfl) hT rfl rfl ?_
                             clear hf; intro a hf
                             refine any_takeA (i := 28) hf rfl (Wn.some hf rfl rfl rfl rfl) (rd_move hf rfl rfl) hT rfl rfl ?_
                             clear hf; intro a hf
                             refine any_takeA (i := 30) hf rfl (Wn.some hf rfl rfl rfl rfl) (rd_move hf rfl rfl) hT rfl rfl ?_
                             clear hf; intro a hf
                             refine any_one (i := 29) rfl (by kernel_rfl) (st_call hf (Wn.some hf rfl rfl rfl rfl) rfl rfl rfl fn25 (WRoom_c _ _ _ _ _ _ (hS.sels (.cons (by repeat (first | exact Sel.head | apply Sel.tail)) (.cons (by repeat (first | exact Sel.head | apply Sel.tail)) .nil))) (by omega) (by omega)) rfl rfl ?_)
                             clear hf hS; rintro v a w ⟨rfl, hS⟩ hf
                             replace hT := hS.sub' hT (by repeat (first | exact Sub.refl | exact Sub.none | exact Sub.behind | (apply Sub.cons; (focus ((repeat (first | exact Sel.head | apply Sel.tail)); done))) | apply Sub.skip))
                             refine ⟨hT, ?_⟩
                             refine any_takeB (i := 31) hf rfl (by kernel_rfl) (by kernel_rfl) (by kernel_rfl) (fun _ _ _ _ h => h) (Wn.some hf rfl rfl rfl rfl) (rd_neq hf rfl rfl rfl) hT rfl rfl ?_ ?_
                             ·
                              clear hf; intro hc86 a hf
                              exact absurd (by omega) hc86
                             ·
                              clear hf; intro hc86 a hf
                              first
                              | (first | exact Bool.noConfusion hc86 | exact absurd rfl hc86; done)
                              | (
                               refine any_takeA (i := 32) hf rfl (Wn.none rfl) (rd_pick_f hf rfl rfl rfl) hT rfl rfl ?_
                               clear hf; intro a hf
                               refine any_done (by kernel_rfl) ?_
                               refine t_normal ?_
                               refine c_false hf rfl ?_
                               refine c_skip ?_
                               refine b_normal ?_
                               refine t_normal ?_
                               refine c_region ?_
                               refine step_l (st_rd hf (Wn.none rfl) (rd_move hf rfl rfl) hS rfl rfl ?_)
                               clear hf; intro a hf
                               refine step_l (st_rd hf (Wn.none rfl) (rd_add hf rfl rfl rfl (by first | exact Go.IntWalk.i64_in _ (by omega) | exact rfl)) hS rfl rfl ?_)
                               clear hf; intro a hf
                               refine step_l (st_rd hf (Wn.none rfl) (rd_assign hf rfl rfl) hS rfl rfl ?_)
                               clear hf; intro a hf
                               refine done_l ?_
                               refine t_normal ⟨(i + 1, rw2, qq2, cc2, gg2), ((((hf.back (by repeat (first | exact Behind.refl | refine Behind.skip rfl ?_)) hk0).kb hf 10 rfl (by first | rfl | exact int_eq (by omega))).kb hf 9 rfl (by first | rfl | exact int_eq (by omega))).kb hf 6 rfl (by first | rfl | exact int_eq (by omega))), ⟨hS.subA, ⟨by omega, hfb2, hrv2, hbg2⟩⟩, by first | omega | (simp only []; omega)⟩
                               )
                             )
                           )
                         )
                       )
                     )
                   )
                 )
               )
             ·
              clear hf; intro hc72 a hf
              obtain ⟨d1, d2, d3⟩ := dRep_yes (b := (frs (byts rows))) (s := (frs (byts rows)).length) hc72; have hif : (if dRepE ((m : Nat) : Int) (frs (byts M)) = 0 then M.length else rows.length) = M.length := if_pos d2
              first
              | (first | exact Bool.noConfusion hc72 | exact absurd rfl hc72; done)
              | (
               refine done_l ?_
               refine t_normal ?_
               refine c_false hf rfl ?_
               refine c_region ?_
               refine step_l (st_rd hf (Wn.none rfl) (rd_move hf rfl rfl) hS rfl rfl ?_)
               clear hf; intro a hf
               refine step_l (st_rd hf (Wn.none rfl) (rd_assign hf rfl rfl) hS rfl rfl ?_)
               clear hf; intro a hf
               refine done_l ?_
               refine t_normal ?_
               refine c_seq ?_
               refine c_region ?_
               refine step_l (st_rd hf (Wn.none rfl) (rd_move hf rfl rfl) hS rfl rfl ?_)
               clear hf; intro a hf
               refine step_l (st_rd hf (Wn.none rfl) (rd_move hf rfl rfl) hS rfl rfl ?_)
               clear hf; intro a hf
               refine step_l (st_call hf (Wn.none rfl) rfl rfl rfl fn27 (WCompact_c _ _ _ _ _ _ M _ _ _ (hS.sels (.cons (by repeat (first | exact Sel.head | apply Sel.tail)) (.cons (by repeat (first | exact Sel.head | apply Sel.tail)) .nil))) (by omega) (by omega) rfl (by omega) (fun z hz => by have := hkM.row z hz; omega) (by omega) (fun _ h => (BB.sub (hx4 _ (h.subA)) (h.slOfRw (xs := M.map sval) (by repeat (first | exact Sel.head | apply Sel.tail))) hkM.sub))) rfl rfl ?_)
               clear hf hS; rintro v a w ⟨rfl, hS⟩ hf; rw [hif, d1, d3] at hS; rw [d2] at hf
               refine step_l (st_rd hf (Wn.none rfl) (rd_move hf rfl rfl) hS rfl rfl ?_)
               clear hf; intro a hf
               refine step_l (st_rdB hf (Wn.none rfl) (rd_neq hf rfl rfl rfl) hS rfl rfl ?_ ?_)
               ·
                clear hf; intro hc87 a hf
                exact absurd rfl hc87
               ·
                clear hf; intro hc87 a hf
                first
                | (first | exact Bool.noConfusion hc87 | exact absurd rfl hc87; done)
                | (
                 refine done_l ?_
                 refine t_normal ?_
                 refine c_false hf rfl ?_
                 refine c_skip ?_
                 refine b_normal ?_
                 refine t_normal ?_
                 refine c_seq ?_
                 obtain ⟨rw2, hrw⟩ : ∃ z : List (Sli UInt8), z = M := ⟨_, rfl⟩
                 rw [← hrw] at hf hS
                 have hfb2 : (frs (byts rw2)).length ≤ m := by rw [hrw]; omega
                 have hrv2 : ∀ w, Sat W R w → ∀ y ∈ rw2, SlAt w y.1 y.2.2.length 1 (bvs y.2.2) := by rw [hrw]; exact fun w h y hy => (hx4 w h).row y (hkM.sub y hy)
                 have hbg2 : ∀ z ∈ byts rw2, z.length ≤ 60000 := by rw [hrw]; exact hkM.big
                 obtain ⟨qq2, hqq⟩ : ∃ z, z = qs1 := ⟨_, rfl⟩; obtain ⟨cc2, hcc⟩ : ∃ z, z = caps1 := ⟨_, rfl⟩; obtain ⟨gg2, hgg⟩ : ∃ z, z = g := ⟨_, rfl⟩; rw [← hqq, ← hcc, ← hgg] at hf hS; have hrl2 := frs_ge (byts rw2); rw [byts_len] at hrl2
                 refine c_region ?_
                 refine step_l (st_rd hf (Wn.none rfl) (rd_assign hf rfl rfl) hS rfl rfl ?_)
                 clear hf; intro a hf
                 refine done_l ?_
                 refine t_normal ?_
                 refine c_seq ?_
                 refine c_seq ?_
                 refine c_region ?_
                 refine step_l (st_rd hf (Wn.none rfl) (rd_move hf rfl rfl) hS rfl rfl ?_)
                 clear hf; intro a hf
                 refine step_l (st_rd hf (Wn.none rfl) (rd_len hf rfl rfl Try.underlying22) hS rfl rfl ?_)
                 clear hf; intro a hf
                 refine step_l (st_rd hf (Wn.none rfl) (rd_move hf rfl rfl) hS rfl rfl ?_)
                 clear hf; intro a hf
                 refine done_l ?_
                 refine t_normal ?_
                 refine c_block ?_
                 have hk6 := Keep.of hf [(18, 18), (20, 20), (121, 129)] (by repeat (first | exact Keep.nil | apply Keep.drop rfl | apply Keep.take rfl))
                 refine c_loopK hk6 (α := Nat × Option Addr × Nat) (fun ⟨k, q, cap⟩ => [(18, .slice q (frs ((byts rw2).take k)).length cap), (121, .int .i64 (k : Nat))]) (fun ⟨k, q, cap⟩ w => Sat W (Rw 5 1 q (frs ((byts rw2).take k)).length cap (bvs (frs ((byts rw2).take k))) :: Rw 23 1 qq2 rw2.length cc2 (rw2.map sval) :: Blk gg2 [.pointer (some ⟨pd, 0, none⟩), .int .i64 (rw2.length : Nat)] 59 :: DkP 5 56 pd ((m : Nat) : Int) (frs (byts rw2)) (frs (byts rw2)).length :: R) w ∧ k ≤ rw2.length) (fun ⟨k, q, cap⟩ => rw2.length - k) (0, none, 0) (((hf.keep hk6).kb hf 121 rfl (by first | rfl | exact int_eq (by omega))).kb hf 18 rfl (by first | rfl | exact int_eq (by omega))) ⟨(hS.rwNil 5 1).subA, by omega⟩ ?_
                 clear hf hS; rintro ⟨k, q, cap⟩ a w hf ⟨hS, hkr⟩; (try dsimp only [List.cons_append, List.nil_append] at hf)
                 refine c_seq ?_
                 refine c_region ?_
                 refine step_l (st_rdB hf (Wn.none rfl) (rd_lss hf rfl rfl rfl) hS rfl rfl ?_ ?_)
                 ·
                  clear hf; intro hc88 a hf
                  obtain ⟨y, hget2⟩ := get_of_lt (l := rw2) (k := k) (by omega) rfl; obtain ⟨ad2, rfl⟩ := (hS.slOfRw (xs := rw2.map sval) (by repeat (first | exact Sel.head | apply Sel.tail))).some (by omega); have hfk := frs_le (byts rw2) (k + 1); have hfs2 := congrArg List.length (frs_step hget2); rw [List.length_append, frB_len] at hfs2
                  first
                  | (first | exact Bool.noConfusion hc88 | exact absurd rfl hc88; done)
                  | (
                   refine done_l ?_
                   refine t_normal ?_
                   refine c_seq ?_
                   refine c_true hf rfl ?_
                   refine c_skip ?_
                   refine t_normal ?_
                   refine c_seq ?_
                   refine c_block ?_
                   refine c_seq ?_
                   refine c_region ?_
                   refine step_l (st_rd hf (Wn.none rfl) ((by first | exact rd_indexAddrN1 hf rfl rfl rfl Try.underlying22 sz23 (by omega) | exact rd_indexAddr hf rfl rfl rfl Try.underlying22 sz23 (by first | decide | omega) (by omega))) hS rfl rfl ?_)
                   clear hf; intro a hf
                   refine step_l (st_rd hf (Wn.none rfl) (rd_load1 hf rfl rfl ag23 (by intro _ h; exact (h.slOfRw (xs := rw2.map sval) (by repeat (first | exact Sel.head | apply Sel.tail))).get (u := sval y) (by simp [hget2]))) hS rfl rfl ?_)
                   clear hf; intro a hf
                   refine step_l (st_rd hf (Wn.none rfl) (rd_assign hf rfl rfl) hS rfl rfl ?_)
                   clear hf; intro a hf
                   refine done_l ?_
                   refine t_normal ?_
                   refine c_region ?_
                   refine step_l (st_rd hf (Wn.none rfl) (rd_move hf rfl rfl) hS rfl rfl ?_)
                   clear hf; intro a hf
                   refine step_l (st_rd hf (Wn.none rfl) (rd_move hf rfl rfl) hS rfl rfl ?_)
                   clear hf; intro a hf
                   refine step_l (st_call hf (Wn.none rfl) rfl rfl rfl fn18 (RFrame_c y.2.2 _ _ _ hS rfl (by have := hbg2 _ (List.mem_of_getElem? (byts_get hget2)); omega) (fun _ h => hrv2 _ (h.subA) y (List.mem_of_getElem? hget2))) rfl rfl ?_)
                   clear hf hS; rintro v a w ⟨qf, capf, rfl, hS⟩ hf; have hfl := frB_len y.2.2
                   refine step_l (st_append hf (Wn.none rfl) rfl rfl rfl Try.underlying23 tyb5 (by rfl) (by decide) hS (by repeat (first | exact Sel.head | apply Sel.tail)) (by first | exact hS.slOfBlk (by repeat (first | exact Sel.head | apply Sel.tail)) (by rfl) | exact hS.slOfBlkPre (by repeat (first | exact Sel.head | apply Sel.tail)) (bvs_len1 _) | exact hS.slOfRw (by repeat (first | exact Sel.head | apply Sel.tail)) | exact SlAt.nil _ _ _) (by first | rfl | exact bvs_one _ | (simp [Value.oneCell']; done) | exact svs_one _) (by omega) rfl rfl ?_)
                   clear hf hS; intro pA128 capA128 a w hf hS hnilA
                   refine step_l (st_rd hf (Wn.none rfl) (rd_assign hf rfl rfl) hS rfl rfl ?_)
                   clear hf; intro a hf
                   refine done_l ?_
                   refine b_normal ?_
                   refine t_normal ?_
                   refine c_region ?_
                   refine step_l (st_rd hf (Wn.none rfl) (rd_add hf rfl rfl rfl (by first | exact Go.IntWalk.i64_in _ (by omega) | exact rfl)) hS rfl rfl ?_)
                   clear hf; intro a hf
                   refine step_l (st_rd hf (Wn.none rfl) (rd_move hf rfl rfl) hS rfl rfl ?_)
                   clear hf; intro a hf
                   refine done_l ?_
                   refine t_normal ⟨(k + 1, pA128, capA128), (((hf.back (by repeat (first | exact Behind.refl | refine Behind.skip rfl ?_)) hk6).kb hf 121 rfl (by first | rfl | exact int_eq (by omega))).kb hf 18 rfl (by exact slice_eq (by rw [frs_step hget2, List.length_append]))), ⟨((hS.selA : Sat W (Rw 5 1 pA128 _ capA128 _ :: _) _).rwCast (xs' := bvs (frs ((byts rw2).take (k + 1)))) (len' := (frs ((byts rw2).take (k + 1))).length) (by rw [frs_step hget2]; simp) (by rw [frs_step hget2, List.length_append])).subA, by omega⟩, by first | omega | (simp only []; omega)⟩
                   )
                 ·
                  clear hf; intro hc88 a hf
                  obtain rfl : k = rw2.length := by omega
                  rw [byts_all] at hf hS
                  first
                  | (first | exact Bool.noConfusion hc88 | exact absurd rfl hc88; done)
                  | (
                   refine done_l ?_
                   refine t_normal ?_
                   refine c_seq ?_
                   refine c_false hf rfl ?_
                   refine c_exit ?_
                   refine t_exit ?_
                   refine t_exit ?_
                   refine b_exit ?_
                   refine t_normal ?_
                   refine c_seq ?_
                   refine c_region ?_
                   refine step_l (st_rd hf (Wn.none rfl) (rd_move hf rfl rfl) hS rfl rfl ?_)
                   clear hf; intro a hf
                   refine step_l (st_rd hf (Wn.none rfl) (rd_move hf rfl rfl) hS rfl rfl ?_)
                   clear hf; intro a hf
                   refine step_l (st_rd hf (Wn.none rfl) (rd_len hf rfl rfl Try.underlying23) hS rfl rfl ?_)
                   clear hf; intro a hf
                   refine step_l (st_rd hf (Wn.none rfl) (rd_sub hf rfl rfl rfl (by first | exact Go.IntWalk.i64_in _ (by omega) | exact rfl)) hS rfl rfl ?_)
                   clear hf; intro a hf
                   refine step_l (st_rd hf (Wn.none rfl) (rd_sub hf rfl rfl rfl (by first | exact Go.IntWalk.i64_in _ (by omega) | exact rfl)) hS rfl rfl ?_)
                   clear hf; intro a hf
                   refine step_l (st_rd hf (Wn.none rfl) (rd_min hf rfl rfl rfl) hS rfl rfl ?_)
                   clear hf; intro a hf
                   refine step_l (st_rd hf (Wn.none rfl) (rd_assign hf rfl rfl) hS rfl rfl ?_)
                   clear hf; intro a hf
                   refine done_l ?_
                   refine t_normal ?_
                   refine c_seq ?_
                   refine c_seq ?_
                   refine c_region ?_
                   refine step_l (st_rd hf (Wn.none rfl) (rd_move hf rfl rfl) hS rfl rfl ?_)
                   clear hf; intro a hf
                   refine step_l (st_rdB hf (Wn.none rfl) (rd_lss hf rfl rfl rfl) hS rfl rfl ?_ ?_)
                   ·
                    clear hf; intro hc90 a hf
                    first
                    | (first | exact Bool.noConfusion hc90 | exact absurd rfl hc90; done)
                    | (
                     refine done_l ?_
                     refine t_normal ?_
                     refine c_true hf rfl ?_
                     refine c_region ?_
                     refine step_l (st_rd hf (Wn.none rfl) (rd_assign hf rfl rfl) hS rfl rfl ?_)
                     clear hf; intro a hf
                     refine done_l ?_
                     refine t_normal ?_
                     refine c_seq ?_
                     refine any_begin mixed hS.drew ?_
                     replace hS := hS.drew
                     have hT := hS
                     refine any_takeA (i := 0) hf rfl (Wn.none rfl) (rd_move hf rfl rfl) hT rfl rfl ?_
                     clear hf; intro a hf
                     refine any_takeA (i := 3) hf rfl (Wn.none rfl) (rd_move hf rfl rfl) hT rfl rfl ?_
                     clear hf; intro a hf
                     refine any_takeA (i := 4) hf rfl (Wn.none rfl) (rd_str hf rfl rfl Try.underlying23 Try.underlying9 Try.underlying5 (by intro _ h; first | exact h.slOfRw (by repeat (first | exact Sel.head | apply Sel.tail)) | exact h.slOfBlkPre (by repeat (first | exact Sel.head | apply Sel.tail)) (bvs_len1 _) | exact h.slOfRw (by repeat (first | exact Sel.head | apply Sel.tail)))) hT rfl rfl ?_
                     clear hf; intro a hf
                     refine any_one (i := 1) rfl (by kernel_rfl) (st_call hf (Wn.none rfl) rfl rfl rfl fn16 (DBytes_c _ _ (frs (byts rw2)) _ (hS.selA) (by omega)) rfl rfl ?_)
                     clear hf hS; rintro v a w ⟨qb1, capb1, rfl, hS⟩ hf
                     replace hT := hS.sub' hT (by repeat (first | exact Sub.refl | exact Sub.none | exact Sub.behind | (apply Sub.cons; (focus ((repeat (first | exact Sel.head | apply Sel.tail)); done))) | apply Sub.skip))
                     refine ⟨hT, ?_⟩
                     refine any_one (i := 2) rfl (by kernel_rfl) (st_rd hf (Wn.none rfl) (rd_str hf rfl rfl Try.underlying23 Try.underlying9 Try.underlying5 (by intro _ h; first | exact h.slOfRw (by repeat (first | exact Sel.head | apply Sel.tail)) | exact h.slOfBlkPre (by repeat (first | exact Sel.head | apply Sel.tail)) (bvs_len1 _) | exact h.slOfRw (by repeat (first | exact Sel.head | apply Sel.tail)))) hS rfl rfl ?_)
                     clear hf; intro a hf
                     refine ⟨hT, ?_⟩
                     refine any_takeB (i := 5) hf rfl (by kernel_rfl) (by kernel_rfl) (by kernel_rfl) (fun _ _ _ _ h => h) (Wn.none rfl) (rd_neqS hf rfl rfl rfl) hT rfl rfl ?_ ?_
                     ·
                      clear hf; intro hc91 a hf
                      exact absurd rfl hc91
                     ·
                      clear hf; intro hc91 a hf
                      first
                      | (first | exact Bool.noConfusion hc91 | exact absurd rfl hc91; done)
                      | (
                       refine any_takeA (i := 6) hf rfl (Wn.none rfl) (rd_move hf rfl rfl) hT rfl rfl ?_
                       clear hf; intro a hf
                       refine any_takeA (i := 7) hf rfl (Wn.some hf rfl rfl rfl rfl) (rd_move hf rfl rfl) hT rfl rfl ?_
                       clear hf; intro a hf
                       refine any_takeA (i := 9) hf rfl (Wn.some hf rfl rfl rfl rfl) (rd_move hf rfl rfl) hT rfl rfl ?_
                       clear hf; intro a hf
                       refine any_takeA (i := 10) hf rfl (Wn.some hf rfl rfl rfl rfl) (rd_len hf rfl rfl Try.underlying23) hT rfl rfl ?_
                       clear hf; intro a hf
                       refine any_one (i := 8) rfl (by kernel_rfl) (st_call hf (Wn.some hf rfl rfl rfl rfl) rfl rfl rfl fn24 (DSure_c _ _ _ _ (hS.selA)) rfl rfl ?_)
                       clear hf hS; rintro v a w ⟨rfl, hS⟩ hf
                       replace hT := hS.sub' hT (by repeat (first | exact Sub.refl | exact Sub.none | exact Sub.behind | (apply Sub.cons; (focus ((repeat (first | exact Sel.head | apply Sel.tail)); done))) | apply Sub.skip))
                       refine ⟨hT, ?_⟩
                       refine any_takeB (i := 11) hf rfl (by kernel_rfl) (by kernel_rfl) (by kernel_rfl) (fun _ _ _ _ h => h) (Wn.some hf rfl rfl rfl rfl) (rd_neq hf rfl rfl rfl) hT rfl rfl ?_ ?_
                       ·
                        clear hf; intro hc92 a hf
                        exact absurd rfl hc92
                       ·
                        clear hf; intro hc92 a hf
                        first
                        | (first | exact Bool.noConfusion hc92 | exact absurd rfl hc92; done)
                        | (
                         refine any_takeA (i := 12) hf rfl (Wn.none rfl) (rd_pick_f hf rfl rfl rfl) hT rfl rfl ?_
                         clear hf; intro a hf
                         refine any_takeA (i := 13) hf rfl (Wn.none rfl) (rd_move hf rfl rfl) hT rfl rfl ?_
                         clear hf; intro a hf
                         refine any_takeA (i := 14) hf rfl (Wn.some hf rfl rfl rfl rfl) (rd_move hf rfl rfl) hT rfl rfl ?_
                         clear hf; intro a hf
                         refine any_takeA (i := 16) hf rfl (Wn.some hf rfl rfl rfl rfl) (rd_move hf rfl rfl) hT rfl rfl ?_
                         clear hf; intro a hf
                         refine any_takeA (i := 17) hf rfl (Wn.some hf rfl rfl rfl rfl) (rd_len hf rfl rfl Try.underlying22) hT rfl rfl ?_
                         clear hf; intro a hf
                         refine any_one (i := 15) rfl (by kernel_rfl) (st_call hf (Wn.some hf rfl rfl rfl rfl) rfl rfl rfl fn22 (WLen_c _ _ _ _ _ _ (hS.sels (.cons (by repeat (first | exact Sel.head | apply Sel.tail)) (.cons (by repeat (first | exact Sel.head | apply Sel.tail)) .nil)))) rfl rfl ?_)
                         clear hf hS; rintro v a w ⟨rfl, hS⟩ hf
                         replace hT := hS.sub' hT (by repeat (first | exact Sub.refl | exact Sub.none | exact Sub.behind | (apply Sub.cons; (focus ((repeat (first | exact Sel.head | apply Sel.tail)); done))) | apply Sub.skip))
                         refine ⟨hT, ?_⟩
                         refine any_takeB (i := 18) hf rfl (by kernel_rfl) (by kernel_rfl) (by kernel_rfl) (fun _ _ _ _ h => h) (Wn.some hf rfl rfl rfl rfl) (rd_neq hf rfl rfl rfl) hT rfl rfl ?_ ?_
                         ·
                          clear hf; intro hc93 a hf
                          exact absurd rfl hc93
                         ·
                          clear hf; intro hc93 a hf
                          first
                          | (first | exact Bool.noConfusion hc93 | exact absurd rfl hc93; done)
                          | (
                           refine any_takeA (i := 19) hf rfl (Wn.none rfl) (rd_pick_f hf rfl rfl rfl) hT rfl rfl ?_
                           clear hf; intro a hf
                           refine any_takeA (i := 20) hf rfl (Wn.none rfl) (rd_move hf rfl rfl) hT rfl rfl ?_
                           clear hf; intro a hf
                           refine any_takeA (i := 21) hf rfl (Wn.some hf rfl rfl rfl rfl) (rd_move hf rfl rfl) hT rfl rfl ?_
                           clear hf; intro a hf
                           refine any_takeA (i := 23) hf rfl (Wn.some hf rfl rfl rfl rfl) (rd_move hf rfl rfl) hT rfl rfl ?_
                           clear hf; intro a hf
                           refine any_takeA (i := 24) hf rfl (Wn.some hf rfl rfl rfl rfl) (rd_len hf rfl rfl Try.underlying23) hT rfl rfl ?_
                           clear hf; intro a hf
                           refine any_one (i := 22) rfl (by kernel_rfl) (st_call hf (Wn.some hf rfl rfl rfl rfl) rfl rfl rfl fn23 (WSize_c _ _ _ _ _ _ (hS.sels (.cons (by repeat (first | exact Sel.head | apply Sel.tail)) (.cons (by repeat (first | exact Sel.head | apply Sel.tail)) .nil)))) rfl rfl ?_)
                           clear hf hS; rintro v a w ⟨rfl, hS⟩ hf
                           replace hT := hS.sub' hT (by repeat (first | exact Sub.refl | exact Sub.none | exact Sub.behind | (apply Sub.cons; (focus ((repeat (first | exact Sel.head | apply Sel.tail)); done))) | apply Sub.skip))
                           refine ⟨hT, ?_⟩
                           refine any_takeB (i := 25) hf rfl (by kernel_rfl) (by kernel_rfl) (by kernel_rfl) (fun _ _ _ _ h => h) (Wn.some hf rfl rfl rfl rfl) (rd_neq hf rfl rfl rfl) hT rfl rfl ?_ ?_
                           ·
                            clear hf; intro hc94 a hf
                            exact absurd rfl hc94
                           ·
                            clear hf; intro hc94 a hf
                            first
                            | (first | exact Bool.noConfusion hc94 | exact absurd rfl hc94; done)
                            | (
                             refine any_takeA (i := 26) hf rfl (Wn.none rfl) (rd_pick_f hf rfl rfl rfl) hT rfl rfl ?_
                             clear hf; intro a hf
                             refine any_takeA (i := 27) hf rfl (Wn.none rfl) (rd_move hf rfl rfl) hT rfl rfl ?_
                             clear hf; intro a hf
                             refine any_takeA (i := 28) hf rfl (Wn.some hf rfl rfl rfl rfl) (rd_move hf rfl rfl) hT rfl rfl ?_
                             clear hf; intro a hf
                             refine any_takeA (i := 30) hf rfl (Wn.some hf rfl rfl rfl rfl) (rd_move hf rfl rfl) hT rfl rfl ?_
                             clear hf; intro a hf
                             refine any_one (i := 29) rfl (by kernel_rfl) (st_call hf (Wn.some hf rfl rfl rfl rfl) rfl rfl rfl fn25 (WRoom_c _ _ _ _ _ _ (hS.sels (.cons (by repeat (first | exact Sel.head | apply Sel.tail)) (.cons (by repeat (first | exact Sel.head | apply Sel.tail)) .nil))) (by omega) (by omega)) rfl rfl ?_)
                             clear hf hS; rintro v a w ⟨rfl, hS⟩ hf
                             replace hT := hS.sub' hT (by repeat (first | exact Sub.refl | exact Sub.none | exact Sub.behind | (apply Sub.cons; (focus ((repeat (first | exact Sel.head | apply Sel.tail)); done))) | apply Sub.skip))
                             refine ⟨hT, ?_⟩
                             refine any_takeB (i := 31) hf rfl (by kernel_rfl) (by kernel_rfl) (by kernel_rfl) (fun _ _ _ _ h => h) (Wn.some hf rfl rfl rfl rfl) (rd_neq hf rfl rfl rfl) hT rfl rfl ?_ ?_
                             ·
                              clear hf; intro hc95 a hf
                              exact absurd (by omega) hc95
                             ·
                              clear hf; intro hc95 a hf
                              first
                              | (first | exact Bool.noConfusion hc95 | exact absurd rfl hc95; done)
                              | (
                               refine any_takeA (i := 32) hf rfl (Wn.none rfl) (rd_pick_f hf rfl rfl rfl) hT rfl rfl ?_
                               clear hf; intro a hf
                               refine any_done (by kernel_rfl) ?_
                               refine t_normal ?_
                               refine c_false hf rfl ?_
                               refine c_skip ?_
                               refine b_normal ?_
                               refine t_normal ?_
                               refine c_region ?_
                               refine step_l (st_rd hf (Wn.none rfl) (rd_move hf rfl rfl) hS rfl rfl ?_)
                               clear hf; intro a hf
                               refine step_l (st_rd hf (Wn.none rfl) (rd_add hf rfl rfl rfl (by first | exact Go.IntWalk.i64_in _ (by omega) | exact rfl)) hS rfl rfl ?_)
                               clear hf; intro a hf
                               refine step_l (st_rd hf (Wn.none rfl) (rd_assign hf rfl rfl) hS rfl rfl ?_)
                               clear hf; intro a hf
                               refine done_l ?_
                               refine t_normal ⟨(i + 1, rw2, qq2, cc2, gg2), ((((hf.back (by repeat (first | exact Behind.refl | refine Behind.skip rfl ?_)) hk0).kb hf 10 rfl (by first | rfl | exact int_eq (by omega))).kb hf 9 rfl (by first | rfl | exact int_eq (by omega))).kb hf 6 rfl (by first | rfl | exact int_eq (by omega))), ⟨hS.subA, ⟨by omega, hfb2, hrv2, hbg2⟩⟩, by first | omega | (simp only []; omega)⟩
                               )
                             )
                           )
                         )
                       )
                     )
                   ·
                    clear hf; intro hc90 a hf
                    first
                    | (first | exact Bool.noConfusion hc90 | exact absurd rfl hc90; done)
                    | (
                     refine done_l ?_
                     refine t_normal ?_
                     refine c_false hf rfl ?_
                     refine c_skip ?_
                     refine t_normal ?_
                     refine c_seq ?_
                     refine any_begin mixed hS.drew ?_
                     replace hS := hS.drew
                     have hT := hS
                     refine any_takeA (i := 0) hf rfl (Wn.none rfl) (rd_move hf rfl rfl) hT rfl rfl ?_
                     clear hf; intro a hf
                     refine any_takeA (i := 3) hf rfl (Wn.none rfl) (rd_move hf rfl rfl) hT rfl rfl ?_
                     clear hf; intro a hf
                     refine any_takeA (i := 4) hf rfl (Wn.none rfl) (rd_str hf rfl rfl Try.underlying23 Try.underlying9 Try.underlying5 (by intro _ h; first | exact h.slOfRw (by repeat (first | exact Sel.head | apply Sel.tail)) | exact h.slOfBlkPre (by repeat (first | exact Sel.head | apply Sel.tail)) (bvs_len1 _) | exact h.slOfRw (by repeat (first | exact Sel.head | apply Sel.tail)))) hT rfl rfl ?_
                     clear hf; intro a hf
                     refine any_one (i := 1) rfl (by kernel_rfl) (st_call hf (Wn.none rfl) rfl rfl rfl fn16 (DBytes_c _ _ (frs (byts rw2)) _ (hS.selA) (by omega)) rfl rfl ?_)
                     clear hf hS; rintro v a w ⟨qb1, capb1, rfl, hS⟩ hf
                     replace hT := hS.sub' hT (by repeat (first | exact Sub.refl | exact Sub.none | exact Sub.behind | (apply Sub.cons; (focus ((repeat (first | exact Sel.head | apply Sel.tail)); done))) | apply Sub.skip))
                     refine ⟨hT, ?_⟩
                     refine any_one (i := 2) rfl (by kernel_rfl) (st_rd hf (Wn.none rfl) (rd_str hf rfl rfl Try.underlying23 Try.underlying9 Try.underlying5 (by intro _ h; first | exact h.slOfRw (by repeat (first | exact Sel.head | apply Sel.tail)) | exact h.slOfBlkPre (by repeat (first | exact Sel.head | apply Sel.tail)) (bvs_len1 _) | exact h.slOfRw (by repeat (first | exact Sel.head | apply Sel.tail)))) hS rfl rfl ?_)
                     clear hf; intro a hf
                     refine ⟨hT, ?_⟩
                     refine any_takeB (i := 5) hf rfl (by kernel_rfl) (by kernel_rfl) (by kernel_rfl) (fun _ _ _ _ h => h) (Wn.none rfl) (rd_neqS hf rfl rfl rfl) hT rfl rfl ?_ ?_
                     ·
                      clear hf; intro hc96 a hf
                      exact absurd rfl hc96
                     ·
                      clear hf; intro hc96 a hf
                      first
                      | (first | exact Bool.noConfusion hc96 | exact absurd rfl hc96; done)
                      | (
                       refine any_takeA (i := 6) hf rfl (Wn.none rfl) (rd_move hf rfl rfl) hT rfl rfl ?_
                       clear hf; intro a hf
                       refine any_takeA (i := 7) hf rfl (Wn.some hf rfl rfl rfl rfl) (rd_move hf rfl rfl) hT rfl rfl ?_
                       clear hf; intro a hf
                       refine any_takeA (i := 9) hf rfl (Wn.some hf rfl rfl rfl rfl) (rd_move hf rfl rfl) hT rfl rfl ?_
                       clear hf; intro a hf
                       refine any_takeA (i := 10) hf rfl (Wn.some hf rfl rfl rfl rfl) (rd_len hf rfl rfl Try.underlying23) hT rfl rfl ?_
                       clear hf; intro a hf
                       refine any_one (i := 8) rfl (by kernel_rfl) (st_call hf (Wn.some hf rfl rfl rfl rfl) rfl rfl rfl fn24 (DSure_c _ _ _ _ (hS.selA)) rfl rfl ?_)
                       clear hf hS; rintro v a w ⟨rfl, hS⟩ hf
                       replace hT := hS.sub' hT (by repeat (first | exact Sub.refl | exact Sub.none | exact Sub.behind | (apply Sub.cons; (focus ((repeat (first | exact Sel.head | apply Sel.tail)); done))) | apply Sub.skip))
                       refine ⟨hT, ?_⟩
                       refine any_takeB (i := 11) hf rfl (by kernel_rfl) (by kernel_rfl) (by kernel_rfl) (fun _ _ _ _ h => h) (Wn.some hf rfl rfl rfl rfl) (rd_neq hf rfl rfl rfl) hT rfl rfl ?_ ?_
                       ·
                        clear hf; intro hc97 a hf
                        exact absurd rfl hc97
                       ·
                        clear hf; intro hc97 a hf
                        first
                        | (first | exact Bool.noConfusion hc97 | exact absurd rfl hc97; done)
                        | (
                         refine any_takeA (i := 12) hf rfl (Wn.none rfl) (rd_pick_f hf rfl rfl rfl) hT rfl rfl ?_
                         clear hf; intro a hf
                         refine any_takeA (i := 13) hf rfl (Wn.none rfl) (rd_move hf rfl rfl) hT rfl rfl ?_
                         clear hf; intro a hf
                         refine any_takeA (i := 14) hf rfl (Wn.some hf rfl rfl rfl rfl) (rd_move hf rfl rfl) hT rfl rfl ?_
                         clear hf; intro a hf
                         refine any_takeA (i := 16) hf rfl (Wn.some hf rfl rfl rfl rfl) (rd_move hf rfl rfl) hT rfl rfl ?_
                         clear hf; intro a hf
                         refine any_takeA (i := 17) hf rfl (Wn.some hf rfl rfl rfl rfl) (rd_len hf rfl rfl Try.underlying22) hT rfl rfl ?_
                         clear hf; intro a hf
                         refine any_one (i := 15) rfl (by kernel_rfl) (st_call hf (Wn.some hf rfl rfl rfl rfl) rfl rfl rfl fn22 (WLen_c _ _ _ _ _ _ (hS.sels (.cons (by repeat (first | exact Sel.head | apply Sel.tail)) (.cons (by repeat (first | exact Sel.head | apply Sel.tail)) .nil)))) rfl rfl ?_)
                         clear hf hS; rintro v a w ⟨rfl, hS⟩ hf
                         replace hT := hS.sub' hT (by repeat (first | exact Sub.refl | exact Sub.none | exact Sub.behind | (apply Sub.cons; (focus ((repeat (first | exact Sel.head | apply Sel.tail)); done))) | apply Sub.skip))
                         refine ⟨hT, ?_⟩
                         refine any_takeB (i := 18) hf rfl (by kernel_rfl) (by kernel_rfl) (by kernel_rfl) (fun _ _ _ _ h => h) (Wn.some hf rfl rfl rfl rfl) (rd_neq hf rfl rfl rfl) hT rfl rfl ?_ ?_
                         ·
                          clear hf; intro hc98 a hf
                          exact absurd rfl hc98
                         ·
                          clear hf; intro hc98 a hf
                          first
                          | (first | exact Bool.noConfusion hc98 | exact absurd rfl hc98; done)
                          | (
                           refine any_takeA (i := 19) hf rfl (Wn.none rfl) (rd_pick_f hf rfl rfl rfl) hT rfl rfl ?_
                           clear hf; intro a hf
                           refine any_takeA (i := 20) hf rfl (Wn.none rfl) (rd_move hf rfl rfl) hT rfl rfl ?_
                           clear hf; intro a hf
                           refine any_takeA (i := 21) hf rfl (Wn.some hf rfl rfl rfl rfl) (rd_move hf rfl rfl) hT rfl rfl ?_
                           clear hf; intro a hf
                           refine any_takeA (i := 23) hf rfl (Wn.some hf rfl rfl rfl rfl) (rd_move hf rfl rfl) hT rfl rfl ?_
                           clear hf; intro a hf
                           refine any_takeA (i := 24) hf rfl (Wn.some hf rfl rfl rfl rfl) (rd_len hf rfl rfl Try.underlying23) hT rfl rfl ?_
                           clear hf; intro a hf
                           refine any_one (i := 22) rfl (by kernel_rfl) (st_call hf (Wn.some hf rfl rfl rfl rfl) rfl rfl rfl fn23 (WSize_c _ _ _ _ _ _ (hS.sels (.cons (by repeat (first | exact Sel.head | apply Sel.tail)) (.cons (by repeat (first | exact Sel.head | apply Sel.tail)) .nil)))) rfl rfl ?_)
                           clear hf hS; rintro v a w ⟨rfl, hS⟩ hf
                           replace hT := hS.sub' hT (by repeat (first | exact Sub.refl | exact Sub.none | exact Sub.behind | (apply Sub.cons; (focus ((repeat (first | exact Sel.head | apply Sel.tail)); done))) | apply Sub.skip))
                           refine ⟨hT, ?_⟩
                           refine any_takeB (i := 25) hf rfl (by kernel_rfl) (by kernel_rfl) (by kernel_rfl) (fun _ _ _ _ h => h) (Wn.some hf rfl rfl rfl rfl) (rd_neq hf rfl rfl rfl) hT rfl rfl ?_ ?_
                           ·
                            clear hf; intro hc99 a hf
                            exact absurd rfl hc99
                           ·
                            clear hf; intro hc99 a hf
                            first
                            | (first | exact Bool.noConfusion hc99 | exact absurd rfl hc99; done)
                            | (
                             refine any_takeA (i := 26) hf rfl (Wn.none rfl) (rd_pick_f hf rfl rfl rfl) hT rfl rfl ?_
                             clear hf; intro a hf
                             refine any_takeA (i := 27) hf rfl (Wn.none rfl) (rd_move hf rfl rfl) hT rfl rfl ?_
                             clear hf; intro a hf
                             refine any_takeA (i := 28) hf rfl (Wn.some hf rfl rfl rfl rfl) (rd_move hf rfl rfl) hT rfl rfl ?_
                             clear hf; intro a hf
                             refine any_takeA (i := 30) hf rfl (Wn.some hf rfl rfl rfl rfl) (rd_move hf rfl rfl) hT rfl rfl ?_
                             clear hf; intro a hf
                             refine any_one (i := 29) rfl (by kernel_rfl) (st_call hf (Wn.some hf rfl rfl rfl rfl) rfl rfl rfl fn25 (WRoom_c _ _ _ _ _ _ (hS.sels (.cons (by repeat (first | exact Sel.head | apply Sel.tail)) (.cons (by repeat (first | exact Sel.head | apply Sel.tail)) .nil))) (by omega) (by omega)) rfl rfl ?_)
                             clear hf hS; rintro v a w ⟨rfl, hS⟩ hf
                             replace hT := hS.sub' hT (by repeat (first | exact Sub.refl | exact Sub.none | exact Sub.behind | (apply Sub.cons; (focus ((repeat (first | exact Sel.head | apply Sel.tail)); done))) | apply Sub.skip))
                             refine ⟨hT, ?_⟩
                             refine any_takeB (i := 31) hf rfl (by kernel_rfl) (by kernel_rfl) (by kernel_rfl) (fun _ _ _ _ h => h) (Wn.some hf rfl rfl rfl rfl) (rd_neq hf rfl rfl rfl) hT rfl rfl ?_ ?_
                             ·
                              clear hf; intro hc100 a hf
                              exact absurd (by omega) hc100
                             ·
                              clear hf; intro hc100 a hf
                              first
                              | (first | exact Bool.noConfusion hc100 | exact absurd rfl hc100; done)
                              | (
                               refine any_takeA (i := 32) hf rfl (Wn.none rfl) (rd_pick_f hf rfl rfl rfl) hT rfl rfl ?_
                               clear hf; intro a hf
                               refine any_done (by kernel_rfl) ?_
                               refine t_normal ?_
                               refine c_false hf rfl ?_
                               refine c_skip ?_
                               refine b_normal ?_
                               refine t_normal ?_
                               refine c_region ?_
                               refine step_l (st_rd hf (Wn.none rfl) (rd_move hf rfl rfl) hS rfl rfl ?_)
                               clear hf; intro a hf
                               refine step_l (st_rd hf (Wn.none rfl) (rd_add hf rfl rfl rfl (by first | exact Go.IntWalk.i64_in _ (by omega) | exact rfl)) hS rfl rfl ?_)
                               clear hf; intro a hf
                               refine step_l (st_rd hf (Wn.none rfl) (rd_assign hf rfl rfl) hS rfl rfl ?_)
                               clear hf; intro a hf
                               refine done_l ?_
                               refine t_normal ⟨(i + 1, rw2, qq2, cc2, gg2), ((((hf.back (by repeat (first | exact Behind.refl | refine Behind.skip rfl ?_)) hk0).kb hf 10 rfl (by first | rfl | exact int_eq (by omega))).kb hf 9 rfl (by first | rfl | exact int_eq (by omega))).kb hf 6 rfl (by first | rfl | exact int_eq (by omega))), ⟨hS.subA, ⟨by omega, hfb2, hrv2, hbg2⟩⟩, by first | omega | (simp only []; omega)⟩
                               )
                             )
                           )
                         )
                       )
                     )
                   )
                 )
               )
             )
           ·
            clear hf; intro hc71 a hf
            first
            | (first | exact Bool.noConfusion hc71 | exact absurd rfl hc71; done)
            | (
             refine step_l (st_rd hf (Wn.none rfl) (rd_assign hf rfl rfl) hS rfl rfl ?_)
             clear hf; intro a hf
             refine done_l ?_
             refine t_normal ?_
             refine c_false hf rfl ?_
             refine c_seq ?_
             refine c_region ?_
             refine step_l (st_rd hf (Wn.none rfl) (rd_move hf rfl rfl) hS rfl rfl ?_)
             clear hf; intro a hf
             refine step_l (st_call hf (Wn.none rfl) rfl rfl rfl fn11 (OpenOk_c _ _ (frs (byts rows)) _ (hS.selA) (by omega) (by rw [allB_frs0 _ hbg])) rfl rfl ?_)
             clear hf hS; rintro v a w ⟨g3, q3, cap3, L3, h3, rfl, hS⟩ hf; rw [allB_frs0 _ hbg] at h3; rw [w_frs0 hbg, wS_frs0 hbg] at hS; have hl3 : L3.length = rows.length := (byts_len_eq h3).trans (byts_len rows)
             refine step_l (st_rd hf (Wn.none rfl) (rd_move hf rfl rfl) hS rfl rfl ?_)
             clear hf; intro a hf
             refine step_l (st_rd hf (Wn.none rfl) (rd_extract hf rfl rfl rfl) hS rfl rfl ?_)
             clear hf; intro a hf
             refine step_l (st_rd hf (Wn.none rfl) (rd_extract hf rfl rfl rfl) hS rfl rfl ?_)
             clear hf; intro a hf
             refine step_l (st_rd hf (Wn.none rfl) (rd_extract hf rfl rfl rfl) hS rfl rfl ?_)
             clear hf; intro a hf
             refine step_l (st_rd hf (Wn.none rfl) (rd_assign hf rfl rfl) hS rfl rfl ?_)
             clear hf; intro a hf
             refine step_l (st_rd hf (Wn.none rfl) (rd_assign hf rfl rfl) hS rfl rfl ?_)
             clear hf; intro a hf
             refine step_l (st_rd hf (Wn.none rfl) (rd_assign hf rfl rfl) hS rfl rfl ?_)
             clear hf; intro a hf
             refine done_l ?_
             refine t_normal ?_
             refine c_seq ?_
             refine c_seq ?_
             refine c_region ?_
             refine step_l (st_rd hf (Wn.none rfl) (rd_move hf rfl rfl) hS rfl rfl ?_)
             clear hf; intro a hf
             refine step_l (st_rdB hf (Wn.none rfl) (rd_neq hf rfl rfl rfl) hS rfl rfl ?_ ?_)
             ·
              clear hf; intro hc101 a hf
              exact absurd rfl hc101
             ·
              clear hf; intro hc101 a hf
              first
              | (first | exact Bool.noConfusion hc101 | exact absurd rfl hc101; done)
              | (
               refine step_l (st_rd hf (Wn.none rfl) (rd_move hf rfl rfl) hS rfl rfl ?_)
               clear hf; intro a hf
               refine step_l (st_rd hf (Wn.some hf rfl rfl rfl rfl) (rd_move hf rfl rfl) hS rfl rfl ?_)
               clear hf; intro a hf
               refine step_l (st_rdb hf (Wn.some hf rfl rfl rfl rfl) (rd_eqlNilP hf rfl rfl rfl Try.underlying26) hS rfl rfl ?_ ?_)
               ·
                clear hf; intro hc102 a hf
                first
                | (first | exact Bool.noConfusion hc102 | exact absurd rfl hc102; done)
                | (
                 refine step_l (st_rd hf (Wn.none rfl) (rd_pick_f hf rfl rfl rfl) hS rfl rfl ?_)
                 clear hf; intro a hf
                 refine step_l (st_rd hf (Wn.none rfl) (rd_move hf rfl rfl) hS rfl rfl ?_)
                 clear hf; intro a hf
                 refine step_l (st_skip hf (Wn.some hf rfl rfl rfl rfl) rfl rfl ?_)
                 clear hf; intro a hf
                 refine step_l (st_skip hf (Wn.some hf rfl rfl rfl rfl) rfl rfl ?_)
                 clear hf; intro a hf
                 refine step_l (st_skip hf (Wn.some hf rfl rfl rfl rfl) rfl rfl ?_)
                 clear hf; intro a hf
                 refine step_l (st_skip hf (Wn.some hf rfl rfl rfl rfl) rfl rfl ?_)
                 clear hf; intro a hf
                 refine step_l (st_rd hf (Wn.none rfl) (rd_pick_t hf rfl rfl rfl) hS rfl rfl ?_)
                 clear hf; intro a hf
                 refine done_l ?_
                 refine t_normal ?_
                 refine c_true hf rfl ?_
                 refine c_seq ?_
                 refine c_region ?_
                 refine step_l (st_rd hf (Wn.none rfl) (rd_assign hf rfl rfl) hS rfl rfl ?_)
                 clear hf; intro a hf
                 refine done_l ?_
                 refine t_normal ?_
                 refine c_ret ?_
                 refine t_ret ?_
                 refine b_ret ?_
                 refine t_ret ?_
                 refine b_ret ?_
                 refine t_ret ?_
                 refine t_ret ?_
                 refine b_ret ?_
                 refine t_ret ?_
                 refine e_res1 hf.defers rfl (res_tmp hf rfl .nil) ?_
                 exact ⟨rfl, hS.subA⟩
                 )
               ·
                clear hf; intro hc102 a hf
                first
                | (first | exact Bool.noConfusion hc102 | exact absurd rfl hc102; done)
                | (
                 refine step_l (st_rd hf (Wn.none rfl) (rd_pick_f hf rfl rfl rfl) hS rfl rfl ?_)
                 clear hf; intro a hf
                 refine step_l (st_rd hf (Wn.none rfl) (rd_move hf rfl rfl) hS rfl rfl ?_)
                 clear hf; intro a hf
                 refine step_l (st_rd hf (Wn.some hf rfl rfl rfl rfl) (rd_move hf rfl rfl) hS rfl rfl ?_)
                 clear hf; intro a hf
                 refine step_l (st_rd hf (Wn.some hf rfl rfl rfl rfl) (rd_move hf rfl rfl) hS rfl rfl ?_)
                 clear hf; intro a hf
                 refine step_l (st_call hf (Wn.some hf rfl rfl rfl rfl) rfl rfl rfl fn17 (SameBytes_c L3 _ _ _ rows _ _ _ hS rfl rfl (by omega) (fun _ h => BB.mk (h.slOfRw (xs := L3.map sval) (by repeat (first | exact Sel.head | apply Sel.tail))) (h.rws (L := L3) (by repeat (first | exact Sel.head | apply Sel.tail)))) (fun _ h => BB.mk (h.slOfRw (xs := rows.map sval) (by repeat (first | exact Sel.head | apply Sel.tail))) (hrv _ (h.subA)))) rfl rfl ?_)
                 clear hf hS; rintro v a w ⟨rfl, hS⟩ hf; rw [decide_eq_true h3] at hf; have hlg := (hS.selA : Sat W (Blk g3 [.pointer (some ⟨pd, 0, none⟩), .int .i64 (L3.length : Nat)] 59 :: _) _); rw [hl3] at hS
                 first | refine split_dec (d := 71) hf rfl ?_ ?_ | refine split_bool (d := 71) hf rfl ?_ ?_
                 ·
                  clear hf; intro hc103 hf
                  first
                  | (first | exact Bool.noConfusion hc103 | exact absurd rfl hc103; done)
                  | (
                   refine step_l (st_rd hf (Wn.some hf rfl rfl rfl rfl) (rd_not hf rfl rfl) hS rfl rfl ?_)
                   clear hf; intro a hf
                   refine step_l (st_rd hf (Wn.none rfl) (rd_pick_f hf rfl rfl rfl) hS rfl rfl ?_)
                   clear hf; intro a hf
                   refine done_l ?_
                   refine t_normal ?_
                   refine c_false hf rfl ?_
                   refine c_skip ?_
                   refine t_normal ?_
                   refine c_region ?_
                   refine step_l (st_rd hf (Wn.none rfl) (rd_move hf rfl rfl) hS rfl rfl ?_)
                   clear hf; intro a hf
                   refine step_l (st_rd hf (Wn.none rfl) (rd_assign hf rfl rfl) hS rfl rfl ?_)
                   clear hf; intro a hf
                   refine done_l ?_
                   refine b_normal ?_
                   refine t_normal ?_
                   refine c_seq ?_
                   obtain ⟨rw2, hrw⟩ : ∃ z : List (Sli UInt8), z = rows := ⟨_, rfl⟩
                   rw [← hrw] at hf hS
                   have hfb2 : (frs (byts rw2)).length ≤ m := by rw [hrw]; exact hfb
                   have hrv2 : ∀ w, Sat W R w → ∀ y ∈ rw2, SlAt w y.1 y.2.2.length 1 (bvs y.2.2) := by rw [hrw]; exact hrv
                   have hbg2 : ∀ z ∈ byts rw2, z.length ≤ 60000 := by rw [hrw]; exact hbg
                   obtain ⟨qq2, hqq⟩ : ∃ z, z = qr := ⟨_, rfl⟩; obtain ⟨cc2, hcc⟩ : ∃ z, z = capr := ⟨_, rfl⟩; obtain ⟨gg2, hgg⟩ : ∃ z, z = g3 := ⟨_, rfl⟩; rw [← hqq, ← hcc, ← hgg] at hf hS; have hrl2 := frs_ge (byts rw2); rw [byts_len] at hrl2
                   refine c_region ?_
                   refine step_l (st_rd hf (Wn.none rfl) (rd_assign hf rfl rfl) hS rfl rfl ?_)
                   clear hf; intro a hf
                   refine done_l ?_
                   refine t_normal ?_
                   refine c_seq ?_
                   refine c_seq ?_
                   refine c_region ?_
                   refine step_l (st_rd hf (Wn.none rfl) (rd_move hf rfl rfl) hS rfl rfl ?_)
                   clear hf; intro a hf
                   refine step_l (st_rd hf (Wn.none rfl) (rd_len hf rfl rfl Try.underlying22) hS rfl rfl ?_)
                   clear hf; intro a hf
                   refine step_l (st_rd hf (Wn.none rfl) (rd_move hf rfl rfl) hS rfl rfl ?_)
                   clear hf; intro a hf
                   refine done_l ?_
                   refine t_normal ?_
                   refine c_block ?_
                   have hk7 := Keep.of hf [(18, 18), (20, 20), (121, 129)] (by repeat (first | exact Keep.nil | apply Keep.drop rfl | apply Keep.take rfl))
                   refine c_loopK hk7 (α := Nat × Option Addr × Nat) (fun ⟨k, q, cap⟩ => [(18, .slice q (frs ((byts rw2).take k)).length cap), (121, .int .i64 (k : Nat))]) (fun ⟨k, q, cap⟩ w => Sat W (Rw 5 1 q (frs ((byts rw2).take k)).length cap (bvs (frs ((byts rw2).take k))) :: Rw 23 1 qq2 rw2.length cc2 (rw2.map sval) :: Blk gg2 [.pointer (some ⟨pd, 0, none⟩), .int .i64 (rw2.length : Nat)] 59 :: DkP 5 56 pd ((m : Nat) : Int) (frs (byts rw2)) (frs (byts rw2)).length :: R) w ∧ k ≤ rw2.length) (fun ⟨k, q, cap⟩ => rw2.length - k) (0, none, 0) (((hf.keep hk7).kb hf 121 rfl (by first | rfl | exact int_eq (by omega))).kb hf 18 rfl (by first | rfl | exact int_eq (by omega))) ⟨(hS.rwNil 5 1).subA, by omega⟩ ?_
                   clear hf hS; rintro ⟨k, q, cap⟩ a w hf ⟨hS, hkr⟩; (try dsimp only [List.cons_append, List.nil_append] at hf)
                   refine c_seq ?_
                   refine c_region ?_
                   refine step_l (st_rdB hf (Wn.none rfl) (rd_lss hf rfl rfl rfl) hS rfl rfl ?_ ?_)
                   ·
                    clear hf; intro hc104 a hf
                    obtain ⟨y, hget2⟩ := get_of_lt (l := rw2) (k := k) (by omega) rfl; obtain ⟨ad2, rfl⟩ := (hS.slOfRw (xs := rw2.map sval) (by repeat (first | exact Sel.head | apply Sel.tail))).some (by omega); have hfk := frs_le (byts rw2) (k + 1); have hfs2 := congrArg List.length (frs_step hget2); rw [List.length_append, frB_len] at hfs2
                    first
                    | (first | exact Bool.noConfusion hc104 | exact absurd rfl hc104; done)
                    | (
                     refine done_l ?_
                     refine t_normal ?_
                     refine c_seq ?_
                     refine c_true hf rfl ?_
                     refine c_skip ?_
                     refine t_normal ?_
                     refine c_seq ?_
                     refine c_block ?_
                     refine c_seq ?_
                     refine c_region ?_
                     refine step_l (st_rd hf (Wn.none rfl) ((by first | exact rd_indexAddrN1 hf rfl rfl rfl Try.underlying22 sz23 (by omega) | exact rd_indexAddr hf rfl rfl rfl Try.underlying22 sz23 (by first | decide | omega) (by omega))) hS rfl rfl ?_)
                     clear hf; intro a hf
                     refine step_l (st_rd hf (Wn.none rfl) (rd_load1 hf rfl rfl ag23 (by intro _ h; exact (h.slOfRw (xs := rw2.map sval) (by repeat (first | exact Sel.head | apply Sel.tail))).get (u := sval y) (by simp [hget2]))) hS rfl rfl ?_)
                     clear hf; intro a hf
                     refine step_l (st_rd hf (Wn.none rfl) (rd_assign hf rfl rfl) hS rfl rfl ?_)
                     clear hf; intro a hf
                     refine done_l ?_
                     refine t_normal ?_
                     refine c_region ?_
                     refine step_l (st_rd hf (Wn.none rfl) (rd_move hf rfl rfl) hS rfl rfl ?_)
                     clear hf; intro a hf
                     refine step_l (st_rd hf (Wn.none rfl) (rd_move hf rfl rfl) hS rfl rfl ?_)
                     clear hf; intro a hf
                     refine step_l (st_call hf (Wn.none rfl) rfl rfl rfl fn18 (RFrame_c y.2.2 _ _ _ hS rfl (by have := hbg2 _ (List.mem_of_getElem? (byts_get hget2)); omega) (fun _ h => hrv2 _ (h.subA) y (List.mem_of_getElem? hget2))) rfl rfl ?_)
                     clear hf hS; rintro v a w ⟨qf, capf, rfl, hS⟩ hf; have hfl := frB_len y.2.2
                     refine step_l (st_append hf (Wn.none rfl) rfl rfl rfl Try.underlying23 tyb5 (by rfl) (by decide) hS (by repeat (first | exact Sel.head | apply Sel.tail)) (by first | exact hS.slOfBlk (by repeat (first | exact Sel.head | apply Sel.tail)) (by rfl) | exact hS.slOfBlkPre (by repeat (first | exact Sel.head | apply Sel.tail)) (bvs_len1 _) | exact hS.slOfRw (by repeat (first | exact Sel.head | apply Sel.tail)) | exact SlAt.nil _ _ _) (by first | rfl | exact bvs_one _ | (simp [Value.oneCell']; done) | exact svs_one _) (by omega) rfl rfl ?_)
                     clear hf hS; intro pA128 capA128 a w hf hS hnilA
                     refine step_l (st_rd hf (Wn.none rfl) (rd_assign hf rfl rfl) hS rfl rfl ?_)
                     clear hf; intro a hf
                     refine done_l ?_
                     refine b_normal ?_
                     refine t_normal ?_
                     refine c_region ?_
                     refine step_l (st_rd hf (Wn.none rfl) (rd_add hf rfl rfl rfl (by first | exact Go.IntWalk.i64_in _ (by omega) | exact rfl)) hS rfl rfl ?_)
                     clear hf; intro a hf
                     refine step_l (st_rd hf (Wn.none rfl) (rd_move hf rfl rfl) hS rfl rfl ?_)
                     clear hf; intro a hf
                     refine done_l ?_
                     refine t_normal ⟨(k + 1, pA128, capA128), (((hf.back (by repeat (first | exact Behind.refl | refine Behind.skip rfl ?_)) hk7).kb hf 121 rfl (by first | rfl | exact int_eq (by omega))).kb hf 18 rfl (by exact slice_eq (by rw [frs_step hget2, List.length_append]))), ⟨((hS.selA : Sat W (Rw 5 1 pA128 _ capA128 _ :: _) _).rwCast (xs' := bvs (frs ((byts rw2).take (k + 1)))) (len' := (frs ((byts rw2).take (k + 1))).length) (by rw [frs_step hget2]; simp) (by rw [frs_step hget2, List.length_append])).subA, by omega⟩, by first | omega | (simp only []; omega)⟩
                     )
                   ·
                    clear hf; intro hc104 a hf
                    obtain rfl : k = rw2.length := by omega
                    rw [byts_all] at hf hS
                    first
                    | (first | exact Bool.noConfusion hc104 | exact absurd rfl hc104; done)
                    | (
                     refine done_l ?_
                     refine t_normal ?_
                     refine c_seq ?_
                     refine c_false hf rfl ?_
                     refine c_exit ?_
                     refine t_exit ?_
                     refine t_exit ?_
                     refine b_exit ?_
                     refine t_normal ?_
                     refine c_seq ?_
                     refine c_region ?_
                     refine step_l (st_rd hf (Wn.none rfl) (rd_move hf rfl rfl) hS rfl rfl ?_)
                     clear hf; intro a hf
                     refine step_l (st_rd hf (Wn.none rfl) (rd_move hf rfl rfl) hS rfl rfl ?_)
                     clear hf; intro a hf
                     refine step_l (st_rd hf (Wn.none rfl) (rd_len hf rfl rfl Try.underlying23) hS rfl rfl ?_)
                     clear hf; intro a hf
                     refine step_l (st_rd hf (Wn.none rfl) (rd_sub hf rfl rfl rfl (by first | exact Go.IntWalk.i64_in _ (by omega) | exact rfl)) hS rfl rfl ?_)
                     clear hf; intro a hf
                     refine step_l (st_rd hf (Wn.none rfl) (rd_sub hf rfl rfl rfl (by first | exact Go.IntWalk.i64_in _ (by omega) | exact rfl)) hS rfl rfl ?_)
                     clear hf; intro a hf
                     refine step_l (st_rd hf (Wn.none rfl) (rd_min hf rfl rfl rfl) hS rfl rfl ?_)
                     clear hf; intro a hf
                     refine step_l (st_rd hf (Wn.none rfl) (rd_assign hf rfl rfl) hS rfl rfl ?_)
                     clear hf; intro a hf
                     refine done_l ?_
                     refine t_normal ?_
                     refine c_seq ?_
                     refine c_seq ?_
                     refine c_region ?_
                     refine step_l (st_rd hf (Wn.none rfl) (rd_move hf rfl rfl) hS rfl rfl ?_)
                     clear hf; intro a hf
                     refine step_l (st_rdB hf (Wn.none rfl) (rd_lss hf rfl rfl rfl) hS rfl rfl ?_ ?_)
                     ·
                      clear hf; intro hc106 a hf
                      first
                      | (first | exact Bool.noConfusion hc106 | exact absurd rfl hc106; done)
                      | (
                       refine done_l ?_
                       refine t_normal ?_
                       refine c_true hf rfl ?_
                       refine c_region ?_
                       refine step_l (st_rd hf (Wn.none rfl) (rd_assign hf rfl rfl) hS rfl rfl ?_)
                       clear hf; intro a hf
                       refine done_l ?_
                       refine t_normal ?_
                       refine c_seq ?_
                       refine any_begin mixed hS.drew ?_
                       replace hS := hS.drew
                       have hT := hS
                       refine any_takeA (i := 0) hf rfl (Wn.none rfl) (rd_move hf rfl rfl) hT rfl rfl ?_
                       clear hf; intro a hf
                       refine any_takeA (i := 3) hf rfl (Wn.none rfl) (rd_move hf rfl rfl) hT rfl rfl ?_
                       clear hf; intro a hf
                       refine any_takeA (i := 4) hf rfl (Wn.none rfl) (rd_str hf rfl rfl Try.underlying23 Try.underlying9 Try.underlying5 (by intro _ h; first | exact h.slOfRw (by repeat (first | exact Sel.head | apply Sel.tail)) | exact h.slOfBlkPre (by repeat (first | exact Sel.head | apply Sel.tail)) (bvs_len1 _) | exact h.slOfRw (by repeat (first | exact Sel.head | apply Sel.tail)))) hT rfl rfl ?_
                       clear hf; intro a hf
                       refine any_one (i := 1) rfl (by kernel_rfl) (st_call hf (Wn.none rfl) rfl rfl rfl fn16 (DBytes_c _ _ (frs (byts rw2)) _ (hS.selA) (by omega)) rfl rfl ?_)
                       clear hf hS; rintro v a w ⟨qb1, capb1, rfl, hS⟩ hf
                       replace hT := hS.sub' hT (by repeat (first | exact Sub.refl | exact Sub.none | exact Sub.behind | (apply Sub.cons; (focus ((repeat (first | exact Sel.head | apply Sel.tail)); done))) | apply Sub.skip))
                       refine ⟨hT, ?_⟩
                       refine any_one (i := 2) rfl (by kernel_rfl) (st_rd hf (Wn.none rfl) (rd_str hf rfl rfl Try.underlying23 Try.underlying9 Try.underlying5 (by intro _ h; first | exact h.slOfRw (by repeat (first | exact Sel.head | apply Sel.tail)) | exact h.slOfBlkPre (by repeat (first | exact Sel.head | apply Sel.tail)) (bvs_len1 _) | exact h.slOfRw (by repeat (first | exact Sel.head | apply Sel.tail)))) hS rfl rfl ?_)
                       clear hf; intro a hf
                       refine ⟨hT, ?_⟩
                       refine any_takeB (i := 5) hf rfl (by kernel_rfl) (by kernel_rfl) (by kernel_rfl) (fun _ _ _ _ h => h) (Wn.none rfl) (rd_neqS hf rfl rfl rfl) hT rfl rfl ?_ ?_
                       ·
                        clear hf; intro hc107 a hf
                        exact absurd rfl hc107
                       ·
                        clear hf; intro hc107 a hf
                        first
                        | (first | exact Bool.noConfusion hc107 | exact absurd rfl hc107; done)
                        | (
                         refine any_takeA (i := 6) hf rfl (Wn.none rfl) (rd_move hf rfl rfl) hT rfl rfl ?_
                         clear hf; intro a hf
                         refine any_takeA (i := 7) hf rfl (Wn.some hf rfl rfl rfl rfl) (rd_move hf rfl rfl) hT rfl rfl ?_
                         clear hf; intro a hf
                         refine any_takeA (i := 9) hf rfl (Wn.some hf rfl rfl rfl rfl) (rd_move hf rfl rfl) hT rfl rfl ?_
                         clear hf; intro a hf
                         refine any_takeA (i := 10) hf rfl (Wn.some hf rfl rfl rfl rfl) (rd_len hf rfl rfl Try.underlying23) hT rfl rfl ?_
                         clear hf; intro a hf
                         refine any_one (i := 8) rfl (by kernel_rfl) (st_call hf (Wn.some hf rfl rfl rfl rfl) rfl rfl rfl fn24 (DSure_c _ _ _ _ (hS.selA)) rfl rfl ?_)
                         clear hf hS; rintro v a w ⟨rfl, hS⟩ hf
                         replace hT := hS.sub' hT (by repeat (first | exact Sub.refl | exact Sub.none | exact Sub.behind | (apply Sub.cons; (focus ((repeat (first | exact Sel.head | apply Sel.tail)); done))) | apply Sub.skip))
                         refine ⟨hT, ?_⟩
                         refine any_takeB (i := 11) hf rfl (by kernel_rfl) (by kernel_rfl) (by kernel_rfl) (fun _ _ _ _ h => h) (Wn.some hf rfl rfl rfl rfl) (rd_neq hf rfl rfl rfl) hT rfl rfl ?_ ?_
                         ·
                          clear hf; intro hc108 a hf
                          exact absurd rfl hc108
                         ·
                          clear hf; intro hc108 a hf
                          first
                          | (first | exact Bool.noConfusion hc108 | exact absurd rfl hc108; done)
                          | (
                           refine any_takeA (i := 12) hf rfl (Wn.none rfl) (rd_pick_f hf rfl rfl rfl) hT rfl rfl ?_
                           clear hf; intro a hf
                           refine any_takeA (i := 13) hf rfl (Wn.none rfl) (rd_move hf rfl rfl) hT rfl rfl ?_
                           clear hf; intro a hf
                           refine any_takeA (i := 14) hf rfl (Wn.some hf rfl rfl rfl rfl) (rd_move hf rfl rfl) hT rfl rfl ?_
                           clear hf; intro a hf
                           refine any_takeA (i := 16) hf rfl (Wn.some hf rfl rfl rfl rfl) (rd_move hf rfl rfl) hT rfl rfl ?_
                           clear hf; intro a hf
                           refine any_takeA (i := 17) hf rfl (Wn.some hf rfl rfl rfl rfl) (rd_len hf rfl rfl Try.underlying22) hT rfl rfl ?_
                           clear hf; intro a hf
                           refine any_one (i := 15) rfl (by kernel_rfl) (st_call hf (Wn.some hf rfl rfl rfl rfl) rfl rfl rfl fn22 (WLen_c _ _ _ _ _ _ (hS.sels (.cons (by repeat (first | exact Sel.head | apply Sel.tail)) (.cons (by repeat (first | exact Sel.head | apply Sel.tail)) .nil)))) rfl rfl ?_)
                           clear hf hS; rintro v a w ⟨rfl, hS⟩ hf
                           replace hT := hS.sub' hT (by repeat (first | exact Sub.refl | exact Sub.none | exact Sub.behind | (apply Sub.cons; (focus ((repeat (first | exact Sel.head | apply Sel.tail)); done))) | apply Sub.skip))
                           refine ⟨hT, ?_⟩
                           refine any_takeB (i := 18) hf rfl (by kernel_rfl) (by kernel_rfl) (by kernel_rfl) (fun _ _ _ _ h => h) (Wn.some hf rfl rfl rfl rfl) (rd_neq hf rfl rfl rfl) hT rfl rfl ?_ ?_
                           ·
                            clear hf; intro hc109 a hf
                            exact absurd rfl hc109
                           ·
                            clear hf; intro hc109 a hf
                            first
                            | (first | exact Bool.noConfusion hc109 | exact absurd rfl hc109; done)
                            | (
                             refine any_takeA (i := 19) hf rfl (Wn.none rfl) (rd_pick_f hf rfl rfl rfl) hT rfl rfl ?_
                             clear hf; intro a hf
                             refine any_takeA (i := 20) hf rfl (Wn.none rfl) (rd_move hf rfl rfl) hT rfl rfl ?_
                             clear hf; intro a hf
                             refine any_takeA (i := 21) hf rfl (Wn.some hf rfl rfl rfl rfl) (rd_move hf rfl rfl) hT rfl rfl ?_
                             clear hf; intro a hf
                             refine any_takeA (i := 23) hf rfl (Wn.some hf rfl rfl rfl rfl) (rd_move hf rfl rfl) hT rfl rfl ?_
                             clear hf; intro a hf
                             refine any_takeA (i := 24) hf rfl (Wn.some hf rfl rfl rfl rfl) (rd_len hf rfl rfl Try.underlying23) hT rfl rfl ?_
                             clear hf; intro a hf
                             refine any_one (i := 22) rfl (by kernel_rfl) (st_call hf (Wn.some hf rfl rfl rfl rfl) rfl rfl rfl fn23 (WSize_c _ _ _ _ _ _ (hS.sels (.cons (by repeat (first | exact Sel.head | apply Sel.tail)) (.cons (by repeat (first | exact Sel.head | apply Sel.tail)) .nil)))) rfl rfl ?_)
                             clear hf hS; rintro v a w ⟨rfl, hS⟩ hf
                             replace hT := hS.sub' hT (by repeat (first | exact Sub.refl | exact Sub.none | exact Sub.behind | (apply Sub.cons; (focus ((repeat (first | exact Sel.head | apply Sel.tail)); done))) | apply Sub.skip))
                             refine ⟨hT, ?_⟩
                             refine any_takeB (i := 25) hf rfl (by kernel_rfl) (by kernel_rfl) (by kernel_rfl) (fun _ _ _ _ h => h) (Wn.some hf rfl rfl rfl rfl) (rd_neq hf rfl rfl rfl) hT rfl rfl ?_ ?_
                             ·
                              clear hf; intro hc110 a hf
                              exact absurd rfl hc110
                             ·
                              clear hf; intro hc110 a hf
                              first
                              | (first | exact Bool.noConfusion hc110 | exact absurd rfl hc110; done)
                              | (
                               refine any_takeA (i := 26) hf rfl (Wn.none rfl) (rd_pick_f hf rfl rfl rfl) hT rfl rfl ?_
                               clear hf; intro a hf
                               refine any_takeA (i := 27) hf rfl (Wn.none rfl) (rd_move hf rfl rfl) hT rfl rfl ?_
                               clear hf; intro a hf
                               refine any_takeA (i := 28) hf rfl (Wn.some hf rfl rfl rfl rfl) (rd_move hf rfl rfl) hT rfl rfl ?_
                               clear hf; intro a hf
                               refine any_takeA (i := 30) hf rfl (Wn.some hf rfl rfl rfl rfl) (rd_move hf rfl rfl) hT rfl rfl ?_
                               clear hf; intro a hf
                               refine any_one (i := 29) rfl (by kernel_rfl) (st_call hf (Wn.some hf rfl rfl rfl rfl) rfl rfl rfl fn25 (WRoom_c _ _ _ _ _ _ (hS.sels (.cons (by repeat (first | exact Sel.head | apply Sel.tail)) (.cons (by repeat (first | exact Sel.head | apply Sel.tail)) .nil))) (by omega) (by omega)) rfl rfl ?_)
                               clear hf hS; rintro v a w ⟨rfl, hS⟩ hf
                               replace hT := hS.sub' hT (by repeat (first | exact Sub.refl | exact Sub.none | exact Sub.behind | (apply Sub.cons; (focus ((repeat (first | exact Sel.head | apply Sel.tail)); done))) | apply Sub.skip))
                               refine ⟨hT, ?_⟩
                               refine any_takeB (i := 31) hf rfl (by kernel_rfl) (by kernel_rfl) (by kernel_rfl) (fun _ _ _ _ h => h) (Wn.some hf rfl rfl rfl rfl) (rd_neq hf rfl rfl rfl) hT rfl rfl ?_ ?_
                               ·
                                clear hf; intro hc111 a hf
                                exact absurd (by omega) hc111
                               ·
                                clear hf; intro hc111 a hf
                                first
                                | (first | exact Bool.noConfusion hc111 | exact absurd rfl hc111; done)
                                | (
                                 refine any_takeA (i := 32) hf rfl (Wn.none rfl) (rd_pick_f hf rfl rfl rfl) hT rfl rfl ?_
                                 clear hf; intro a hf
                                 refine any_done (by kernel_rfl) ?_
                                 refine t_normal ?_
                                 refine c_false hf rfl ?_
                                 refine c_skip ?_
                                 refine b_normal ?_
                                 refine t_normal ?_
                                 refine c_region ?_
                                 refine step_l (st_rd hf (Wn.none rfl) (rd_move hf rfl rfl) hS rfl rfl ?_)
                                 clear hf; intro a hf
                                 refine step_l (st_rd hf (Wn.none rfl) (rd_add hf rfl rfl rfl (by first | exact Go.IntWalk.i64_in _ (by omega) | exact rfl)) hS rfl rfl ?_)
                                 clear hf; intro a hf
                                 refine step_l (st_rd hf (Wn.none rfl) (rd_assign hf rfl rfl) hS rfl rfl ?_)
                                 clear hf; intro a hf
                                 refine done_l ?_
                                 refine t_normal ⟨(i + 1, rw2, qq2, cc2, gg2), ((((hf.back (by repeat (first | exact Behind.refl | refine Behind.skip rfl ?_)) hk0).kb hf 10 rfl (by first | rfl | exact int_eq (by omega))).kb hf 9 rfl (by first | rfl | exact int_eq (by omega))).kb hf 6 rfl (by first | rfl | exact int_eq (by omega))), ⟨hS.subA, ⟨by omega, hfb2, hrv2, hbg2⟩⟩, by first | omega | (simp only []; omega)⟩
                                 )
                               )
                             )
                           )
                         )
                       )
                     ·
                      clear hf; intro hc106 a hf
                      first
                      | (first | exact Bool.noConfusion hc106 | exact absurd rfl hc106; done)
                      | (
                       refine done_l ?_
                       refine t_normal ?_
                       refine c_false hf rfl ?_
                       refine c_skip ?_
                       refine t_normal ?_
                       refine c_seq ?_
                       refine any_begin mixed hS.drew ?_
                       replace hS := hS.drew
                       have hT := hS
                       refine any_takeA (i := 0) hf rfl (Wn.none rfl) (rd_move hf rfl rfl) hT rfl rfl ?_
                       clear hf; intro a hf
                       refine any_takeA (i := 3) hf rfl (Wn.none rfl) (rd_move hf rfl rfl) hT rfl rfl ?_
                       clear hf; intro a hf
                       refine any_takeA (i := 4) hf rfl (Wn.none rfl) (rd_str hf rfl rfl Try.underlying23 Try.underlying9 Try.underlying5 (by intro _ h; first | exact h.slOfRw (by repeat (first | exact Sel.head | apply Sel.tail)) | exact h.slOfBlkPre (by repeat (first | exact Sel.head | apply Sel.tail)) (bvs_len1 _) | exact h.slOfRw (by repeat (first | exact Sel.head | apply Sel.tail)))) hT rfl rfl ?_
                       clear hf; intro a hf
                       refine any_one (i := 1) rfl (by kernel_rfl) (st_call hf (Wn.none rfl) rfl rfl rfl fn16 (DBytes_c _ _ (frs (byts rw2)) _ (hS.selA) (by omega)) rfl rfl ?_)
                       clear hf hS; rintro v a w ⟨qb1, capb1, rfl, hS⟩ hf
                       replace hT := hS.sub' hT (by repeat (first | exact Sub.refl | exact Sub.none | exact Sub.behind | (apply Sub.cons; (focus ((repeat (first | exact Sel.head | apply Sel.tail)); done))) | apply Sub.skip))
                       refine ⟨hT, ?_⟩
                       refine any_one (i := 2) rfl (by kernel_rfl) (st_rd hf (Wn.none rfl) (rd_str hf rfl rfl Try.underlying23 Try.underlying9 Try.underlying5 (by intro _ h; first | exact h.slOfRw (by repeat (first | exact Sel.head | apply Sel.tail)) | exact h.slOfBlkPre (by repeat (first | exact Sel.head | apply Sel.tail)) (bvs_len1 _) | exact h.slOfRw (by repeat (first | exact Sel.head | apply Sel.tail)))) hS rfl rfl ?_)
                       clear hf; intro a hf
                       refine ⟨hT, ?_⟩
                       refine any_takeB (i := 5) hf rfl (by kernel_rfl) (by kernel_rfl) (by kernel_rfl) (fun _ _ _ _ h => h) (Wn.none rfl) (rd_neqS hf rfl rfl rfl) hT rfl rfl ?_ ?_
                       ·
                        clear hf; intro hc112 a hf
                        exact absurd rfl hc112
                       ·
                        clear hf; intro hc112 a hf
                        first
                        | (first | exact Bool.noConfusion hc112 | exact absurd rfl hc112; done)
                        | (
                         refine any_takeA (i := 6) hf rfl (Wn.none rfl) (rd_move hf rfl rfl) hT rfl rfl ?_
                         clear hf; intro a hf
                         refine any_takeA (i := 7) hf rfl (Wn.some hf rfl rfl rfl rfl) (rd_move hf rfl rfl) hT rfl rfl ?_
                         clear hf; intro a hf
                         refine any_takeA (i := 9) hf rfl (Wn.some hf rfl rfl rfl rfl) (rd_move hf rfl rfl) hT rfl rfl ?_
                         clear hf; intro a hf
                         refine any_takeA (i := 10) hf rfl (Wn.some hf rfl rfl rfl rfl) (rd_len hf rfl rfl Try.underlying23) hT rfl rfl ?_
                         clear hf; intro a hf
                         refine any_one (i := 8) rfl (by kernel_rfl) (st_call hf (Wn.some hf rfl rfl rfl rfl) rfl rfl rfl fn24 (DSure_c _ _ _ _ (hS.selA)) rfl rfl ?_)
                         clear hf hS; rintro v a w ⟨rfl, hS⟩ hf
                         replace hT := hS.sub' hT (by repeat (first | exact Sub.refl | exact Sub.none | exact Sub.behind | (apply Sub.cons; (focus ((repeat (first | exact Sel.head | apply Sel.tail)); done))) | apply Sub.skip))
                         refine ⟨hT, ?_⟩
                         refine any_takeB (i := 11) hf rfl (by kernel_rfl) (by kernel_rfl) (by kernel_rfl) (fun _ _ _ _ h => h) (Wn.some hf rfl rfl rfl rfl) (rd_neq hf rfl rfl rfl) hT rfl rfl ?_ ?_
                         ·
                          clear hf; intro hc113 a hf
                          exact absurd rfl hc113
                         ·
                          clear hf; intro hc113 a hf
                          first
                          | (first | exact Bool.noConfusion hc113 | exact absurd rfl hc113; done)
                          | (
                           refine any_takeA (i := 12) hf rfl (Wn.none rfl) (rd_pick_f hf rfl rfl rfl) hT rfl rfl ?_
                           clear hf; intro a hf
                           refine any_takeA (i := 13) hf rfl (Wn.none rfl) (rd_move hf rfl rfl) hT rfl rfl ?_
                           clear hf; intro a hf
                           refine any_takeA (i := 14) hf rfl (Wn.some hf rfl rfl rfl rfl) (rd_move hf rfl rfl) hT rfl rfl ?_
                           clear hf; intro a hf
                           refine any_takeA (i := 16) hf rfl (Wn.some hf rfl rfl rfl rfl) (rd_move hf rfl rfl) hT rfl rfl ?_
                           clear hf; intro a hf
                           refine any_takeA (i := 17) hf rfl (Wn.some hf rfl rfl rfl rfl) (rd_len hf rfl rfl Try.underlying22) hT rfl rfl ?_
                           clear hf; intro a hf
                           refine any_one (i := 15) rfl (by kernel_rfl) (st_call hf (Wn.some hf rfl rfl rfl rfl) rfl rfl rfl fn22 (WLen_c _ _ _ _ _ _ (hS.sels (.cons (by repeat (first | exact Sel.head | apply Sel.tail)) (.cons (by repeat (first | exact Sel.head | apply Sel.tail)) .nil)))) rfl rfl ?_)
                           clear hf hS; rintro v a w ⟨rfl, hS⟩ hf
                           replace hT := hS.sub' hT (by repeat (first | exact Sub.refl | exact Sub.none | exact Sub.behind | (apply Sub.cons; (focus ((repeat (first | exact Sel.head | apply Sel.tail)); done))) | apply Sub.skip))
                           refine ⟨hT, ?_⟩
                           refine any_takeB (i := 18) hf rfl (by kernel_rfl) (by kernel_rfl) (by kernel_rfl) (fun _ _ _ _ h => h) (Wn.some hf rfl rfl rfl rfl) (rd_neq hf rfl rfl rfl) hT rfl rfl ?_ ?_
                           ·
                            clear hf; intro hc114 a hf
                            exact absurd rfl hc114
                           ·
                            clear hf; intro hc114 a hf
                            first
                            | (first | exact Bool.noConfusion hc114 | exact absurd rfl hc114; done)
                            | (
                             refine any_takeA (i := 19) hf rfl (Wn.none rfl) (rd_pick_f hf rfl rfl rfl) hT rfl rfl ?_
                             clear hf; intro a hf
                             refine any_takeA (i := 20) hf rfl (Wn.none rfl) (rd_move hf rfl rfl) hT rfl rfl ?_
                             clear hf; intro a hf
                             refine any_takeA (i := 21) hf rfl (Wn.some hf rfl rfl rfl rfl) (rd_move hf rfl rfl) hT rfl rfl ?_
                             clear hf; intro a hf
                             refine any_takeA (i := 23) hf rfl (Wn.some hf rfl rfl rfl rfl) (rd_move hf rfl rfl) hT rfl rfl ?_
                             clear hf; intro a hf
                             refine any_takeA (i := 24) hf rfl (Wn.some hf rfl rfl rfl rfl) (rd_len hf rfl rfl Try.underlying23) hT rfl rfl ?_
                             clear hf; intro a hf
                             refine any_one (i := 22) rfl (by kernel_rfl) (st_call hf (Wn.some hf rfl rfl rfl rfl) rfl rfl rfl fn23 (WSize_c _ _ _ _ _ _ (hS.sels (.cons (by repeat (first | exact Sel.head | apply Sel.tail)) (.cons (by repeat (first | exact Sel.head | apply Sel.tail)) .nil)))) rfl rfl ?_)
                             clear hf hS; rintro v a w ⟨rfl, hS⟩ hf
                             replace hT := hS.sub' hT (by repeat (first | exact Sub.refl | exact Sub.none | exact Sub.behind | (apply Sub.cons; (focus ((repeat (first | exact Sel.head | apply Sel.tail)); done))) | apply Sub.skip))
                             refine ⟨hT, ?_⟩
                             refine any_takeB (i := 25) hf rfl (by kernel_rfl) (by kernel_rfl) (by kernel_rfl) (fun _ _ _ _ h => h) (Wn.some hf rfl rfl rfl rfl) (rd_neq hf rfl rfl rfl) hT rfl rfl ?_ ?_
                             ·
                              clear hf; intro hc115 a hf
                              exact absurd rfl hc115
                             ·
                              clear hf; intro hc115 a hf
                              first
                              | (first | exact Bool.noConfusion hc115 | exact absurd rfl hc115; done)
                              | (
                               refine any_takeA (i := 26) hf rfl (Wn.none rfl) (rd_pick_f hf rfl rfl rfl) hT rfl rfl ?_
                               clear hf; intro a hf
                               refine any_takeA (i := 27) hf rfl (Wn.none rfl) (rd_move hf rfl rfl) hT rfl rfl ?_
                               clear hf; intro a hf
                               refine any_takeA (i := 28) hf rfl (Wn.some hf rfl rfl rfl rfl) (rd_move hf rfl rfl) hT rfl rfl ?_
                               clear hf; intro a hf
                               refine any_takeA (i := 30) hf rfl (Wn.some hf rfl rfl rfl rfl) (rd_move hf rfl rfl) hT rfl rfl ?_
                               clear hf; intro a hf
                               refine any_one (i := 29) rfl (by kernel_rfl) (st_call hf (Wn.some hf rfl rfl rfl rfl) rfl rfl rfl fn25 (WRoom_c _ _ _ _ _ _ (hS.sels (.cons (by repeat (first | exact Sel.head | apply Sel.tail)) (.cons (by repeat (first | exact Sel.head | apply Sel.tail)) .nil))) (by omega) (by omega)) rfl rfl ?_)
                               clear hf hS; rintro v a w ⟨rfl, hS⟩ hf
                               replace hT := hS.sub' hT (by repeat (first | exact Sub.refl | exact Sub.none | exact Sub.behind | (apply Sub.cons; (focus ((repeat (first | exact Sel.head | apply Sel.tail)); done))) | apply Sub.skip))
                               refine ⟨hT, ?_⟩
                               refine any_takeB (i := 31) hf rfl (by kernel_rfl) (by kernel_rfl) (by kernel_rfl) (fun _ _ _ _ h => h) (Wn.some hf rfl rfl rfl rfl) (rd_neq hf rfl rfl rfl) hT rfl rfl ?_ ?_
                               ·
                                clear hf; intro hc116 a hf
                                exact absurd (by omega) hc116
                               ·
                                clear hf; intro hc116 a hf
                                first
                                | (first | exact Bool.noConfusion hc116 | exact absurd rfl hc116; done)
                                | (
                                 refine any_takeA (i := 32) hf rfl (Wn.none rfl) (rd_pick_f hf rfl rfl rfl) hT rfl rfl ?_
                                 clear hf; intro a hf
                                 refine any_done (by kernel_rfl) ?_
                                 refine t_normal ?_
                                 refine c_false hf rfl ?_
                                 refine c_skip ?_
                                 refine b_normal ?_
                                 refine t_normal ?_
                                 refine c_region ?_
                                 refine step_l (st_rd hf (Wn.none rfl) (rd_move hf rfl rfl) hS rfl rfl ?_)
                                 clear hf; intro a hf
                                 refine step_l (st_rd hf (Wn.none rfl) (rd_add hf rfl rfl rfl (by first | exact Go.IntWalk.i64_in _ (by omega) | exact rfl)) hS rfl rfl ?_)
                                 clear hf; intro a hf
                                 refine step_l (st_rd hf (Wn.none rfl) (rd_assign hf rfl rfl) hS rfl rfl ?_)
                                 clear hf; intro a hf
                                 refine done_l ?_
                                 refine t_normal ⟨(i + 1, rw2, qq2, cc2, gg2), ((((hf.back (by repeat (first | exact Behind.refl | refine Behind.skip rfl ?_)) hk0).kb hf 10 rfl (by first | rfl | exact int_eq (by omega))).kb hf 9 rfl (by first | rfl | exact int_eq (by omega))).kb hf 6 rfl (by first | rfl | exact int_eq (by omega))), ⟨hS.subA, ⟨by omega, hfb2, hrv2, hbg2⟩⟩, by first | omega | (simp only []; omega)⟩
                                 )
                               )
                             )
                           )
                         )
                       )
                     )
                   )
                 ·
                  clear hf; intro hc103 hf
                  first
                  | (first | exact Bool.noConfusion hc103 | exact absurd rfl hc103; done)
                  | (
                   refine step_l (st_rd hf (Wn.some hf rfl rfl rfl rfl) (rd_not hf rfl rfl) hS rfl rfl ?_)
                   clear hf; intro a hf
                   refine step_l (st_rd hf (Wn.none rfl) (rd_pick_f hf rfl rfl rfl) hS rfl rfl ?_)
                   clear hf; intro a hf
                   refine done_l ?_
                   refine t_normal ?_
                   refine c_true hf rfl ?_
                   refine c_seq ?_
                   refine c_region ?_
                   refine step_l (st_rd hf (Wn.none rfl) (rd_assign hf rfl rfl) hS rfl rfl ?_)
                   clear hf; intro a hf
                   refine done_l ?_
                   refine t_normal ?_
                   refine c_ret ?_
                   refine t_ret ?_
                   refine b_ret ?_
                   refine t_ret ?_
                   refine b_ret ?_
                   refine t_ret ?_
                   refine t_ret ?_
                   refine b_ret ?_
                   refine t_ret ?_
                   refine e_res1 hf.defers rfl (res_tmp hf rfl .nil) ?_
                   exact ⟨rfl, hS.subA⟩
                   )
                 )
               )
             )
           )
         )
       ·
        clear hf; intro hc4 a hf
        first
        | (first | exact Bool.noConfusion hc4 | exact absurd rfl hc4; done)
        | (
         refine step_l (st_rd hf (Wn.none rfl) (rd_pick_t hf rfl rfl rfl) hS rfl rfl ?_)
         clear hf; intro a hf
         refine done_l ?_
         refine t_normal ?_
         refine c_false hf rfl ?_
         refine c_exit ?_
         refine t_exit ?_
         refine t_exit ?_
         refine b_exit ?_
         refine t_normal ?_
         refine c_seq ?_
         refine c_region ?_
         refine step_l (st_call hf (Wn.none rfl) rfl rfl rfl fn12 (awake_c hS) rfl rfl ?_)
         clear hf hS; rintro v a w ⟨rfl, hS⟩ hf
         refine step_l (st_rd hf (Wn.none rfl) (rd_assign hf rfl rfl) hS rfl rfl ?_)
         clear hf; intro a hf
         refine done_l ?_
         refine t_normal ?_
         refine c_ret ?_
         refine e_res1 hf.defers rfl (res_tmp hf rfl .nil) ?_
         exact ⟨rfl, hS.subA⟩
         )
       )
     ·
      clear hf; intro hc3 a hf
      first
      | (first | exact Bool.noConfusion hc3 | exact absurd rfl hc3; done)
      | (
       refine step_l (st_rd hf (Wn.none rfl) (rd_move hf rfl rfl) hS rfl rfl ?_)
       clear hf; intro a hf
       refine step_l (st_skip hf (Wn.some hf rfl rfl rfl rfl) rfl rfl ?_)
       clear hf; intro a hf
       refine step_l (st_skip hf (Wn.some hf rfl rfl rfl rfl) rfl rfl ?_)
       clear hf; intro a hf
       refine step_l (st_rd hf (Wn.none rfl) (rd_pick_f hf rfl rfl rfl) hS rfl rfl ?_)
       clear hf; intro a hf
       refine done_l ?_
       refine t_normal ?_
       refine c_false hf rfl ?_
       refine c_exit ?_
       refine t_exit ?_
       refine t_exit ?_
       refine b_exit ?_
       refine t_normal ?_
       refine c_seq ?_
       refine c_region ?_
       refine step_l (st_call hf (Wn.none rfl) rfl rfl rfl fn12 (awake_c hS) rfl rfl ?_)
       clear hf hS; rintro v a w ⟨rfl, hS⟩ hf
       refine step_l (st_rd hf (Wn.none rfl) (rd_assign hf rfl rfl) hS rfl rfl ?_)
       clear hf; intro a hf
       refine done_l ?_
       refine t_normal ?_
       refine c_ret ?_
       refine e_res1 hf.defers rfl (res_tmp hf rfl .nil) ?_
       exact ⟨rfl, hS.subA⟩
       )
     )
   )

end Go.Proofs.Ytiibgekphgmjcaa
