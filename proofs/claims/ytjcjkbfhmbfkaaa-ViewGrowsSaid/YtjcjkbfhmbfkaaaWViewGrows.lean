/-
  The statement ViewGrows, walked.
  Conditions: none.
-/
import Derived.Test.YtjcjkbfhmbfkaaaView3
namespace Go.Proofs.Ytjcjkbfhmbfkaaa
open Go Go.Sl
set_option linter.unusedVariables false
set_option linter.unusedSimpArgs false
theorem ag42 : aggO Try.prog 42 = some true := by kernel_rfl
theorem fn14 : fnB Try.prog 14 = true := by kernel_rfl
theorem fn19 : fnB Try.prog 19 = true := by kernel_rfl
theorem fn20 : fnB Try.prog 20 = true := by kernel_rfl
theorem fn21 : fnB Try.prog 21 = true := by kernel_rfl
theorem fn22 : fnB Try.prog 22 = true := by kernel_rfl
theorem fn24 : fnB Try.prog 24 = true := by kernel_rfl
theorem sz42 : (Try.prog.info? 42).map (·.size) = some 3 := by kernel_rfl
set_option maxRecDepth 100000 in
set_option maxHeartbeats 4000000 in
theorem ViewGrows_c (nodes self : Int) (l : List VCall) (ql : Option Addr) (capl : Nat) {W : World} {R : List HP} {w : World} (hS : Sat W (R) w) (hll : ∀ x ∈ l, VcOk W R x) (hvl : ∀ w, Sat W R w → SlAt w ql l.length 3 (l.flatMap vcC)) (hnl : l.length ≤ 9223372036854775807) : Calls Try.prog 9 [.int .i64 nodes, .int .i64 self, .slice ql l.length capl].toArray w (Ret fun v w' => v = .bool true ∧ Sat W R w') := by
  refine fn_start 158 Try.func9 rfl rfl rfl ?_
  intro a hf
  refine c_seq ?_
  refine c_region ?_
  refine step_l (st_rd hf (Wn.none rfl) (rd_assign hf rfl rfl) hS rfl rfl ?_)
  clear hf; intro a hf
  refine done_l ?_
  refine t_normal ?_
  refine c_seq ?_
  refine c_region ?_
  refine step_l (st_rd hf (Wn.none rfl) (rd_move hf rfl rfl) hS rfl rfl ?_)
  clear hf; intro a hf
  refine step_l (st_rd hf (Wn.none rfl) (rd_convInt hf rfl rfl Try.underlying3 Try.underlying23 rfl) hS rfl rfl ?_)
  clear hf; intro a hf
  refine step_l (st_rd hf (Wn.none rfl) (rd_rem hf rfl rfl rfl (by first | decide | omega) (u64mod (m := 8) nodes (by decide))) hS rfl rfl ?_)
  clear hf; intro a hf
  refine step_l (st_rd hf (Wn.none rfl) (rd_convInt hf rfl rfl Try.underlying23 Try.underlying3 (Go.IntWalk.i64_in _ (by omega))) hS rfl rfl ?_)
  clear hf; intro a hf
  refine step_l (st_rd hf (Wn.none rfl) (rd_add hf rfl rfl rfl (i64_add1 (by omega))) hS rfl rfl ?_)
  clear hf; intro a hf
  refine step_l (st_rd hf (Wn.none rfl) (rd_assign hf rfl rfl) hS rfl rfl ?_)
  clear hf; intro a hf
  refine done_l ?_
  obtain ⟨n, hn⟩ : ∃ n : Nat, n = (nodes % 18446744073709551616).toNat % 8 + 1 := ⟨_, rfl⟩
  rw [← hn] at hf; have hnb : n ≤ 8 ∧ 1 ≤ n := by omega
  refine t_normal ?_
  refine c_seq ?_
  refine c_region ?_
  refine step_l (st_rd hf (Wn.none rfl) (rd_move hf rfl rfl) hS rfl rfl ?_)
  clear hf; intro a hf
  refine step_l (st_rd hf (Wn.none rfl) (rd_convInt hf rfl rfl Try.underlying3 Try.underlying23 rfl) hS rfl rfl ?_)
  clear hf; intro a hf
  refine step_l (st_rd hf (Wn.none rfl) (rd_move hf rfl rfl) hS rfl rfl ?_)
  clear hf; intro a hf
  refine step_l (st_rd hf (Wn.none rfl) (rd_convInt hf rfl rfl Try.underlying3 Try.underlying23 (wrap64 (by omega))) hS rfl rfl ?_)
  clear hf; intro a hf
  refine step_l (st_rd hf (Wn.none rfl) (rd_rem hf rfl rfl rfl (by first | decide | omega) (u64mod self (by omega))) hS rfl rfl ?_)
  clear hf; intro a hf
  refine step_l (st_rd hf (Wn.none rfl) (rd_convInt hf rfl rfl Try.underlying23 Try.underlying3 (Go.IntWalk.i64_in _ (by have := Nat.mod_lt (self % 18446744073709551616).toNat (show 0 < n by omega); omega))) hS rfl rfl ?_)
  clear hf; intro a hf
  refine step_l (st_rd hf (Wn.none rfl) (rd_assign hf rfl rfl) hS rfl rfl ?_)
  clear hf; intro a hf
  refine done_l ?_
  obtain ⟨me, hme⟩ : ∃ me : Nat, me = (self % 18446744073709551616).toNat % n := ⟨_, rfl⟩
  have hm : me < n := by rw [hme]; exact Nat.mod_lt _ (by omega)
  rw [← hme] at hf
  refine t_normal ?_
  refine c_seq ?_
  refine c_region ?_
  refine step_l (st_rd hf (Wn.none rfl) (rd_move hf rfl rfl) hS rfl rfl ?_)
  clear hf; intro a hf
  refine step_l (st_rd hf (Wn.none rfl) (rd_move hf rfl rfl) hS rfl rfl ?_)
  clear hf; intro a hf
  refine step_l (st_call hf (Wn.none rfl) rfl rfl rfl fn10 (VNew_c _ me n hS (by omega) hm) rfl rfl ?_)
  clear hf hS; rintro v a w ⟨pv, b1, b2, b3, rfl, hS⟩ hf
  refine step_l (st_rd hf (Wn.none rfl) (rd_move hf rfl rfl) hS rfl rfl ?_)
  clear hf; intro a hf
  refine step_l (st_rd hf (Wn.none rfl) (rd_move hf rfl rfl) hS rfl rfl ?_)
  clear hf; intro a hf
  refine step_l (st_call hf (Wn.none rfl) rfl rfl rfl fn19 (RNew_c _ me n hS (by omega) hm) rfl rfl ?_)
  clear hf hS; rintro v a w ⟨pm, c1, c2, c3, rfl, hS⟩ hf
  refine step_l (st_rd hf (Wn.none rfl) (rd_assign hf rfl rfl) hS rfl rfl ?_)
  clear hf; intro a hf
  refine step_l (st_rd hf (Wn.none rfl) (rd_assign hf rfl rfl) hS rfl rfl ?_)
  clear hf; intro a hf
  refine done_l ?_
  refine t_normal ?_
  refine c_seq ?_
  refine c_seq ?_
  refine c_region ?_
  refine step_l (st_rd hf (Wn.none rfl) (rd_move hf rfl rfl) hS rfl rfl ?_)
  clear hf; intro a hf
  refine step_l (st_rdb hf (Wn.none rfl) (rd_eqlNilP hf rfl rfl rfl Try.underlying24) hS rfl rfl ?_ ?_)
  · clear hf; intro hc1 a hf
    first
    | (first | exact Bool.noConfusion hc1 | exact absurd rfl hc1 | exact absurd ((hg me).2 rfl h0).1 hc1 | exact absurd hc1 (Int.not_lt.2 ((hg me).2 rfl h0).2) | exact absurd ((hg k).1 (by omega)) hc1 | exact absurd (htold (by omega) (by assumption)) hc1; done)
    | (
      refine done_l ?_
      refine t_normal ?_
      refine c_true hf rfl ?_
      refine c_seq ?_
      refine c_region ?_
      refine step_l (st_rd hf (Wn.none rfl) (rd_assign hf rfl rfl) hS rfl rfl ?_)
      clear hf; intro a hf
      refine done_l ?_
      refine t_normal ?_
      refine c_ret ?_
      refine t_ret ?_
      refine e_res1 hf.defers rfl (res_tmp hf rfl .nil) ?_
      exact ⟨rfl, hS.sub (by repeat (first | exact Sub.refl | exact Sub.none | exact Sub.behind | (apply Sub.cons; (focus ((repeat (first | exact Sel.head | apply Sel.tail)); done))) | apply Sub.skip))⟩
      )
  · clear hf; intro hc1 a hf
    first
    | (first | exact Bool.noConfusion hc1 | exact absurd rfl hc1 | exact absurd ((hg me).2 rfl h0).1 hc1 | exact absurd hc1 (Int.not_lt.2 ((hg me).2 rfl h0).2) | exact absurd ((hg k).1 (by omega)) hc1 | exact absurd (htold (by omega) (by assumption)) hc1; done)
    | (
      refine done_l ?_
      refine t_normal ?_
      refine c_false hf rfl ?_
      refine c_skip ?_
      refine t_normal ?_
      refine c_seq ?_
      refine c_region ?_
      refine step_l (st_rd hf (Wn.none rfl) (rd_move hf rfl rfl) hS rfl rfl ?_)
      clear hf; intro a hf
      refine step_l (st_call hf (Wn.none rfl) rfl rfl rfl fn23 (VAll_c _ _ _ _ _ _ (hS.sels (.cons (by repeat (first | exact Sel.head | apply Sel.tail)) (.cons (by repeat (first | exact Sel.head | apply Sel.tail)) (.cons (by repeat (first | exact Sel.head | apply Sel.tail)) (.cons (by repeat (first | exact Sel.head | apply Sel.tail)) .nil))))) (vNew_ok hm hnb.1)) rfl rfl ?_)
      clear hf hS; rintro v a w ⟨qa, capa, rfl, hS⟩ hf
      refine step_l (st_rd hf (Wn.none rfl) (rd_assign hf rfl rfl) hS rfl rfl ?_)
      clear hf; intro a hf
      refine done_l ?_
      refine t_normal ?_
      refine c_seq ?_
      refine c_seq ?_
      refine c_region ?_
      refine step_l (st_rd hf (Wn.none rfl) (rd_assign hf rfl rfl) hS rfl rfl ?_)
      clear hf; intro a hf
      refine done_l ?_
      refine t_normal ?_
      refine c_block ?_
      have hk0 := Keep.of hf [(6, 6), (9, 12), (34, 156)] (by repeat (first | exact Keep.nil | apply Keep.drop rfl | apply Keep.take rfl))
      refine c_loopK hk0 (α := Nat × VS × VS × Option Addr × Nat) (fun ⟨i, s, t, qw, cw⟩ => [(9, .slice qw n cw), (10, .int .i64 (i : Nat))]) (fun ⟨i, s, t, qw, cw⟩ w => Sat W (Blk pv [.int .i64 (s.me : Nat), .slice (some ⟨b1, 0, none⟩) n n, .slice (some ⟨b2, 0, none⟩) n n, .slice (some ⟨b3, 0, none⟩) n n] 53 :: Rw 31 2 (some ⟨b1, 0, none⟩) n n (s.l.flatMap memC) :: Rw 3 1 (some ⟨b2, 0, none⟩) n n (i64s s.ag) :: Rw 3 1 (some ⟨b3, 0, none⟩) n n (i64s s.op) :: Blk pm [.int .i64 (t.me : Nat), .slice (some ⟨c1, 0, none⟩) n n, .slice (some ⟨c2, 0, none⟩) n n, .slice (some ⟨c3, 0, none⟩) n n] 46 :: Rw 31 2 (some ⟨c1, 0, none⟩) n n (t.l.flatMap memC) :: Rw 3 1 (some ⟨c2, 0, none⟩) n n (i64s t.ag) :: Rw 3 1 (some ⟨c3, 0, none⟩) n n (i64s t.op) :: Rw 31 2 qw n cw (s.l.flatMap memC) :: R) w ∧ i ≤ 100 ∧ Rel n s t ∧ s.me = me ∧ (gm s me).1 = 0) (fun ⟨i, s, t, qw, cw⟩ => 100 - i) (0, vNew n me, vNew n me, qa, capa) (((hf.keep hk0).kb hf 10 rfl (by first | rfl | exact int_eq (by omega))).kb hf 9 rfl (by first | rfl | exact int_eq (by omega))) ⟨hS.sub (by repeat (first | exact Sub.refl | exact Sub.none | exact Sub.behind | (apply Sub.cons; (focus ((repeat (first | exact Sel.head | apply Sel.tail)); done))) | apply Sub.skip)), ⟨by omega, rel_new hm hnb.1, rfl, by rw [new_gm]⟩⟩ ?_
      clear hf hS; rintro ⟨i, s, t, qw, cw⟩ a w hf ⟨hS, ⟨hi, hr, hme2, h0⟩⟩; (try dsimp only [List.cons_append, List.nil_append] at hf)
      refine c_seq ?_
      refine c_seq ?_
      refine c_region ?_
      refine step_l (st_rd hf (Wn.none rfl) (rd_move hf rfl rfl) hS rfl rfl ?_)
      clear hf; intro a hf
      refine step_l (st_rd hf (Wn.none rfl) (rd_move hf rfl rfl) hS rfl rfl ?_)
      clear hf; intro a hf
      refine step_l (st_rd hf (Wn.none rfl) (rd_len hf rfl rfl Try.underlying37) hS rfl rfl ?_)
      clear hf; intro a hf
      refine step_l (st_rdB hf (Wn.none rfl) (rd_lss hf rfl rfl rfl) hS rfl rfl ?_ ?_)
      · clear hf; intro hc2 a hf
        first
        | (first | exact Bool.noConfusion hc2 | exact absurd rfl hc2 | exact absurd ((hg me).2 rfl h0).1 hc2 | exact absurd hc2 (Int.not_lt.2 ((hg me).2 rfl h0).2) | exact absurd ((hg k).1 (by omega)) hc2 | exact absurd (htold (by omega) (by assumption)) hc2; done)
        | (
          refine step_l (st_rd hf (Wn.none rfl) (rd_move hf rfl rfl) hS rfl rfl ?_)
          clear hf; intro a hf
          refine step_l (st_rd hf (Wn.some hf rfl rfl rfl rfl) (rd_move hf rfl rfl) hS rfl rfl ?_)
          clear hf; intro a hf
          refine step_l (st_rdB hf (Wn.some hf rfl rfl rfl rfl) (rd_lss hf rfl rfl rfl) hS rfl rfl ?_ ?_)
          · clear hf; intro hc3 a hf
            obtain ⟨x, hget⟩ := get_of_lt (l := l) (k := i) (by omega) rfl; have hx := hll x (List.mem_of_getElem? hget); obtain ⟨adl, rfl⟩ := (hvl _ (hS.sub (by repeat (first | exact Sub.refl | exact Sub.none | exact Sub.behind | (apply Sub.cons; (focus ((repeat (first | exact Sel.head | apply Sel.tail)); done))) | apply Sub.skip)))).some (by omega); have hr2 := rel_do hr x; have hg := grow_do hr.sok x; rw [hme2] at hg
            have hgs := gm_get hr.sok hm; have hgn := gm_get hr2.sok hm
            first
            | (first | exact Bool.noConfusion hc3 | exact absurd rfl hc3 | exact absurd ((hg me).2 rfl h0).1 hc3 | exact absurd hc3 (Int.not_lt.2 ((hg me).2 rfl h0).2) | exact absurd ((hg k).1 (by omega)) hc3 | exact absurd (htold (by omega) (by assumption)) hc3; done)
            | (
              refine step_l (st_rd hf (Wn.none rfl) (rd_pick_t hf rfl rfl rfl) hS rfl rfl ?_)
              clear hf; intro a hf
              refine done_l ?_
              refine t_normal ?_
              refine c_true hf rfl ?_
              refine c_skip ?_
              refine t_normal ?_
              refine c_seq ?_
              refine c_block ?_
              refine c_seq ?_
              refine c_region ?_
              refine step_l (st_rd hf (Wn.none rfl) (rd_move hf rfl rfl) hS rfl rfl ?_)
              clear hf; intro a hf
              refine step_l (st_rd hf (Wn.none rfl) (rd_move hf rfl rfl) hS rfl rfl ?_)
              clear hf; intro a hf
              refine step_l (st_rd hf (Wn.none rfl) (rd_move hf rfl rfl) hS rfl rfl ?_)
              clear hf; intro a hf
              refine step_l (st_rd hf (Wn.none rfl) (rd_move hf rfl rfl) hS rfl rfl ?_)
              clear hf; intro a hf
              refine step_l (st_rd hf (Wn.none rfl) ((by first | exact rd_indexAddrN hf rfl rfl rfl Try.underlying37 sz42 (by omega) | exact rd_indexAddr hf rfl rfl rfl Try.underlying37 sz42 (by first | decide | omega) (by omega))) hS rfl rfl ?_)
              clear hf; intro a hf
              refine step_l (st_rd hf (Wn.none rfl) (rd_loadN hf rfl rfl ag42 sz42 (by intro _ h; exact (hvl _ (h.sub (by repeat (first | exact Sub.refl | exact Sub.none | exact Sub.behind | (apply Sub.cons; (focus ((repeat (first | exact Sel.head | apply Sel.tail)); done))) | apply Sub.skip)))).elem vcC_len hget)) hS rfl rfl ?_)
              clear hf; intro a hf
              refine step_l (st_call hf (Wn.none rfl) rfl rfl rfl fn20 (do_c _ _ _ _ _ _ _ _ _ _ _ x (hS.sels (.cons (by repeat (first | exact Sel.head | apply Sel.tail)) (.cons (by repeat (first | exact Sel.head | apply Sel.tail)) (.cons (by repeat (first | exact Sel.head | apply Sel.tail)) (.cons (by repeat (first | exact Sel.head | apply Sel.tail)) (.cons (by repeat (first | exact Sel.head | apply Sel.tail)) (.cons (by repeat (first | exact Sel.head | apply Sel.tail)) (.cons (by repeat (first | exact Sel.head | apply Sel.tail)) (.cons (by repeat (first | exact Sel.head | apply Sel.tail)) .nil))))))))) hr (hx.sub (fun _ h => h.sub (by repeat (first | exact Sub.refl | exact Sub.none | exact Sub.behind | (apply Sub.cons; (focus ((repeat (first | exact Sel.head | apply Sel.tail)); done))) | apply Sub.skip))))) rfl rfl ?_)
              clear hf hS; rintro v a w ⟨rfl, hS⟩ hf
              refine done_l ?_
              refine t_normal ?_
              refine c_seq ?_
              refine c_region ?_
              refine step_l (st_rd hf (Wn.none rfl) (rd_move hf rfl rfl) hS rfl rfl ?_)
              clear hf; intro a hf
              refine step_l (st_call hf (Wn.none rfl) rfl rfl rfl fn23 (VAll_c _ _ _ _ _ _ (hS.sels (.cons (by repeat (first | exact Sel.head | apply Sel.tail)) (.cons (by repeat (first | exact Sel.head | apply Sel.tail)) (.cons (by repeat (first | exact Sel.head | apply Sel.tail)) (.cons (by repeat (first | exact Sel.head | apply Sel.tail)) .nil))))) hr2.sok) rfl rfl ?_)
              clear hf hS; rintro v a w ⟨qn, capn, rfl, hS⟩ hf; obtain ⟨adn, rfl⟩ := (hS.slOfRw .head).some (by omega); obtain ⟨adw, rfl⟩ := (hS.slOfRw (by repeat (first | exact Sel.head | apply Sel.tail)) : SlAt _ qw n 2 (s.l.flatMap memC)).some (by omega)
              refine step_l (st_rd hf (Wn.none rfl) (rd_assign hf rfl rfl) hS rfl rfl ?_)
              clear hf; intro a hf
              refine done_l ?_
              refine t_normal ?_
              refine c_seq ?_
              refine c_seq ?_
              refine any_begin mixed hS.drew ?_
              replace hS := hS.drew
              have hT := hS
              refine any_take (i := 0) hf rfl (by kernel_rfl) (by kernel_rfl) (by kernel_rfl) (fun _ _ _ h => h) (Wn.none rfl) (rd_move hf rfl rfl) hT rfl rfl ?_
              clear hf; intro a hf
              refine any_take (i := 1) hf rfl (by kernel_rfl) (by kernel_rfl) (by kernel_rfl) (fun _ _ _ h => h) (Wn.none rfl) (rd_len hf rfl rfl Try.underlying34) hT rfl rfl ?_
              clear hf; intro a hf
              refine any_take (i := 2) hf rfl (by kernel_rfl) (by kernel_rfl) (by kernel_rfl) (fun _ _ _ h => h) (Wn.none rfl) (rd_move hf rfl rfl) hT rfl rfl ?_
              clear hf; intro a hf
              refine any_takeB (i := 3) hf rfl (by kernel_rfl) (by kernel_rfl) (by kernel_rfl) (fun _ _ _ _ h => h) (Wn.none rfl) (rd_neq hf rfl rfl rfl) hT rfl rfl ?_ ?_
              · clear hf; intro hc4 a hf
                first
                | (first | exact Bool.noConfusion hc4 | exact absurd rfl hc4 | exact absurd ((hg me).2 rfl h0).1 hc4 | exact absurd hc4 (Int.not_lt.2 ((hg me).2 rfl h0).2) | exact absurd ((hg k).1 (by omega)) hc4 | exact absurd (htold (by omega) (by assumption)) hc4; done)
                | (
                  refine any_take (i := 4) hf rfl (by kernel_rfl) (by kernel_rfl) (by kernel_rfl) (fun _ _ _ h => h) (Wn.none rfl) (rd_move hf rfl rfl) hT rfl rfl ?_
                  clear hf; intro a hf
                  refine any_skip (i := 5) hf rfl (by kernel_rfl) (by kernel_rfl) (by kernel_rfl) (fun _ _ _ h => h) (Wn.some hf rfl rfl rfl rfl) hT rfl rfl ?_
                  clear hf; intro a hf
                  refine any_skip (i := 6) hf rfl (by kernel_rfl) (by kernel_rfl) (by kernel_rfl) (fun _ _ _ h => h) (Wn.some hf rfl rfl rfl rfl) hT rfl rfl ?_
                  clear hf; intro a hf
                  refine any_skip (i := 7) hf rfl (by kernel_rfl) (by kernel_rfl) (by kernel_rfl) (fun _ _ _ h => h) (Wn.some hf rfl rfl rfl rfl) hT rfl rfl ?_
                  clear hf; intro a hf
                  refine any_skip (i := 8) hf rfl (by kernel_rfl) (by kernel_rfl) (by kernel_rfl) (fun _ _ _ h => h) (Wn.some hf rfl rfl rfl rfl) hT rfl rfl ?_
                  clear hf; intro a hf
                  refine any_skip (i := 9) hf rfl (by kernel_rfl) (by kernel_rfl) (by kernel_rfl) (fun _ _ _ h => h) (Wn.some hf rfl rfl rfl rfl) hT rfl rfl ?_
                  clear hf; intro a hf
                  refine any_skip (i := 10) hf rfl (by kernel_rfl) (by kernel_rfl) (by kernel_rfl) (fun _ _ _ h => h) (Wn.some hf rfl rfl rfl rfl) hT rfl rfl ?_
                  clear hf; intro a hf
                  refine any_take (i := 11) hf rfl (by kernel_rfl) (by kernel_rfl) (by kernel_rfl) (fun _ _ _ h => h) (Wn.none rfl) (rd_pick_t hf rfl rfl rfl) hT rfl rfl ?_
                  clear hf; intro a hf
                  refine any_take (i := 12) hf rfl (by kernel_rfl) (by kernel_rfl) (by kernel_rfl) (fun _ _ _ h => h) (Wn.none rfl) (rd_move hf rfl rfl) hT rfl rfl ?_
                  clear hf; intro a hf
                  refine any_skip (i := 13) hf rfl (by kernel_rfl) (by kernel_rfl) (by kernel_rfl) (fun _ _ _ h => h) (Wn.some hf rfl rfl rfl rfl) hT rfl rfl ?_
                  clear hf; intro a hf
                  refine any_skip (i := 14) hf rfl (by kernel_rfl) (by kernel_rfl) (by kernel_rfl) (fun _ _ _ h => h) (Wn.some hf rfl rfl rfl rfl) hT rfl rfl ?_
                  clear hf; intro a hf
                  refine any_skip (i := 15) hf rfl (by kernel_rfl) (by kernel_rfl) (by kernel_rfl) (fun _ _ _ h => h) (Wn.some hf rfl rfl rfl rfl) hT rfl rfl ?_
                  clear hf; intro a hf
                  refine any_skip (i := 16) hf rfl (by kernel_rfl) (by kernel_rfl) (by kernel_rfl) (fun _ _ _ h => h) (Wn.some hf rfl rfl rfl rfl) hT rfl rfl ?_
                  clear hf; intro a hf
                  refine any_skip (i := 17) hf rfl (by kernel_rfl) (by kernel_rfl) (by kernel_rfl) (fun _ _ _ h => h) (Wn.some hf rfl rfl rfl rfl) hT rfl rfl ?_
                  clear hf; intro a hf
                  refine any_skip (i := 18) hf rfl (by kernel_rfl) (by kernel_rfl) (by kernel_rfl) (fun _ _ _ h => h) (Wn.some hf rfl rfl rfl rfl) hT rfl rfl ?_
                  clear hf; intro a hf
                  refine any_skip (i := 19) hf rfl (by kernel_rfl) (by kernel_rfl) (by kernel_rfl) (fun _ _ _ h => h) (Wn.some hf rfl rfl rfl rfl) hT rfl rfl ?_
                  clear hf; intro a hf
                  refine any_skip (i := 20) hf rfl (by kernel_rfl) (by kernel_rfl) (by kernel_rfl) (fun _ _ _ h => h) (Wn.some hf rfl rfl rfl rfl) hT rfl rfl ?_
                  clear hf; intro a hf
                  refine any_skip (i := 21) hf rfl (by kernel_rfl) (by kernel_rfl) (by kernel_rfl) (fun _ _ _ h => h) (Wn.some hf rfl rfl rfl rfl) hT rfl rfl ?_
                  clear hf; intro a hf
                  refine any_skip (i := 22) hf rfl (by kernel_rfl) (by kernel_rfl) (by kernel_rfl) (fun _ _ _ h => h) (Wn.some hf rfl rfl rfl rfl) hT rfl rfl ?_
                  clear hf; intro a hf
                  refine any_skip (i := 23) hf rfl (by kernel_rfl) (by kernel_rfl) (by kernel_rfl) (fun _ _ _ h => h) (Wn.some hf rfl rfl rfl rfl) hT rfl rfl ?_
                  clear hf; intro a hf
                  refine any_take (i := 24) hf rfl (by kernel_rfl) (by kernel_rfl) (by kernel_rfl) (fun _ _ _ h => h) (Wn.none rfl) (rd_pick_t hf rfl rfl rfl) hT rfl rfl ?_
                  clear hf; intro a hf
                  refine any_done (by kernel_rfl) ?_
                  refine t_normal ?_
                  refine c_true hf rfl ?_
                  refine c_seq ?_
                  refine c_region ?_
                  refine step_l (st_rd hf (Wn.none rfl) (rd_assign hf rfl rfl) hS rfl rfl ?_)
                  clear hf; intro a hf
                  refine done_l ?_
                  refine t_normal ?_
                  refine c_ret ?_
                  refine t_ret ?_
                  refine b_ret ?_
                  refine t_ret ?_
                  refine t_ret ?_
                  refine b_ret ?_
                  refine t_ret ?_
                  refine e_res1 hf.defers rfl (res_tmp hf rfl .nil) ?_
                  exact ⟨rfl, hS.sub (by repeat (first | exact Sub.refl | exact Sub.none | exact Sub.behind | (apply Sub.cons; (focus ((repeat (first | exact Sel.head | apply Sel.tail)); done))) | apply Sub.skip))⟩
                  )
              · clear hf; intro hc4 a hf
                first
                | (first | exact Bool.noConfusion hc4 | exact absurd rfl hc4 | exact absurd ((hg me).2 rfl h0).1 hc4 | exact absurd hc4 (Int.not_lt.2 ((hg me).2 rfl h0).2) | exact absurd ((hg k).1 (by omega)) hc4 | exact absurd (htold (by omega) (by assumption)) hc4; done)
                | (
                  refine any_take (i := 4) hf rfl (by kernel_rfl) (by kernel_rfl) (by kernel_rfl) (fun _ _ _ h => h) (Wn.none rfl) (rd_move hf rfl rfl) hT rfl rfl ?_
                  clear hf; intro a hf
                  refine any_take (i := 5) hf rfl (by kernel_rfl) (by kernel_rfl) (by kernel_rfl) (fun _ _ _ h => h) (Wn.some hf rfl rfl rfl rfl) (rd_move hf rfl rfl) hT rfl rfl ?_
                  clear hf; intro a hf
                  refine any_take (i := 6) hf rfl (by kernel_rfl) (by kernel_rfl) (by kernel_rfl) (fun _ _ _ h => h) (Wn.some hf rfl rfl rfl rfl) (rd_move hf rfl rfl) hT rfl rfl ?_
                  clear hf; intro a hf
                  refine any_take (i := 7) hf rfl (by kernel_rfl) (by kernel_rfl) (by kernel_rfl) (fun _ _ _ h => h) (Wn.some hf rfl rfl rfl rfl) ((by first | exact rd_indexAddrN hf rfl rfl rfl Try.underlying34 sz31 (by omega) | exact rd_indexAddr hf rfl rfl rfl Try.underlying34 sz31 (by first | decide | omega) (by omega))) hT rfl rfl ?_
                  clear hf; intro a hf
                  refine any_take (i := 8) hf rfl (by kernel_rfl) (by kernel_rfl) (by kernel_rfl) (fun _ _ _ h => h) (Wn.some hf rfl rfl rfl rfl) ((by first | exact rd_fieldAddrB hf rfl rfl fb31_0 rfl | exact rd_fieldAddr hf rfl rfl fb31_0)) hT rfl rfl ?_
                  clear hf; intro a hf
                  refine any_take (i := 9) hf rfl (by kernel_rfl) (by kernel_rfl) (by kernel_rfl) (fun _ _ _ h => h) (Wn.some hf rfl rfl rfl rfl) (rd_load1 hf rfl rfl ag3 (by intro _ h; exact (h.slOfRw (by repeat (first | exact Sel.head | apply Sel.tail))).fld memC_len hgn rfl)) hT rfl rfl ?_
                  clear hf; intro a hf
                  refine any_takeB (i := 10) hf rfl (by kernel_rfl) (by kernel_rfl) (by kernel_rfl) (fun _ _ _ _ h => h) (Wn.some hf rfl rfl rfl rfl) (rd_neq hf rfl rfl rfl) hT rfl rfl ?_ ?_
                  · clear hf; intro hc5 a hf
                    first
                    | (first | exact Bool.noConfusion hc5 | exact absurd rfl hc5 | exact absurd ((hg me).2 rfl h0).1 hc5 | exact absurd hc5 (Int.not_lt.2 ((hg me).2 rfl h0).2) | exact absurd ((hg k).1 (by omega)) hc5 | exact absurd (htold (by omega) (by assumption)) hc5; done)
                    | (
                      refine any_take (i := 11) hf rfl (by kernel_rfl) (by kernel_rfl) (by kernel_rfl) (fun _ _ _ h => h) (Wn.none rfl) (rd_pick_f hf rfl rfl rfl) hT rfl rfl ?_
                      clear hf; intro a hf
                      refine any_take (i := 12) hf rfl (by kernel_rfl) (by kernel_rfl) (by kernel_rfl) (fun _ _ _ h => h) (Wn.none rfl) (rd_move hf rfl rfl) hT rfl rfl ?_
                      clear hf; intro a hf
                      refine any_skip (i := 13) hf rfl (by kernel_rfl) (by kernel_rfl) (by kernel_rfl) (fun _ _ _ h => h) (Wn.some hf rfl rfl rfl rfl) hT rfl rfl ?_
                      clear hf; intro a hf
                      refine any_skip (i := 14) hf rfl (by kernel_rfl) (by kernel_rfl) (by kernel_rfl) (fun _ _ _ h => h) (Wn.some hf rfl rfl rfl rfl) hT rfl rfl ?_
                      clear hf; intro a hf
                      refine any_skip (i := 15) hf rfl (by kernel_rfl) (by kernel_rfl) (by kernel_rfl) (fun _ _ _ h => h) (Wn.some hf rfl rfl rfl rfl) hT rfl rfl ?_
                      clear hf; intro a hf
                      refine any_skip (i := 16) hf rfl (by kernel_rfl) (by kernel_rfl) (by kernel_rfl) (fun _ _ _ h => h) (Wn.some hf rfl rfl rfl rfl) hT rfl rfl ?_
                      clear hf; intro a hf
                      refine any_skip (i := 17) hf rfl (by kernel_rfl) (by kernel_rfl) (by kernel_rfl) (fun _ _ _ h => h) (Wn.some hf rfl rfl rfl rfl) hT rfl rfl ?_
                      clear hf; intro a hf
                      refine any_skip (i := 18) hf rfl (by kernel_rfl) (by kernel_rfl) (by kernel_rfl) (fun _ _ _ h => h) (Wn.some hf rfl rfl rfl rfl) hT rfl rfl ?_
                      clear hf; intro a hf
                      refine any_skip (i := 19) hf rfl (by kernel_rfl) (by kernel_rfl) (by kernel_rfl) (fun _ _ _ h => h) (Wn.some hf rfl rfl rfl rfl) hT rfl rfl ?_
                      clear hf; intro a hf
                      refine any_skip (i := 20) hf rfl (by kernel_rfl) (by kernel_rfl) (by kernel_rfl) (fun _ _ _ h => h) (Wn.some hf rfl rfl rfl rfl) hT rfl rfl ?_
                      clear hf; intro a hf
                      refine any_skip (i := 21) hf rfl (by kernel_rfl) (by kernel_rfl) (by kernel_rfl) (fun _ _ _ h => h) (Wn.some hf rfl rfl rfl rfl) hT rfl rfl ?_
                      clear hf; intro a hf
                      refine any_skip (i := 22) hf rfl (by kernel_rfl) (by kernel_rfl) (by kernel_rfl) (fun _ _ _ h => h) (Wn.some hf rfl rfl rfl rfl) hT rfl rfl ?_
                      clear hf; intro a hf
                      refine any_skip (i := 23) hf rfl (by kernel_rfl) (by kernel_rfl) (by kernel_rfl) (fun _ _ _ h => h) (Wn.some hf rfl rfl rfl rfl) hT rfl rfl ?_
                      clear hf; intro a hf
                      refine any_take (i := 24) hf rfl (by kernel_rfl) (by kernel_rfl) (by kernel_rfl) (fun _ _ _ h => h) (Wn.none rfl) (rd_pick_t hf rfl rfl rfl) hT rfl rfl ?_
                      clear hf; intro a hf
                      refine any_done (by kernel_rfl) ?_
                      refine t_normal ?_
                      refine c_true hf rfl ?_
                      refine c_seq ?_
                      refine c_region ?_
                      refine step_l (st_rd hf (Wn.none rfl) (rd_assign hf rfl rfl) hS rfl rfl ?_)
                      clear hf; intro a hf
                      refine done_l ?_
                      refine t_normal ?_
                      refine c_ret ?_
                      refine t_ret ?_
                      refine b_ret ?_
                      refine t_ret ?_
                      refine t_ret ?_
                      refine b_ret ?_
                      refine t_ret ?_
                      refine e_res1 hf.defers rfl (res_tmp hf rfl .nil) ?_
                      exact ⟨rfl, hS.sub (by repeat (first | exact Sub.refl | exact Sub.none | exact Sub.behind | (apply Sub.cons; (focus ((repeat (first | exact Sel.head | apply Sel.tail)); done))) | apply Sub.skip))⟩
                      )
                  · clear hf; intro hc5 a hf
                    first
                    | (first | exact Bool.noConfusion hc5 | exact absurd rfl hc5 | exact absurd ((hg me).2 rfl h0).1 hc5 | exact absurd hc5 (Int.not_lt.2 ((hg me).2 rfl h0).2) | exact absurd ((hg k).1 (by omega)) hc5 | exact absurd (htold (by omega) (by assumption)) hc5; done)
                    | (
                      refine any_take (i := 11) hf rfl (by kernel_rfl) (by kernel_rfl) (by kernel_rfl) (fun _ _ _ h => h) (Wn.none rfl) (rd_pick_f hf rfl rfl rfl) hT rfl rfl ?_
                      clear hf; intro a hf
                      refine any_take (i := 12) hf rfl (by kernel_rfl) (by kernel_rfl) (by kernel_rfl) (fun _ _ _ h => h) (Wn.none rfl) (rd_move hf rfl rfl) hT rfl rfl ?_
                      clear hf; intro a hf
                      refine any_take (i := 13) hf rfl (by kernel_rfl) (by kernel_rfl) (by kernel_rfl) (fun _ _ _ h => h) (Wn.some hf rfl rfl rfl rfl) (rd_move hf rfl rfl) hT rfl rfl ?_
                      clear hf; intro a hf
                      refine any_take (i := 14) hf rfl (by kernel_rfl) (by kernel_rfl) (by kernel_rfl) (fun _ _ _ h => h) (Wn.some hf rfl rfl rfl rfl) (rd_move hf rfl rfl) hT rfl rfl ?_
                      clear hf; intro a hf
                      refine any_take (i := 15) hf rfl (by kernel_rfl) (by kernel_rfl) (by kernel_rfl) (fun _ _ _ h => h) (Wn.some hf rfl rfl rfl rfl) ((by first | exact rd_indexAddrN hf rfl rfl rfl Try.underlying34 sz31 (by omega) | exact rd_indexAddr hf rfl rfl rfl Try.underlying34 sz31 (by first | decide | omega) (by omega))) hT rfl rfl ?_
                      clear hf; intro a hf
                      refine any_take (i := 16) hf rfl (by kernel_rfl) (by kernel_rfl) (by kernel_rfl) (fun _ _ _ h => h) (Wn.some hf rfl rfl rfl rfl) ((by first | exact rd_fieldAddrB hf rfl rfl fb31_1 rfl | exact rd_fieldAddr hf rfl rfl fb31_1)) hT rfl rfl ?_
                      clear hf; intro a hf
                      refine any_take (i := 17) hf rfl (by kernel_rfl) (by kernel_rfl) (by kernel_rfl) (fun _ _ _ h => h) (Wn.some hf rfl rfl rfl rfl) (rd_load1 hf rfl rfl ag2 (by intro _ h; exact (h.slOfRw (by repeat (first | exact Sel.head | apply Sel.tail))).fld memC_len hgn rfl)) hT rfl rfl ?_
                      clear hf; intro a hf
                      refine any_take (i := 18) hf rfl (by kernel_rfl) (by kernel_rfl) (by kernel_rfl) (fun _ _ _ h => h) (Wn.some hf rfl rfl rfl rfl) (rd_move hf rfl rfl) hT rfl rfl ?_
                      clear hf; intro a hf
                      refine any_take (i := 19) hf rfl (by kernel_rfl) (by kernel_rfl) (by kernel_rfl) (fun _ _ _ h => h) (Wn.some hf rfl rfl rfl rfl) (rd_move hf rfl rfl) hT rfl rfl ?_
                      clear hf; intro a hf
                      refine any_take (i := 20) hf rfl (by kernel_rfl) (by kernel_rfl) (by kernel_rfl) (fun _ _ _ h => h) (Wn.some hf rfl rfl rfl rfl) ((by first | exact rd_indexAddrN hf rfl rfl rfl Try.underlying34 sz31 (by omega) | exact rd_indexAddr hf rfl rfl rfl Try.underlying34 sz31 (by first | decide | omega) (by omega))) hT rfl rfl ?_
                      clear hf; intro a hf
                      refine any_take (i := 21) hf rfl (by kernel_rfl) (by kernel_rfl) (by kernel_rfl) (fun _ _ _ h => h) (Wn.some hf rfl rfl rfl rfl) ((by first | exact rd_fieldAddrB hf rfl rfl fb31_1 rfl | exact rd_fieldAddr hf rfl rfl fb31_1)) hT rfl rfl ?_
                      clear hf; intro a hf
                      refine any_take (i := 22) hf rfl (by kernel_rfl) (by kernel_rfl) (by kernel_rfl) (fun _ _ _ h => h) (Wn.some hf rfl rfl rfl rfl) (rd_load1 hf rfl rfl ag2 (by intro _ h; exact (h.slOfRw (by repeat (first | exact Sel.head | apply Sel.tail))).fld memC_len hgs rfl)) hT rfl rfl ?_
                      clear hf; intro a hf
                      refine any_takeB (i := 23) hf rfl (by kernel_rfl) (by kernel_rfl) (by kernel_rfl) (fun _ _ _ _ h => h) (Wn.some hf rfl rfl rfl rfl) (rd_lss hf rfl rfl rfl) hT rfl rfl ?_ ?_
                      · clear hf; intro hc6 a hf
                        first
                        | (first | exact Bool.noConfusion hc6 | exact absurd rfl hc6 | exact absurd ((hg me).2 rfl h0).1 hc6 | exact absurd hc6 (Int.not_lt.2 ((hg me).2 rfl h0).2) | exact absurd ((hg k).1 (by omega)) hc6 | exact absurd (htold (by omega) (by assumption)) hc6; done)
                        | (
                          refine any_take (i := 24) hf rfl (by kernel_rfl) (by kernel_rfl) (by kernel_rfl) (fun _ _ _ h => h) (Wn.none rfl) (rd_pick_f hf rfl rfl rfl) hT rfl rfl ?_
                          clear hf; intro a hf
                          refine any_done (by kernel_rfl) ?_
                          refine t_normal ?_
                          refine c_true hf rfl ?_
                          refine c_seq ?_
                          refine c_region ?_
                          refine step_l (st_rd hf (Wn.none rfl) (rd_assign hf rfl rfl) hS rfl rfl ?_)
                          clear hf; intro a hf
                          refine done_l ?_
                          refine t_normal ?_
                          refine c_ret ?_
                          refine t_ret ?_
                          refine b_ret ?_
                          refine t_ret ?_
                          refine t_ret ?_
                          refine b_ret ?_
                          refine t_ret ?_
                          refine e_res1 hf.defers rfl (res_tmp hf rfl .nil) ?_
                          exact ⟨rfl, hS.sub (by repeat (first | exact Sub.refl | exact Sub.none | exact Sub.behind | (apply Sub.cons; (focus ((repeat (first | exact Sel.head | apply Sel.tail)); done))) | apply Sub.skip))⟩
                          )
                      · clear hf; intro hc6 a hf
                        first
                        | (first | exact Bool.noConfusion hc6 | exact absurd rfl hc6 | exact absurd ((hg me).2 rfl h0).1 hc6 | exact absurd hc6 (Int.not_lt.2 ((hg me).2 rfl h0).2) | exact absurd ((hg k).1 (by omega)) hc6 | exact absurd (htold (by omega) (by assumption)) hc6; done)
                        | (
                          refine any_take (i := 24) hf rfl (by kernel_rfl) (by kernel_rfl) (by kernel_rfl) (fun _ _ _ h => h) (Wn.none rfl) (rd_pick_f hf rfl rfl rfl) hT rfl rfl ?_
                          clear hf; intro a hf
                          refine any_done (by kernel_rfl) ?_
                          refine t_normal ?_
                          refine c_false hf rfl ?_
                          refine c_skip ?_
                          refine t_normal ?_
                          refine c_seq ?_
                          refine c_seq ?_
                          refine c_region ?_
                          refine step_l (st_rd hf (Wn.none rfl) (rd_move hf rfl rfl) hS rfl rfl ?_)
                          clear hf; intro a hf
                          refine step_l (st_rd hf (Wn.none rfl) (rd_len hf rfl rfl Try.underlying34) hS rfl rfl ?_)
                          clear hf; intro a hf
                          refine step_l (st_rd hf (Wn.none rfl) (rd_move hf rfl rfl) hS rfl rfl ?_)
                          clear hf; intro a hf
                          refine done_l ?_
                          refine t_normal ?_
                          refine c_block ?_
                          have hk1 := Keep.of hf [(6, 6), (12, 12), (80, 155)] (by repeat (first | exact Keep.nil | apply Keep.drop rfl | apply Keep.take rfl))
                          refine c_loopK hk1 (α := Nat) (fun k => [(80, .int .i64 (k : Nat))]) (fun k w => Sat W (Blk pv [.int .i64 ((doS x s).me : Nat), .slice (some ⟨b1, 0, none⟩) n n, .slice (some ⟨b2, 0, none⟩) n n, .slice (some ⟨b3, 0, none⟩) n n] 53 :: Rw 31 2 (some ⟨b1, 0, none⟩) n n ((doS x s).l.flatMap memC) :: Rw 3 1 (some ⟨b2, 0, none⟩) n n (i64s (doS x s).ag) :: Rw 3 1 (some ⟨b3, 0, none⟩) n n (i64s (doS x s).op) :: Blk pm [.int .i64 ((doT x t).me : Nat), .slice (some ⟨c1, 0, none⟩) n n, .slice (some ⟨c2, 0, none⟩) n n, .slice (some ⟨c3, 0, none⟩) n n] 46 :: Rw 31 2 (some ⟨c1, 0, none⟩) n n ((doT x t).l.flatMap memC) :: Rw 3 1 (some ⟨c2, 0, none⟩) n n (i64s (doT x t).ag) :: Rw 3 1 (some ⟨c3, 0, none⟩) n n (i64s (doT x t).op) :: Rw 31 2 (some adw) n cw (s.l.flatMap memC) :: Rw 31 2 (some adn) n capn ((doS x s).l.flatMap memC) :: R) w ∧ k ≤ n) (fun k => n - k) 0 ((hf.keep hk1).kb hf 80 rfl (by first | rfl | exact int_eq (by omega))) ⟨hS.sub (by repeat (first | exact Sub.refl | exact Sub.none | exact Sub.behind | (apply Sub.cons; (focus ((repeat (first | exact Sel.head | apply Sel.tail)); done))) | apply Sub.skip)), by omega⟩ ?_
                          clear hf hS; rintro k a w hf ⟨hS, hk⟩; (try dsimp only [List.cons_append, List.nil_append] at hf)
                          refine c_seq ?_
                          refine c_region ?_
                          refine step_l (st_rdB hf (Wn.none rfl) (rd_lss hf rfl rfl rfl) hS rfl rfl ?_ ?_)
                          · clear hf; intro hc7 a hf
                            have hkn : k < n := by omega
                            have hgs := gm_get hr.sok hkn; have hgn := gm_get hr2.sok hkn
                            first
                            | (first | exact Bool.noConfusion hc7 | exact absurd rfl hc7 | exact absurd ((hg me).2 rfl h0).1 hc7 | exact absurd hc7 (Int.not_lt.2 ((hg me).2 rfl h0).2) | exact absurd ((hg k).1 (by omega)) hc7 | exact absurd (htold (by omega) (by assumption)) hc7; done)
                            | (
                              refine done_l ?_
                              refine t_normal ?_
                              refine c_seq ?_
                              refine c_true hf rfl ?_
                              refine c_skip ?_
                              refine t_normal ?_
                              refine c_seq ?_
                              refine c_block ?_
                              refine c_seq ?_
                              refine c_region ?_
                              refine step_l (st_rd hf (Wn.none rfl) (rd_move hf rfl rfl) hS rfl rfl ?_)
                              clear hf; intro a hf
                              refine step_l (st_rd hf (Wn.none rfl) (rd_assign hf rfl rfl) hS rfl rfl ?_)
                              clear hf; intro a hf
                              refine done_l ?_
                              refine t_normal ?_
                              refine c_seq ?_
                              refine c_seq ?_
                              refine any_begin mixed hS.drew ?_
                              replace hS := hS.drew
                              have hT := hS
                              refine any_take (i := 0) hf rfl (by kernel_rfl) (by kernel_rfl) (by kernel_rfl) (fun _ _ _ h => h) (Wn.none rfl) (rd_move hf rfl rfl) hT rfl rfl ?_
                              clear hf; intro a hf
                              refine any_take (i := 1) hf rfl (by kernel_rfl) (by kernel_rfl) (by kernel_rfl) (fun _ _ _ h => h) (Wn.none rfl) (rd_move hf rfl rfl) hT rfl rfl ?_
                              clear hf; intro a hf
                              refine any_takeB (i := 2) hf rfl (by kernel_rfl) (by kernel_rfl) (by kernel_rfl) (fun _ _ _ _ h => h) (Wn.none rfl) (rd_neq hf rfl rfl rfl) hT rfl rfl ?_ ?_
                              · clear hf; intro hc8 a hf
                                first
                                | (first | exact Bool.noConfusion hc8 | exact absurd rfl hc8 | exact absurd ((hg me).2 rfl h0).1 hc8 | exact absurd hc8 (Int.not_lt.2 ((hg me).2 rfl h0).2) | exact absurd ((hg k).1 (by omega)) hc8 | exact absurd (htold (by omega) (by assumption)) hc8; done)
                                | (
                                  refine any_take (i := 3) hf rfl (by kernel_rfl) (by kernel_rfl) (by kernel_rfl) (fun _ _ _ h => h) (Wn.none rfl) (rd_move hf rfl rfl) hT rfl rfl ?_
                                  clear hf; intro a hf
                                  refine any_take (i := 4) hf rfl (by kernel_rfl) (by kernel_rfl) (by kernel_rfl) (fun _ _ _ h => h) (Wn.some hf rfl rfl rfl rfl) (rd_move hf rfl rfl) hT rfl rfl ?_
                                  clear hf; intro a hf
                                  refine any_take (i := 5) hf rfl (by kernel_rfl) (by kernel_rfl) (by kernel_rfl) (fun _ _ _ h => h) (Wn.some hf rfl rfl rfl rfl) (rd_move hf rfl rfl) hT rfl rfl ?_
                                  clear hf; intro a hf
                                  refine any_take (i := 6) hf rfl (by kernel_rfl) (by kernel_rfl) (by kernel_rfl) (fun _ _ _ h => h) (Wn.some hf rfl rfl rfl rfl) ((by first | exact rd_indexAddrN hf rfl rfl rfl Try.underlying34 sz31 (by omega) | exact rd_indexAddr hf rfl rfl rfl Try.underlying34 sz31 (by first | decide | omega) (by omega))) hT rfl rfl ?_
                                  clear hf; intro a hf
                                  refine any_take (i := 7) hf rfl (by kernel_rfl) (by kernel_rfl) (by kernel_rfl) (fun _ _ _ h => h) (Wn.some hf rfl rfl rfl rfl) (rd_loadN hf rfl rfl ag31 sz31 (by intro _ h; exact (h.slOfRw (by repeat (first | exact Sel.head | apply Sel.tail))).elem memC_len hgs)) hT rfl rfl ?_
                                  clear hf; intro a hf
                                  refine any_take (i := 8) hf rfl (by kernel_rfl) (by kernel_rfl) (by kernel_rfl) (fun _ _ _ h => h) (Wn.some hf rfl rfl rfl rfl) (rd_move hf rfl rfl) hT rfl rfl ?_
                                  clear hf; intro a hf
                                  refine any_take (i := 9) hf rfl (by kernel_rfl) (by kernel_rfl) (by kernel_rfl) (fun _ _ _ h => h) (Wn.some hf rfl rfl rfl rfl) (rd_move hf rfl rfl) hT rfl rfl ?_
                                  clear hf; intro a hf
                                  refine any_take (i := 10) hf rfl (by kernel_rfl) (by kernel_rfl) (by kernel_rfl) (fun _ _ _ h => h) (Wn.some hf rfl rfl rfl rfl) ((by first | exact rd_indexAddrN hf rfl rfl rfl Try.underlying34 sz31 (by omega) | exact rd_indexAddr hf rfl rfl rfl Try.underlying34 sz31 (by first | decide | omega) (by omega))) hT rfl rfl ?_
                                  clear hf; intro a hf
                                  refine any_take (i := 11) hf rfl (by kernel_rfl) (by kernel_rfl) (by kernel_rfl) (fun _ _ _ h => h) (Wn.some hf rfl rfl rfl rfl) (rd_loadN hf rfl rfl ag31 sz31 (by intro _ h; exact (h.slOfRw (by repeat (first | exact Sel.head | apply Sel.tail))).elem memC_len hgn)) hT rfl rfl ?_
                                  clear hf; intro a hf
                                  refine any_one (i := 12) rfl (by kernel_rfl) (st_call hf (Wn.some hf rfl rfl rfl rfl) rfl rfl rfl fn24 (MLeq_c _ _ _ _ hS) rfl rfl ?_)
                                  clear hf hS; rintro v a w ⟨rfl, hS⟩ hf
                                  replace hT := hS.sub' hT (by repeat (first | exact Sub.refl | exact Sub.none | exact Sub.behind | (apply Sub.cons; (focus ((repeat (first | exact Sel.head | apply Sel.tail)); done))) | apply Sub.skip))
                                  refine ⟨hT, ?_⟩
                                  first | refine split_dec (d := 95) hf rfl ?_ ?_ | refine split_bool (d := 95) hf rfl ?_ ?_
                                  · clear hf; intro hc9 hf
                                    first
                                    | (first | exact Bool.noConfusion hc9 | exact absurd rfl hc9 | exact absurd ((hg me).2 rfl h0).1 hc9 | exact absurd hc9 (Int.not_lt.2 ((hg me).2 rfl h0).2) | exact absurd ((hg k).1 (by omega)) hc9 | exact absurd (htold (by omega) (by assumption)) hc9; done)
                                    | (
                                      refine any_take (i := 13) hf rfl (by kernel_rfl) (by kernel_rfl) (by kernel_rfl) (fun _ _ _ h => h) (Wn.some hf rfl rfl rfl rfl) (rd_not hf rfl rfl) hT rfl rfl ?_
                                      clear hf; intro a hf
                                      refine any_take (i := 14) hf rfl (by kernel_rfl) (by kernel_rfl) (by kernel_rfl) (fun _ _ _ h => h) (Wn.none rfl) (rd_pick_t hf rfl rfl rfl) hT rfl rfl ?_
                                      clear hf; intro a hf
                                      refine any_done (by kernel_rfl) ?_
                                      refine t_normal ?_
                                      refine c_false hf rfl ?_
                                      refine c_skip ?_
                                      refine t_normal ?_
                                      refine c_seq ?_
                                      refine any_begin mixed hS.drew ?_
                                      replace hS := hS.drew
                                      have hT := hS
                                      refine any_take (i := 0) hf rfl (by kernel_rfl) (by kernel_rfl) (by kernel_rfl) (fun _ _ _ h => h) (Wn.none rfl) (rd_move hf rfl rfl) hT rfl rfl ?_
                                      clear hf; intro a hf
                                      refine any_take (i := 1) hf rfl (by kernel_rfl) (by kernel_rfl) (by kernel_rfl) (fun _ _ _ h => h) (Wn.none rfl) (rd_move hf rfl rfl) hT rfl rfl ?_
                                      clear hf; intro a hf
                                      refine any_take (i := 2) hf rfl (by kernel_rfl) (by kernel_rfl) (by kernel_rfl) (fun _ _ _ h => h) (Wn.none rfl) ((by first | exact rd_indexAddrN hf rfl rfl rfl Try.underlying37 sz42 (by omega) | exact rd_indexAddr hf rfl rfl rfl Try.underlying37 sz42 (by first | decide | omega) (by omega))) hT rfl rfl ?_
                                      clear hf; intro a hf
                                      refine any_take (i := 3) hf rfl (by kernel_rfl) (by kernel_rfl) (by kernel_rfl) (fun _ _ _ h => h) (Wn.none rfl) ((by first | exact rd_fieldAddrB hf rfl rfl fb42_0 rfl | exact rd_fieldAddr hf rfl rfl fb42_0)) hT rfl rfl ?_
                                      clear hf; intro a hf
                                      refine any_take (i := 4) hf rfl (by kernel_rfl) (by kernel_rfl) (by kernel_rfl) (fun _ _ _ h => h) (Wn.none rfl) (rd_load1 hf rfl rfl ag3 (by intro _ h; exact (hvl _ (h.sub (by repeat (first | exact Sub.refl | exact Sub.none | exact Sub.behind | (apply Sub.cons; (focus ((repeat (first | exact Sel.head | apply Sel.tail)); done))) | apply Sub.skip)))).fld vcC_len hget rfl)) hT rfl rfl ?_
                                      clear hf; intro a hf
                                      refine any_takeB (i := 5) hf rfl (by kernel_rfl) (by kernel_rfl) (by kernel_rfl) (fun _ _ _ _ h => h) (Wn.none rfl) (rd_eql hf rfl rfl rfl) hT rfl rfl ?_ ?_
                                      · clear hf; intro hc10 a hf
                                        first
                                        | (first | exact Bool.noConfusion hc10 | exact absurd rfl hc10 | exact absurd ((hg me).2 rfl h0).1 hc10 | exact absurd hc10 (Int.not_lt.2 ((hg me).2 rfl h0).2) | exact absurd ((hg k).1 (by omega)) hc10 | exact absurd (htold (by omega) (by assumption)) hc10; done)
                                        | (
                                          refine any_take (i := 6) hf rfl (by kernel_rfl) (by kernel_rfl) (by kernel_rfl) (fun _ _ _ h => h) (Wn.none rfl) (rd_move hf rfl rfl) hT rfl rfl ?_
                                          clear hf; intro a hf
                                          refine any_take (i := 7) hf rfl (by kernel_rfl) (by kernel_rfl) (by kernel_rfl) (fun _ _ _ h => h) (Wn.some hf rfl rfl rfl rfl) (rd_move hf rfl rfl) hT rfl rfl ?_
                                          clear hf; intro a hf
                                          refine any_take (i := 8) hf rfl (by kernel_rfl) (by kernel_rfl) (by kernel_rfl) (fun _ _ _ h => h) (Wn.some hf rfl rfl rfl rfl) (rd_move hf rfl rfl) hT rfl rfl ?_
                                          clear hf; intro a hf
                                          refine any_take (i := 9) hf rfl (by kernel_rfl) (by kernel_rfl) (by kernel_rfl) (fun _ _ _ h => h) (Wn.some hf rfl rfl rfl rfl) ((by first | exact rd_indexAddrN hf rfl rfl rfl Try.underlying37 sz42 (by omega) | exact rd_indexAddr hf rfl rfl rfl Try.underlying37 sz42 (by first | decide | omega) (by omega))) hT rfl rfl ?_
                                          clear hf; intro a hf
                                          refine any_take (i := 10) hf rfl (by kernel_rfl) (by kernel_rfl) (by kernel_rfl) (fun _ _ _ h => h) (Wn.some hf rfl rfl rfl rfl) ((by first | exact rd_fieldAddrB hf rfl rfl fb42_2 rfl | exact rd_fieldAddr hf rfl rfl fb42_2)) hT rfl rfl ?_
                                          clear hf; intro a hf
                                          refine any_take (i := 11) hf rfl (by kernel_rfl) (by kernel_rfl) (by kernel_rfl) (fun _ _ _ h => h) (Wn.some hf rfl rfl rfl rfl) (rd_load1 hf rfl rfl ag34 (by intro _ h; exact (hvl _ (h.sub (by repeat (first | exact Sub.refl | exact Sub.none | exact Sub.behind | (apply Sub.cons; (focus ((repeat (first | exact Sel.head | apply Sel.tail)); done))) | apply Sub.skip)))).fld vcC_len hget rfl)) hT rfl rfl ?_
                                          clear hf; intro a hf
                                          refine any_take (i := 12) hf rfl (by kernel_rfl) (by kernel_rfl) (by kernel_rfl) (fun _ _ _ h => h) (Wn.some hf rfl rfl rfl rfl) (rd_len hf rfl rfl Try.underlying34) hT rfl rfl ?_
                                          clear hf; intro a hf
                                          refine any_takeB (i := 13) hf rfl (by kernel_rfl) (by kernel_rfl) (by kernel_rfl) (fun _ _ _ _ h => h) (Wn.some hf rfl rfl rfl rfl) (rd_leq hf rfl rfl rfl) hT rfl rfl ?_ ?_
                                          · clear hf; intro hc11 a hf
                                            first
                                            | (first | exact Bool.noConfusion hc11 | exact absurd rfl hc11 | exact absurd ((hg me).2 rfl h0).1 hc11 | exact absurd hc11 (Int.not_lt.2 ((hg me).2 rfl h0).2) | exact absurd ((hg k).1 (by omega)) hc11 | exact absurd (htold (by omega) (by assumption)) hc11; done)
                                            | (
                                              refine any_take (i := 14) hf rfl (by kernel_rfl) (by kernel_rfl) (by kernel_rfl) (fun _ _ _ h => h) (Wn.none rfl) (rd_pick_t hf rfl rfl rfl) hT rfl rfl ?_
                                              clear hf; intro a hf
                                              refine any_take (i := 15) hf rfl (by kernel_rfl) (by kernel_rfl) (by kernel_rfl) (fun _ _ _ h => h) (Wn.none rfl) (rd_move hf rfl rfl) hT rfl rfl ?_
                                              clear hf; intro a hf
                                              refine any_take (i := 16) hf rfl (by kernel_rfl) (by kernel_rfl) (by kernel_rfl) (fun _ _ _ h => h) (Wn.some hf rfl rfl rfl rfl) (rd_move hf rfl rfl) hT rfl rfl ?_
                                              clear hf; intro a hf
                                              refine any_take (i := 17) hf rfl (by kernel_rfl) (by kernel_rfl) (by kernel_rfl) (fun _ _ _ h => h) (Wn.some hf rfl rfl rfl rfl) (rd_move hf rfl rfl) hT rfl rfl ?_
                                              clear hf; intro a hf
                                              refine any_take (i := 18) hf rfl (by kernel_rfl) (by kernel_rfl) (by kernel_rfl) (fun _ _ _ h => h) (Wn.some hf rfl rfl rfl rfl) (rd_move hf rfl rfl) hT rfl rfl ?_
                                              clear hf; intro a hf
                                              refine any_take (i := 19) hf rfl (by kernel_rfl) (by kernel_rfl) (by kernel_rfl) (fun _ _ _ h => h) (Wn.some hf rfl rfl rfl rfl) ((by first | exact rd_indexAddrN hf rfl rfl rfl Try.underlying37 sz42 (by omega) | exact rd_indexAddr hf rfl rfl rfl Try.underlying37 sz42 (by first | decide | omega) (by omega))) hT rfl rfl ?_
                                              clear hf; intro a hf
                                              refine any_take (i := 20) hf rfl (by kernel_rfl) (by kernel_rfl) (by kernel_rfl) (fun _ _ _ h => h) (Wn.some hf rfl rfl rfl rfl) ((by first | exact rd_fieldAddrB hf rfl rfl fb42_2 rfl | exact rd_fieldAddr hf rfl rfl fb42_2)) hT rfl rfl ?_
                                              clear hf; intro a hf
                                              refine any_take (i := 21) hf rfl (by kernel_rfl) (by kernel_rfl) (by kernel_rfl) (fun _ _ _ h => h) (Wn.some hf rfl rfl rfl rfl) (rd_load1 hf rfl rfl ag34 (by intro _ h; exact (hvl _ (h.sub (by repeat (first | exact Sub.refl | exact Sub.none | exact Sub.behind | (apply Sub.cons; (focus ((repeat (first | exact Sel.head | apply Sel.tail)); done))) | apply Sub.skip)))).fld vcC_len hget rfl)) hT rfl rfl ?_
                                              clear hf; intro a hf
                                              refine any_take (i := 22) hf rfl (by kernel_rfl) (by kernel_rfl) (by kernel_rfl) (fun _ _ _ h => h) (Wn.some hf rfl rfl rfl rfl) (rd_len hf rfl rfl Try.underlying34) hT rfl rfl ?_
                                              clear hf; intro a hf
                                              refine any_takeB (i := 23) hf rfl (by kernel_rfl) (by kernel_rfl) (by kernel_rfl) (fun _ _ _ _ h => h) (Wn.some hf rfl rfl rfl rfl) (rd_lss hf rfl rfl rfl) hT rfl rfl ?_ ?_
                                              · clear hf; intro hc12 a hf
                                                obtain ⟨m2, hgL⟩ := get_of_lt (l := x.2.2.1.2.2) (k := k) (by omega) rfl; obtain ⟨adm, hadm⟩ := (hx.view _ (hS.sub (by repeat (first | exact Sub.refl | exact Sub.none | exact Sub.behind | (apply Sub.cons; (focus ((repeat (first | exact Sel.head | apply Sel.tail)); done))) | apply Sub.skip)))).some (by omega)
                                                have htold : k ≠ me → mayP m2.1 m2.2.1 → leM m2 (gm (doS x s) k) := fun h1 h2 => told_do hr.sok (by assumption) (by show ¬ 20 < x.2.2.1.2.2.length; omega) hkn hgL (by rw [hme2]; exact h1) h2
                                                first
                                                | (first | exact Bool.noConfusion hc12 | exact absurd rfl hc12 | exact absurd ((hg me).2 rfl h0).1 hc12 | exact absurd hc12 (Int.not_lt.2 ((hg me).2 rfl h0).2) | exact absurd ((hg k).1 (by omega)) hc12 | exact absurd (htold (by omega) (by assumption)) hc12; done)
                                                | (
                                                  refine any_take (i := 24) hf rfl (by kernel_rfl) (by kernel_rfl) (by kernel_rfl) (fun _ _ _ h => h) (Wn.none rfl) (rd_pick_t hf rfl rfl rfl) hT rfl rfl ?_
                                                  clear hf; intro a hf
                                                  refine any_take (i := 25) hf rfl (by kernel_rfl) (by kernel_rfl) (by kernel_rfl) (fun _ _ _ h => h) (Wn.none rfl) (rd_move hf rfl rfl) hT rfl rfl ?_
                                                  clear hf; intro a hf
                                                  refine any_take (i := 26) hf rfl (by kernel_rfl) (by kernel_rfl) (by kernel_rfl) (fun _ _ _ h => h) (Wn.some hf rfl rfl rfl rfl) (rd_move hf rfl rfl) hT rfl rfl ?_
                                                  clear hf; intro a hf
                                                  refine any_take (i := 27) hf rfl (by kernel_rfl) (by kernel_rfl) (by kernel_rfl) (fun _ _ _ h => h) (Wn.some hf rfl rfl rfl rfl) (rd_move hf rfl rfl) hT rfl rfl ?_
                                                  clear hf; intro a hf
                                                  refine any_take (i := 28) hf rfl (by kernel_rfl) (by kernel_rfl) (by kernel_rfl) (fun _ _ _ h => h) (Wn.some hf rfl rfl rfl rfl) ((by first | exact rd_indexAddrN hf rfl rfl rfl Try.underlying37 sz42 (by omega) | exact rd_indexAddr hf rfl rfl rfl Try.underlying37 sz42 (by first | decide | omega) (by omega))) hT rfl rfl ?_
                                                  clear hf; intro a hf
                                                  refine any_take (i := 29) hf rfl (by kernel_rfl) (by kernel_rfl) (by kernel_rfl) (fun _ _ _ h => h) (Wn.some hf rfl rfl rfl rfl) ((by first | exact rd_fieldAddrB hf rfl rfl fb42_2 rfl | exact rd_fieldAddr hf rfl rfl fb42_2)) hT rfl rfl ?_
                                                  clear hf; intro a hf
                                                  refine any_take (i := 30) hf rfl (by kernel_rfl) (by kernel_rfl) (by kernel_rfl) (fun _ _ _ h => h) (Wn.some hf rfl rfl rfl rfl) (rd_load1 hf rfl rfl ag34 (by intro _ h; exact (hvl _ (h.sub (by repeat (first | exact Sub.refl | exact Sub.none | exact Sub.behind | (apply Sub.cons; (focus ((repeat (first | exact Sel.head | apply Sel.tail)); done))) | apply Sub.skip)))).fld vcC_len hget (show (vcC x)[2]? = some (.slice (some adm) x.2.2.1.2.2.length x.2.2.1.2.1) from by rw [← hadm]; rfl))) hT rfl rfl ?_
                                                  clear hf; intro a hf
                                                  refine any_take (i := 31) hf rfl (by kernel_rfl) (by kernel_rfl) (by kernel_rfl) (fun _ _ _ h => h) (Wn.some hf rfl rfl rfl rfl) (rd_move hf rfl rfl) hT rfl rfl ?_
                                                  clear hf; intro a hf
                                                  refine any_take (i := 32) hf rfl (by kernel_rfl) (by kernel_rfl) (by kernel_rfl) (fun _ _ _ h => h) (Wn.some hf rfl rfl rfl rfl) ((by first | exact rd_indexAddrN hf rfl rfl rfl Try.underlying34 sz31 (by omega) | exact rd_indexAddr hf rfl rfl rfl Try.underlying34 sz31 (by first | decide | omega) (by omega))) hT rfl rfl ?_
                                                  clear hf; intro a hf
                                                  refine any_take (i := 33) hf rfl (by kernel_rfl) (by kernel_rfl) (by kernel_rfl) (fun _ _ _ h => h) (Wn.some hf rfl rfl rfl rfl) (rd_loadN hf rfl rfl ag31 sz31 (by intro _ h; exact (by have hv3 := hx.view _ (h.sub (by repeat (first | exact Sub.refl | exact Sub.none | exact Sub.behind | (apply Sub.cons; (focus ((repeat (first | exact Sel.head | apply Sel.tail)); done))) | apply Sub.skip))); rw [hadm] at hv3; exact hv3.elem memC_len hgL))) hT rfl rfl ?_
                                                  clear hf; intro a hf
                                                  refine any_one (i := 34) rfl (by kernel_rfl) (st_call hf (Wn.some hf rfl rfl rfl rfl) rfl rfl rfl fn25 (MMay_c _ _ hS) rfl rfl ?_)
                                                  clear hf hS; rintro v a w ⟨rfl, hS⟩ hf
                                                  replace hT := hS.sub' hT (by repeat (first | exact Sub.refl | exact Sub.none | exact Sub.behind | (apply Sub.cons; (focus ((repeat (first | exact Sel.head | apply Sel.tail)); done))) | apply Sub.skip))
                                                  refine ⟨hT, ?_⟩
                                                  first | refine split_dec (d := 132) hf rfl ?_ ?_ | refine split_bool (d := 132) hf rfl ?_ ?_
                                                  · clear hf; intro hc13 hf
                                                    first
                                                    | (first | exact Bool.noConfusion hc13 | exact absurd rfl hc13 | exact absurd ((hg me).2 rfl h0).1 hc13 | exact absurd hc13 (Int.not_lt.2 ((hg me).2 rfl h0).2) | exact absurd ((hg k).1 (by omega)) hc13 | exact absurd (htold (by omega) (by assumption)) hc13; done)
                                                    | (
                                                      refine any_take (i := 35) hf rfl (by kernel_rfl) (by kernel_rfl) (by kernel_rfl) (fun _ _ _ h => h) (Wn.none rfl) (rd_pick_t hf rfl rfl rfl) hT rfl rfl ?_
                                                      clear hf; intro a hf
                                                      refine any_take (i := 36) hf rfl (by kernel_rfl) (by kernel_rfl) (by kernel_rfl) (fun _ _ _ h => h) (Wn.none rfl) (rd_move hf rfl rfl) hT rfl rfl ?_
                                                      clear hf; intro a hf
                                                      refine any_take (i := 37) hf rfl (by kernel_rfl) (by kernel_rfl) (by kernel_rfl) (fun _ _ _ h => h) (Wn.some hf rfl rfl rfl rfl) (rd_move hf rfl rfl) hT rfl rfl ?_
                                                      clear hf; intro a hf
                                                      refine any_take (i := 38) hf rfl (by kernel_rfl) (by kernel_rfl) (by kernel_rfl) (fun _ _ _ h => h) (Wn.some hf rfl rfl rfl rfl) (rd_move hf rfl rfl) hT rfl rfl ?_
                                                      clear hf; intro a hf
                                                      refine any_takeB (i := 39) hf rfl (by kernel_rfl) (by kernel_rfl) (by kernel_rfl) (fun _ _ _ _ h => h) (Wn.some hf rfl rfl rfl rfl) (rd_neq hf rfl rfl rfl) hT rfl rfl ?_ ?_
                                                      · clear hf; intro hc14 a hf
                                                        first
                                                        | (first | exact Bool.noConfusion hc14 | exact absurd rfl hc14 | exact absurd ((hg me).2 rfl h0).1 hc14 | exact absurd hc14 (Int.not_lt.2 ((hg me).2 rfl h0).2) | exact absurd ((hg k).1 (by omega)) hc14 | exact absurd (htold (by omega) (by assumption)) hc14; done)
                                                        | (
                                                          refine any_take (i := 40) hf rfl (by kernel_rfl) (by kernel_rfl) (by kernel_rfl) (fun _ _ _ h => h) (Wn.none rfl) (rd_pick_t hf rfl rfl rfl) hT rfl rfl ?_
                                                          clear hf; intro a hf
                                                          refine any_take (i := 41) hf rfl (by kernel_rfl) (by kernel_rfl) (by kernel_rfl) (fun _ _ _ h => h) (Wn.none rfl) (rd_move hf rfl rfl) hT rfl rfl ?_
                                                          clear hf; intro a hf
                                                          refine any_take (i := 42) hf rfl (by kernel_rfl) (by kernel_rfl) (by kernel_rfl) (fun _ _ _ h => h) (Wn.some hf rfl rfl rfl rfl) (rd_move hf rfl rfl) hT rfl rfl ?_
                                                          clear hf; intro a hf
                                                          refine any_take (i := 43) hf rfl (by kernel_rfl) (by kernel_rfl) (by kernel_rfl) (fun _ _ _ h => h) (Wn.some hf rfl rfl rfl rfl) (rd_move hf rfl rfl) hT rfl rfl ?_
                                                          clear hf; intro a hf
                                                          refine any_take (i := 44) hf rfl (by kernel_rfl) (by kernel_rfl) (by kernel_rfl) (fun _ _ _ h => h) (Wn.some hf rfl rfl rfl rfl) ((by first | exact rd_indexAddrN hf rfl rfl rfl Try.underlying37 sz42 (by omega) | exact rd_indexAddr hf rfl rfl rfl Try.underlying37 sz42 (by first | decide | omega) (by omega))) hT rfl rfl ?_
                                                          clear hf; intro a hf
                                                          refine any_take (i := 45) hf rfl (by kernel_rfl) (by kernel_rfl) (by kernel_rfl) (fun _ _ _ h => h) (Wn.some hf rfl rfl rfl rfl) ((by first | exact rd_fieldAddrB hf rfl rfl fb42_2 rfl | exact rd_fieldAddr hf rfl rfl fb42_2)) hT rfl rfl ?_
                                                          clear hf; intro a hf
                                                          refine any_take (i := 46) hf rfl (by kernel_rfl) (by kernel_rfl) (by kernel_rfl) (fun _ _ _ h => h) (Wn.some hf rfl rfl rfl rfl) (rd_load1 hf rfl rfl ag34 (by intro _ h; exact (hvl _ (h.sub (by repeat (first | exact Sub.refl | exact Sub.none | exact Sub.behind | (apply Sub.cons; (focus ((repeat (first | exact Sel.head | apply Sel.tail)); done))) | apply Sub.skip)))).fld vcC_len hget (show (vcC x)[2]? = some (.slice (some adm) x.2.2.1.2.2.length x.2.2.1.2.1) from by rw [← hadm]; rfl))) hT rfl rfl ?_
                                                          clear hf; intro a hf
                                                          refine any_take (i := 47) hf rfl (by kernel_rfl) (by kernel_rfl) (by kernel_rfl) (fun _ _ _ h => h) (Wn.some hf rfl rfl rfl rfl) (rd_move hf rfl rfl) hT rfl rfl ?_
                                                          clear hf; intro a hf
                                                          refine any_take (i := 48) hf rfl (by kernel_rfl) (by kernel_rfl) (by kernel_rfl) (fun _ _ _ h => h) (Wn.some hf rfl rfl rfl rfl) ((by first | exact rd_indexAddrN hf rfl rfl rfl Try.underlying34 sz31 (by omega) | exact rd_indexAddr hf rfl rfl rfl Try.underlying34 sz31 (by first | decide | omega) (by omega))) hT rfl rfl ?_
                                                          clear hf; intro a hf
                                                          refine any_take (i := 49) hf rfl (by kernel_rfl) (by kernel_rfl) (by kernel_rfl) (fun _ _ _ h => h) (Wn.some hf rfl rfl rfl rfl) (rd_loadN hf rfl rfl ag31 sz31 (by intro _ h; exact (by have hv3 := hx.view _ (h.sub (by repeat (first | exact Sub.refl | exact Sub.none | exact Sub.behind | (apply Sub.cons; (focus ((repeat (first | exact Sel.head | apply Sel.tail)); done))) | apply Sub.skip))); rw [hadm] at hv3; exact hv3.elem memC_len hgL))) hT rfl rfl ?_
                                                          clear hf; intro a hf
                                                          refine any_take (i := 50) hf rfl (by kernel_rfl) (by kernel_rfl) (by kernel_rfl) (fun _ _ _ h => h) (Wn.some hf rfl rfl rfl rfl) (rd_move hf rfl rfl) hT rfl rfl ?_
                                                          clear hf; intro a hf
                                                          refine any_take (i := 51) hf rfl (by kernel_rfl) (by kernel_rfl) (by kernel_rfl) (fun _ _ _ h => h) (Wn.some hf rfl rfl rfl rfl) (rd_move hf rfl rfl) hT rfl rfl ?_
                                                          clear hf; intro a hf
                                                          refine any_take (i := 52) hf rfl (by kernel_rfl) (by kernel_rfl) (by kernel_rfl) (fun _ _ _ h => h) (Wn.some hf rfl rfl rfl rfl) ((by first | exact rd_indexAddrN hf rfl rfl rfl Try.underlying34 sz31 (by omega) | exact rd_indexAddr hf rfl rfl rfl Try.underlying34 sz31 (by first | decide | omega) (by omega))) hT rfl rfl ?_
                                                          clear hf; intro a hf
                                                          refine any_take (i := 53) hf rfl (by kernel_rfl) (by kernel_rfl) (by kernel_rfl) (fun _ _ _ h => h) (Wn.some hf rfl rfl rfl rfl) (rd_loadN hf rfl rfl ag31 sz31 (by intro _ h; exact (h.slOfRw (by repeat (first | exact Sel.head | apply Sel.tail))).elem memC_len hgn)) hT rfl rfl ?_
                                                          clear hf; intro a hf
                                                          refine any_one (i := 54) rfl (by kernel_rfl) (st_call hf (Wn.some hf rfl rfl rfl rfl) rfl rfl rfl fn24 (MLeq_c _ _ _ _ hS) rfl rfl ?_)
                                                          clear hf hS; rintro v a w ⟨rfl, hS⟩ hf
                                                          replace hT := hS.sub' hT (by repeat (first | exact Sub.refl | exact Sub.none | exact Sub.behind | (apply Sub.cons; (focus ((repeat (first | exact Sel.head | apply Sel.tail)); done))) | apply Sub.skip))
                                                          refine ⟨hT, ?_⟩
                                                          first | refine split_dec (d := 152) hf rfl ?_ ?_ | refine split_bool (d := 152) hf rfl ?_ ?_
                                                          · clear hf; intro hc15 hf
                                                            first
                                                            | (first | exact Bool.noConfusion hc15 | exact absurd rfl hc15 | exact absurd ((hg me).2 rfl h0).1 hc15 | exact absurd hc15 (Int.not_lt.2 ((hg me).2 rfl h0).2) | exact absurd ((hg k).1 (by omega)) hc15 | exact absurd (htold (by omega) (by assumption)) hc15; done)
                                                            | (
                                                              refine any_take (i := 55) hf rfl (by kernel_rfl) (by kernel_rfl) (by kernel_rfl) (fun _ _ _ h => h) (Wn.some hf rfl rfl rfl rfl) (rd_not hf rfl rfl) hT rfl rfl ?_
                                                              clear hf; intro a hf
                                                              refine any_take (i := 56) hf rfl (by kernel_rfl) (by kernel_rfl) (by kernel_rfl) (fun _ _ _ h => h) (Wn.none rfl) (rd_pick_t hf rfl rfl rfl) hT rfl rfl ?_
                                                              clear hf; intro a hf
                                                              refine any_done (by kernel_rfl) ?_
                                                              refine t_normal ?_
                                                              refine c_false hf rfl ?_
                                                              refine c_skip ?_
                                                              refine b_normal ?_
                                                              refine t_normal ?_
                                                              refine c_region ?_
                                                              refine step_l (st_rd hf (Wn.none rfl) (rd_add hf rfl rfl rfl (by first | exact Go.IntWalk.i64_in _ (by omega) | exact rfl)) hS rfl rfl ?_)
                                                              clear hf; intro a hf
                                                              refine step_l (st_rd hf (Wn.none rfl) (rd_move hf rfl rfl) hS rfl rfl ?_)
                                                              clear hf; intro a hf
                                                              refine done_l ?_
                                                              refine t_normal ⟨k + 1, ((hf.back (by repeat (first | exact Behind.refl | refine Behind.skip rfl ?_)) hk1).kb hf 80 rfl (by first | rfl | exact int_eq (by omega))), ⟨hS.sub (by repeat (first | exact Sub.refl | exact Sub.none | exact Sub.behind | (apply Sub.cons; (focus ((repeat (first | exact Sel.head | apply Sel.tail)); done))) | apply Sub.skip)), by omega⟩, by first | omega | (simp only []; omega)⟩
                                                              )
                                                          · clear hf; intro hc15 hf
                                                            first
                                                            | (first | exact Bool.noConfusion hc15 | exact absurd rfl hc15 | exact absurd ((hg me).2 rfl h0).1 hc15 | exact absurd hc15 (Int.not_lt.2 ((hg me).2 rfl h0).2) | exact absurd ((hg k).1 (by omega)) hc15 | exact absurd (htold (by omega) (by assumption)) hc15; done)
                                                            | (
                                                              refine any_take (i := 55) hf rfl (by kernel_rfl) (by kernel_rfl) (by kernel_rfl) (fun _ _ _ h => h) (Wn.some hf rfl rfl rfl rfl) (rd_not hf rfl rfl) hT rfl rfl ?_
                                                              clear hf; intro a hf
                                                              refine any_take (i := 56) hf rfl (by kernel_rfl) (by kernel_rfl) (by kernel_rfl) (fun _ _ _ h => h) (Wn.none rfl) (rd_pick_t hf rfl rfl rfl) hT rfl rfl ?_
                                                              clear hf; intro a hf
                                                              refine any_done (by kernel_rfl) ?_
                                                              refine t_normal ?_
                                                              refine c_true hf rfl ?_
                                                              refine c_seq ?_
                                                              refine c_region ?_
                                                              refine step_l (st_rd hf (Wn.none rfl) (rd_assign hf rfl rfl) hS rfl rfl ?_)
                                                              clear hf; intro a hf
                                                              refine done_l ?_
                                                              refine t_normal ?_
                                                              refine c_ret ?_
                                                              refine b_ret ?_
                                                              refine t_ret ?_
                                                              refine t_ret ?_
                                                              refine b_ret ?_
                                                              refine t_ret ?_
                                                              refine b_ret ?_
                                                              refine t_ret ?_
                                                              refine t_ret ?_
                                                              refine b_ret ?_
                                                              refine t_ret ?_
                                                              refine e_res1 hf.defers rfl (res_tmp hf rfl .nil) ?_
                                                              exact ⟨rfl, hS.sub (by repeat (first | exact Sub.refl | exact Sub.none | exact Sub.behind | (apply Sub.cons; (focus ((repeat (first | exact Sel.head | apply Sel.tail)); done))) | apply Sub.skip))⟩
                                                              )
                                                          )
                                                      · clear hf; intro hc14 a hf
                                                        first
                                                        | (first | exact Bool.noConfusion hc14 | exact absurd rfl hc14 | exact absurd ((hg me).2 rfl h0).1 hc14 | exact absurd hc14 (Int.not_lt.2 ((hg me).2 rfl h0).2) | exact absurd ((hg k).1 (by omega)) hc14 | exact absurd (htold (by omega) (by assumption)) hc14; done)
                                                        | (
                                                          refine any_take (i := 40) hf rfl (by kernel_rfl) (by kernel_rfl) (by kernel_rfl) (fun _ _ _ h => h) (Wn.none rfl) (rd_pick_t hf rfl rfl rfl) hT rfl rfl ?_
                                                          clear hf; intro a hf
                                                          refine any_take (i := 41) hf rfl (by kernel_rfl) (by kernel_rfl) (by kernel_rfl) (fun _ _ _ h => h) (Wn.none rfl) (rd_move hf rfl rfl) hT rfl rfl ?_
                                                          clear hf; intro a hf
                                                          refine any_skip (i := 42) hf rfl (by kernel_rfl) (by kernel_rfl) (by kernel_rfl) (fun _ _ _ h => h) (Wn.some hf rfl rfl rfl rfl) hT rfl rfl ?_
                                                          clear hf; intro a hf
                                                          refine any_skip (i := 43) hf rfl (by kernel_rfl) (by kernel_rfl) (by kernel_rfl) (fun _ _ _ h => h) (Wn.some hf rfl rfl rfl rfl) hT rfl rfl ?_
                                                          clear hf; intro a hf
                                                          refine any_skip (i := 44) hf rfl (by kernel_rfl) (by kernel_rfl) (by kernel_rfl) (fun _ _ _ h => h) (Wn.some hf rfl rfl rfl rfl) hT rfl rfl ?_
                                                          clear hf; intro a hf
                                                          refine any_skip (i := 45) hf rfl (by kernel_rfl) (by kernel_rfl) (by kernel_rfl) (fun _ _ _ h => h) (Wn.some hf rfl rfl rfl rfl) hT rfl rfl ?_
                                                          clear hf; intro a hf
                                                          refine any_skip (i := 46) hf rfl (by kernel_rfl) (by kernel_rfl) (by kernel_rfl) (fun _ _ _ h => h) (Wn.some hf rfl rfl rfl rfl) hT rfl rfl ?_
                                                          clear hf; intro a hf
                                                          refine any_skip (i := 47) hf rfl (by kernel_rfl) (by kernel_rfl) (by kernel_rfl) (fun _ _ _ h => h) (Wn.some hf rfl rfl rfl rfl) hT rfl rfl ?_
                                                          clear hf; intro a hf
                                                          refine any_skip (i := 48) hf rfl (by kernel_rfl) (by kernel_rfl) (by kernel_rfl) (fun _ _ _ h => h) (Wn.some hf rfl rfl rfl rfl) hT rfl rfl ?_
                                                          clear hf; intro a hf
                                                          refine any_skip (i := 49) hf rfl (by kernel_rfl) (by kernel_rfl) (by kernel_rfl) (fun _ _ _ h => h) (Wn.some hf rfl rfl rfl rfl) hT rfl rfl ?_
                                                          clear hf; intro a hf
                                                          refine any_skip (i := 50) hf rfl (by kernel_rfl) (by kernel_rfl) (by kernel_rfl) (fun _ _ _ h => h) (Wn.some hf rfl rfl rfl rfl) hT rfl rfl ?_
                                                          clear hf; intro a hf
                                                          refine any_skip (i := 51) hf rfl (by kernel_rfl) (by kernel_rfl) (by kernel_rfl) (fun _ _ _ h => h) (Wn.some hf rfl rfl rfl rfl) hT rfl rfl ?_
                                                          clear hf; intro a hf
                                                          refine any_skip (i := 52) hf rfl (by kernel_rfl) (by kernel_rfl) (by kernel_rfl) (fun _ _ _ h => h) (Wn.some hf rfl rfl rfl rfl) hT rfl rfl ?_
                                                          clear hf; intro a hf
                                                          refine any_skip (i := 53) hf rfl (by kernel_rfl) (by kernel_rfl) (by kernel_rfl) (fun _ _ _ h => h) (Wn.some hf rfl rfl rfl rfl) hT rfl rfl ?_
                                                          clear hf; intro a hf
                                                          refine any_skip (i := 54) hf rfl (by kernel_rfl) (by kernel_rfl) (by kernel_rfl) (fun _ _ _ h => h) (Wn.some hf rfl rfl rfl rfl) hT rfl rfl ?_
                                                          clear hf; intro a hf
                                                          refine any_skip (i := 55) hf rfl (by kernel_rfl) (by kernel_rfl) (by kernel_rfl) (fun _ _ _ h => h) (Wn.some hf rfl rfl rfl rfl) hT rfl rfl ?_
                                                          clear hf; intro a hf
                                                          refine any_take (i := 56) hf rfl (by kernel_rfl) (by kernel_rfl) (by kernel_rfl) (fun _ _ _ h => h) (Wn.none rfl) (rd_pick_f hf rfl rfl rfl) hT rfl rfl ?_
                                                          clear hf; intro a hf
                                                          refine any_done (by kernel_rfl) ?_
                                                          refine t_normal ?_
                                                          refine c_false hf rfl ?_
                                                          refine c_skip ?_
                                                          refine b_normal ?_
                                                          refine t_normal ?_
                                                          refine c_region ?_
                                                          refine step_l (st_rd hf (Wn.none rfl) (rd_add hf rfl rfl rfl (by first | exact Go.IntWalk.i64_in _ (by omega) | exact rfl)) hS rfl rfl ?_)
                                                          clear hf; intro a hf
                                                          refine step_l (st_rd hf (Wn.none rfl) (rd_move hf rfl rfl) hS rfl rfl ?_)
                                                          clear hf; intro a hf
                                                          refine done_l ?_
                                                          refine t_normal ⟨k + 1, ((hf.back (by repeat (first | exact Behind.refl | refine Behind.skip rfl ?_)) hk1).kb hf 80 rfl (by first | rfl | exact int_eq (by omega))), ⟨hS.sub (by repeat (first | exact Sub.refl | exact Sub.none | exact Sub.behind | (apply Sub.cons; (focus ((repeat (first | exact Sel.head | apply Sel.tail)); done))) | apply Sub.skip)), by omega⟩, by first | omega | (simp only []; omega)⟩
                                                          )
                                                      )
                                                  · clear hf; intro hc13 hf
                                                    first
                                                    | (first | exact Bool.noConfusion hc13 | exact absurd rfl hc13 | exact absurd ((hg me).2 rfl h0).1 hc13 | exact absurd hc13 (Int.not_lt.2 ((hg me).2 rfl h0).2) | exact absurd ((hg k).1 (by omega)) hc13 | exact absurd (htold (by omega) (by assumption)) hc13; done)
                                                    | (
                                                      refine any_take (i := 35) hf rfl (by kernel_rfl) (by kernel_rfl) (by kernel_rfl) (fun _ _ _ h => h) (Wn.none rfl) (rd_pick_t hf rfl rfl rfl) hT rfl rfl ?_
                                                      clear hf; intro a hf
                                                      refine any_take (i := 36) hf rfl (by kernel_rfl) (by kernel_rfl) (by kernel_rfl) (fun _ _ _ h => h) (Wn.none rfl) (rd_move hf rfl rfl) hT rfl rfl ?_
                                                      clear hf; intro a hf
                                                      refine any_skip (i := 37) hf rfl (by kernel_rfl) (by kernel_rfl) (by kernel_rfl) (fun _ _ _ h => h) (Wn.some hf rfl rfl rfl rfl) hT rfl rfl ?_
                                                      clear hf; intro a hf
                                                      refine any_skip (i := 38) hf rfl (by kernel_rfl) (by kernel_rfl) (by kernel_rfl) (fun _ _ _ h => h) (Wn.some hf rfl rfl rfl rfl) hT rfl rfl ?_
                                                      clear hf; intro a hf
                                                      refine any_skip (i := 39) hf rfl (by kernel_rfl) (by kernel_rfl) (by kernel_rfl) (fun _ _ _ h => h) (Wn.some hf rfl rfl rfl rfl) hT rfl rfl ?_
                                                      clear hf; intro a hf
                                                      refine any_take (i := 40) hf rfl (by kernel_rfl) (by kernel_rfl) (by kernel_rfl) (fun _ _ _ h => h) (Wn.none rfl) (rd_pick_f hf rfl rfl rfl) hT rfl rfl ?_
                                                      clear hf; intro a hf
                                                      refine any_take (i := 41) hf rfl (by kernel_rfl) (by kernel_rfl) (by kernel_rfl) (fun _ _ _ h => h) (Wn.none rfl) (rd_move hf rfl rfl) hT rfl rfl ?_
                                                      clear hf; intro a hf
                                                      refine any_skip (i := 42) hf rfl (by kernel_rfl) (by kernel_rfl) (by kernel_rfl) (fun _ _ _ h => h) (Wn.some hf rfl rfl rfl rfl) hT rfl rfl ?_
                                                      clear hf; intro a hf
                                                      refine any_skip (i := 43) hf rfl (by kernel_rfl) (by kernel_rfl) (by kernel_rfl) (fun _ _ _ h => h) (Wn.some hf rfl rfl rfl rfl) hT rfl rfl ?_
                                                      clear hf; intro a hf
                                                      refine any_skip (i := 44) hf rfl (by kernel_rfl) (by kernel_rfl) (by kernel_rfl) (fun _ _ _ h => h) (Wn.some hf rfl rfl rfl rfl) hT rfl rfl ?_
                                                      clear hf; intro a hf
                                                      refine any_skip (i := 45) hf rfl (by kernel_rfl) (by kernel_rfl) (by kernel_rfl) (fun _ _ _ h => h) (Wn.some hf rfl rfl rfl rfl) hT rfl rfl ?_
                                                      clear hf; intro a hf
                                                      refine any_skip (i := 46) hf rfl (by kernel_rfl) (by kernel_rfl) (by kernel_rfl) (fun _ _ _ h => h) (Wn.some hf rfl rfl rfl rfl) hT rfl rfl ?_
                                                      clear hf; intro a hf
                                                      refine any_skip (i := 47) hf rfl (by kernel_rfl) (by kernel_rfl) (by kernel_rfl) (fun _ _ _ h => h) (Wn.some hf rfl rfl rfl rfl) hT rfl rfl ?_
                                                      clear hf; intro a hf
                                                      refine any_skip (i := 48) hf rfl (by kernel_rfl) (by kernel_rfl) (by kernel_rfl) (fun _ _ _ h => h) (Wn.some hf rfl rfl rfl rfl) hT rfl rfl ?_
                                                      clear hf; intro a hf
                                                      refine any_skip (i := 49) hf rfl (by kernel_rfl) (by kernel_rfl) (by kernel_rfl) (fun _ _ _ h => h) (Wn.some hf rfl rfl rfl rfl) hT rfl rfl ?_
                                                      clear hf; intro a hf
                                                      refine any_skip (i := 50) hf rfl (by kernel_rfl) (by kernel_rfl) (by kernel_rfl) (fun _ _ _ h => h) (Wn.some hf rfl rfl rfl rfl) hT rfl rfl ?_
                                                      clear hf; intro a hf
                                                      refine any_skip (i := 51) hf rfl (by kernel_rfl) (by kernel_rfl) (by kernel_rfl) (fun _ _ _ h => h) (Wn.some hf rfl rfl rfl rfl) hT rfl rfl ?_
                                                      clear hf; intro a hf
                                                      refine any_skip (i := 52) hf rfl (by kernel_rfl) (by kernel_rfl) (by kernel_rfl) (fun _ _ _ h => h) (Wn.some hf rfl rfl rfl rfl) hT rfl rfl ?_
                                                      clear hf; intro a hf
                                                      refine any_skip (i := 53) hf rfl (by kernel_rfl) (by kernel_rfl) (by kernel_rfl) (fun _ _ _ h => h) (Wn.some hf rfl rfl rfl rfl) hT rfl rfl ?_
                                                      clear hf; intro a hf
                                                      refine any_skip (i := 54) hf rfl (by kernel_rfl) (by kernel_rfl) (by kernel_rfl) (fun _ _ _ h => h) (Wn.some hf rfl rfl rfl rfl) hT rfl rfl ?_
                                                      clear hf; intro a hf
                                                      refine any_skip (i := 55) hf rfl (by kernel_rfl) (by kernel_rfl) (by kernel_rfl) (fun _ _ _ h => h) (Wn.some hf rfl rfl rfl rfl) hT rfl rfl ?_
                                                      clear hf; intro a hf
                                                      refine any_take (i := 56) hf rfl (by kernel_rfl) (by kernel_rfl) (by kernel_rfl) (fun _ _ _ h => h) (Wn.none rfl) (rd_pick_f hf rfl rfl rfl) hT rfl rfl ?_
                                                      clear hf; intro a hf
                                                      refine any_done (by kernel_rfl) ?_
                                                      refine t_normal ?_
                                                      refine c_false hf rfl ?_
                                                      refine c_skip ?_
                                                      refine b_normal ?_
                                                      refine t_normal ?_
                                                      refine c_region ?_
                                                      refine step_l (st_rd hf (Wn.none rfl) (rd_add hf rfl rfl rfl (by first | exact Go.IntWalk.i64_in _ (by omega) | exact rfl)) hS rfl rfl ?_)
                                                      clear hf; intro a hf
                                                      refine step_l (st_rd hf (Wn.none rfl) (rd_move hf rfl rfl) hS rfl rfl ?_)
                                                      clear hf; intro a hf
                                                      refine done_l ?_
                                                      refine t_normal ⟨k + 1, ((hf.back (by repeat (first | exact Behind.refl | refine Behind.skip rfl ?_)) hk1).kb hf 80 rfl (by first | rfl | exact int_eq (by omega))), ⟨hS.sub (by repeat (first | exact Sub.refl | exact Sub.none | exact Sub.behind | (apply Sub.cons; (focus ((repeat (first | exact Sel.head | apply Sel.tail)); done))) | apply Sub.skip)), by omega⟩, by first | omega | (simp only []; omega)⟩
                                                      )
                                                  )
                                              · clear hf; intro hc12 a hf
                                                first
                                                | (first | exact Bool.noConfusion hc12 | exact absurd rfl hc12 | exact absurd ((hg me).2 rfl h0).1 hc12 | exact absurd hc12 (Int.not_lt.2 ((hg me).2 rfl h0).2) | exact absurd ((hg k).1 (by omega)) hc12 | exact absurd (htold (by omega) (by assumption)) hc12; done)
                                                | (
                                                  refine any_take (i := 24) hf rfl (by kernel_rfl) (by kernel_rfl) (by kernel_rfl) (fun _ _ _ h => h) (Wn.none rfl) (rd_pick_t hf rfl rfl rfl) hT rfl rfl ?_
                                                  clear hf; intro a hf
                                                  refine any_take (i := 25) hf rfl (by kernel_rfl) (by kernel_rfl) (by kernel_rfl) (fun _ _ _ h => h) (Wn.none rfl) (rd_move hf rfl rfl) hT rfl rfl ?_
                                                  clear hf; intro a hf
                                                  refine any_skip (i := 26) hf rfl (by kernel_rfl) (by kernel_rfl) (by kernel_rfl) (fun _ _ _ h => h) (Wn.some hf rfl rfl rfl rfl) hT rfl rfl ?_
                                                  clear hf; intro a hf
                                                  refine any_skip (i := 27) hf rfl (by kernel_rfl) (by kernel_rfl) (by kernel_rfl) (fun _ _ _ h => h) (Wn.some hf rfl rfl rfl rfl) hT rfl rfl ?_
                                                  clear hf; intro a hf
                                                  refine any_skip (i := 28) hf rfl (by kernel_rfl) (by kernel_rfl) (by kernel_rfl) (fun _ _ _ h => h) (Wn.some hf rfl rfl rfl rfl) hT rfl rfl ?_
                                                  clear hf; intro a hf
                                                  refine any_skip (i := 29) hf rfl (by kernel_rfl) (by kernel_rfl) (by kernel_rfl) (fun _ _ _ h => h) (Wn.some hf rfl rfl rfl rfl) hT rfl rfl ?_
                                                  clear hf; intro a hf
                                                  refine any_skip (i := 30) hf rfl (by kernel_rfl) (by kernel_rfl) (by kernel_rfl) (fun _ _ _ h => h) (Wn.some hf rfl rfl rfl rfl) hT rfl rfl ?_
                                                  clear hf; intro a hf
                                                  refine any_skip (i := 31) hf rfl (by kernel_rfl) (by kernel_rfl) (by kernel_rfl) (fun _ _ _ h => h) (Wn.some hf rfl rfl rfl rfl) hT rfl rfl ?_
                                                  clear hf; intro a hf
                                                  refine any_skip (i := 32) hf rfl (by kernel_rfl) (by kernel_rfl) (by kernel_rfl) (fun _ _ _ h => h) (Wn.some hf rfl rfl rfl rfl) hT rfl rfl ?_
                                                  clear hf; intro a hf
                                                  refine any_skip (i := 33) hf rfl (by kernel_rfl) (by kernel_rfl) (by kernel_rfl) (fun _ _ _ h => h) (Wn.some hf rfl rfl rfl rfl) hT rfl rfl ?_
                                                  clear hf; intro a hf
                                                  refine any_skip (i := 34) hf rfl (by kernel_rfl) (by kernel_rfl) (by kernel_rfl) (fun _ _ _ h => h) (Wn.some hf rfl rfl rfl rfl) hT rfl rfl ?_
                                                  clear hf; intro a hf
                                                  refine any_take (i := 35) hf rfl (by kernel_rfl) (by kernel_rfl) (by kernel_rfl) (fun _ _ _ h => h) (Wn.none rfl) (rd_pick_f hf rfl rfl rfl) hT rfl rfl ?_
                                                  clear hf; intro a hf
                                                  refine any_take (i := 36) hf rfl (by kernel_rfl) (by kernel_rfl) (by kernel_rfl) (fun _ _ _ h => h) (Wn.none rfl) (rd_move hf rfl rfl) hT rfl rfl ?_
                                                  clear hf; intro a hf
                                                  refine any_skip (i := 37) hf rfl (by kernel_rfl) (by kernel_rfl) (by kernel_rfl) (fun _ _ _ h => h) (Wn.some hf rfl rfl rfl rfl) hT rfl rfl ?_
                                                  clear hf; intro a hf
                                                  refine any_skip (i := 38) hf rfl (by kernel_rfl) (by kernel_rfl) (by kernel_rfl) (fun _ _ _ h => h) (Wn.some hf rfl rfl rfl rfl) hT rfl rfl ?_
                                                  clear hf; intro a hf
                                                  refine any_skip (i := 39) hf rfl (by kernel_rfl) (by kernel_rfl) (by kernel_rfl) (fun _ _ _ h => h) (Wn.some hf rfl rfl rfl rfl) hT rfl rfl ?_
                                                  clear hf; intro a hf
                                                  refine any_take (i := 40) hf rfl (by kernel_rfl) (by kernel_rfl) (by kernel_rfl) (fun _ _ _ h => h) (Wn.none rfl) (rd_pick_f hf rfl rfl rfl) hT rfl rfl ?_
                                                  clear hf; intro a hf
                                                  refine any_take (i := 41) hf rfl (by kernel_rfl) (by kernel_rfl) (by kernel_rfl) (fun _ _ _ h => h) (Wn.none rfl) (rd_move hf rfl rfl) hT rfl rfl ?_
                                                  clear hf; intro a hf
                                                  refine any_skip (i := 42) hf rfl (by kernel_rfl) (by kernel_rfl) (by kernel_rfl) (fun _ _ _ h => h) (Wn.some hf rfl rfl rfl rfl) hT rfl rfl ?_
                                                  clear hf; intro a hf
                                                  refine any_skip (i := 43) hf rfl (by kernel_rfl) (by kernel_rfl) (by kernel_rfl) (fun _ _ _ h => h) (Wn.some hf rfl rfl rfl rfl) hT rfl rfl ?_
                                                  clear hf; intro a hf
                                                  refine any_skip (i := 44) hf rfl (by kernel_rfl) (by kernel_rfl) (by kernel_rfl) (fun _ _ _ h => h) (Wn.some hf rfl rfl rfl rfl) hT rfl rfl ?_
                                                  clear hf; intro a hf
                                                  refine any_skip (i := 45) hf rfl (by kernel_rfl) (by kernel_rfl) (by kernel_rfl) (fun _ _ _ h => h) (Wn.some hf rfl rfl rfl rfl) hT rfl rfl ?_
                                                  clear hf; intro a hf
                                                  refine any_skip (i := 46) hf rfl (by kernel_rfl) (by kernel_rfl) (by kernel_rfl) (fun _ _ _ h => h) (Wn.some hf rfl rfl rfl rfl) hT rfl rfl ?_
                                                  clear hf; intro a hf
                                                  refine any_skip (i := 47) hf rfl (by kernel_rfl) (by kernel_rfl) (by kernel_rfl) (fun _ _ _ h => h) (Wn.some hf rfl rfl rfl rfl) hT rfl rfl ?_
                                                  clear hf; intro a hf
                                                  refine any_skip (i := 48) hf rfl (by kernel_rfl) (by kernel_rfl) (by kernel_rfl) (fun _ _ _ h => h) (Wn.some hf rfl rfl rfl rfl) hT rfl rfl ?_
                                                  clear hf; intro a hf
                                                  refine any_skip (i := 49) hf rfl (by kernel_rfl) (by kernel_rfl) (by kernel_rfl) (fun _ _ _ h => h) (Wn.some hf rfl rfl rfl rfl) hT rfl rfl ?_
                                                  clear hf; intro a hf
                                                  refine any_skip (i := 50) hf rfl (by kernel_rfl) (by kernel_rfl) (by kernel_rfl) (fun _ _ _ h => h) (Wn.some hf rfl rfl rfl rfl) hT rfl rfl ?_
                                                  clear hf; intro a hf
                                                  refine any_skip (i := 51) hf rfl (by kernel_rfl) (by kernel_rfl) (by kernel_rfl) (fun _ _ _ h => h) (Wn.some hf rfl rfl rfl rfl) hT rfl rfl ?_
                                                  clear hf; intro a hf
                                                  refine any_skip (i := 52) hf rfl (by kernel_rfl) (by kernel_rfl) (by kernel_rfl) (fun _ _ _ h => h) (Wn.some hf rfl rfl rfl rfl) hT rfl rfl ?_
                                                  clear hf; intro a hf
                                                  refine any_skip (i := 53) hf rfl (by kernel_rfl) (by kernel_rfl) (by kernel_rfl) (fun _ _ _ h => h) (Wn.some hf rfl rfl rfl rfl) hT rfl rfl ?_
                                                  clear hf; intro a hf
                                                  refine any_skip (i := 54) hf rfl (by kernel_rfl) (by kernel_rfl) (by kernel_rfl) (fun _ _ _ h => h) (Wn.some hf rfl rfl rfl rfl) hT rfl rfl ?_
                                                  clear hf; intro a hf
                                                  refine any_skip (i := 55) hf rfl (by kernel_rfl) (by kernel_rfl) (by kernel_rfl) (fun _ _ _ h => h) (Wn.some hf rfl rfl rfl rfl) hT rfl rfl ?_
                                                  clear hf; intro a hf
                                                  refine any_take (i := 56) hf rfl (by kernel_rfl) (by kernel_rfl) (by kernel_rfl) (fun _ _ _ h => h) (Wn.none rfl) (rd_pick_f hf rfl rfl rfl) hT rfl rfl ?_
                                                  clear hf; intro a hf
                                                  refine any_done (by kernel_rfl) ?_
                                                  refine t_normal ?_
                                                  refine c_false hf rfl ?_
                                                  refine c_skip ?_
                                                  refine b_normal ?_
                                                  refine t_normal ?_
                                                  refine c_region ?_
                                                  refine step_l (st_rd hf (Wn.none rfl) (rd_add hf rfl rfl rfl (by first | exact Go.IntWalk.i64_in _ (by omega) | exact rfl)) hS rfl rfl ?_)
                                                  clear hf; intro a hf
                                                  refine step_l (st_rd hf (Wn.none rfl) (rd_move hf rfl rfl) hS rfl rfl ?_)
                                                  clear hf; intro a hf
                                                  refine done_l ?_
                                                  refine t_normal ⟨k + 1, ((hf.back (by repeat (first | exact Behind.refl | refine Behind.skip rfl ?_)) hk1).kb hf 80 rfl (by first | rfl | exact int_eq (by omega))), ⟨hS.sub (by repeat (first | exact Sub.refl | exact Sub.none | exact Sub.behind | (apply Sub.cons; (focus ((repeat (first | exact Sel.head | apply Sel.tail)); done))) | apply Sub.skip)), by omega⟩, by first | omega | (simp only []; omega)⟩
                                                  )
                                              )
                                          · clear hf; intro hc11 a hf
                                            first
                                            | (first | exact Bool.noConfusion hc11 | exact absurd rfl hc11 | exact absurd ((hg me).2 rfl h0).1 hc11 | exact absurd hc11 (Int.not_lt.2 ((hg me).2 rfl h0).2) | exact absurd ((hg k).1 (by omega)) hc11 | exact absurd (htold (by omega) (by assumption)) hc11; done)
                                            | (
                                              refine any_take (i := 14) hf rfl (by kernel_rfl) (by kernel_rfl) (by kernel_rfl) (fun _ _ _ h => h) (Wn.none rfl) (rd_pick_t hf rfl rfl rfl) hT rfl rfl ?_
                                              clear hf; intro a hf
                                              refine any_take (i := 15) hf rfl (by kernel_rfl) (by kernel_rfl) (by kernel_rfl) (fun _ _ _ h => h) (Wn.none rfl) (rd_move hf rfl rfl) hT rfl rfl ?_
                                              clear hf; intro a hf
                                              refine any_skip (i := 16) hf rfl (by kernel_rfl) (by kernel_rfl) (by kernel_rfl) (fun _ _ _ h => h) (Wn.some hf rfl rfl rfl rfl) hT rfl rfl ?_
                                              clear hf; intro a hf
                                              refine any_skip (i := 17) hf rfl (by kernel_rfl) (by kernel_rfl) (by kernel_rfl) (fun _ _ _ h => h) (Wn.some hf rfl rfl rfl rfl) hT rfl rfl ?_
                                              clear hf; intro a hf
                                              refine any_skip (i := 18) hf rfl (by kernel_rfl) (by kernel_rfl) (by kernel_rfl) (fun _ _ _ h => h) (Wn.some hf rfl rfl rfl rfl) hT rfl rfl ?_
                                              clear hf; intro a hf
                                              refine any_skip (i := 19) hf rfl (by kernel_rfl) (by kernel_rfl) (by kernel_rfl) (fun _ _ _ h => h) (Wn.some hf rfl rfl rfl rfl) hT rfl rfl ?_
                                              clear hf; intro a hf
                                              refine any_skip (i := 20) hf rfl (by kernel_rfl) (by kernel_rfl) (by kernel_rfl) (fun _ _ _ h => h) (Wn.some hf rfl rfl rfl rfl) hT rfl rfl ?_
                                              clear hf; intro a hf
                                              refine any_skip (i := 21) hf rfl (by kernel_rfl) (by kernel_rfl) (by kernel_rfl) (fun _ _ _ h => h) (Wn.some hf rfl rfl rfl rfl) hT rfl rfl ?_
                                              clear hf; intro a hf
                                              refine any_skip (i := 22) hf rfl (by kernel_rfl) (by kernel_rfl) (by kernel_rfl) (fun _ _ _ h => h) (Wn.some hf rfl rfl rfl rfl) hT rfl rfl ?_
                                              clear hf; intro a hf
                                              refine any_skip (i := 23) hf rfl (by kernel_rfl) (by kernel_rfl) (by kernel_rfl) (fun _ _ _ h => h) (Wn.some hf rfl rfl rfl rfl) hT rfl rfl ?_
                                              clear hf; intro a hf
                                              refine any_take (i := 24) hf rfl (by kernel_rfl) (by kernel_rfl) (by kernel_rfl) (fun _ _ _ h => h) (Wn.none rfl) (rd_pick_f hf rfl rfl rfl) hT rfl rfl ?_
                                              clear hf; intro a hf
                                              refine any_take (i := 25) hf rfl (by kernel_rfl) (by kernel_rfl) (by kernel_rfl) (fun _ _ _ h => h) (Wn.none rfl) (rd_move hf rfl rfl) hT rfl rfl ?_
                                              clear hf; intro a hf
                                              refine any_skip (i := 26) hf rfl (by kernel_rfl) (by kernel_rfl) (by kernel_rfl) (fun _ _ _ h => h) (Wn.some hf rfl rfl rfl rfl) hT rfl rfl ?_
                                              clear hf; intro a hf
                                              refine any_skip (i := 27) hf rfl (by kernel_rfl) (by kernel_rfl) (by kernel_rfl) (fun _ _ _ h => h) (Wn.some hf rfl rfl rfl rfl) hT rfl rfl ?_
                                              clear hf; intro a hf
                                              refine any_skip (i := 28) hf rfl (by kernel_rfl) (by kernel_rfl) (by kernel_rfl) (fun _ _ _ h => h) (Wn.some hf rfl rfl rfl rfl) hT rfl rfl ?_
                                              clear hf; intro a hf
                                              refine any_skip (i := 29) hf rfl (by kernel_rfl) (by kernel_rfl) (by kernel_rfl) (fun _ _ _ h => h) (Wn.some hf rfl rfl rfl rfl) hT rfl rfl ?_
                                              clear hf; intro a hf
                                              refine any_skip (i := 30) hf rfl (by kernel_rfl) (by kernel_rfl) (by kernel_rfl) (fun _ _ _ h => h) (Wn.some hf rfl rfl rfl rfl) hT rfl rfl ?_
                                              clear hf; intro a hf
                                              refine any_skip (i := 31) hf rfl (by kernel_rfl) (by kernel_rfl) (by kernel_rfl) (fun _ _ _ h => h) (Wn.some hf rfl rfl rfl rfl) hT rfl rfl ?_
                                              clear hf; intro a hf
                                              refine any_skip (i := 32) hf rfl (by kernel_rfl) (by kernel_rfl) (by kernel_rfl) (fun _ _ _ h => h) (Wn.some hf rfl rfl rfl rfl) hT rfl rfl ?_
                                              clear hf; intro a hf
                                              refine any_skip (i := 33) hf rfl (by kernel_rfl) (by kernel_rfl) (by kernel_rfl) (fun _ _ _ h => h) (Wn.some hf rfl rfl rfl rfl) hT rfl rfl ?_
                                              clear hf; intro a hf
                                              refine any_skip (i := 34) hf rfl (by kernel_rfl) (by kernel_rfl) (by kernel_rfl) (fun _ _ _ h => h) (Wn.some hf rfl rfl rfl rfl) hT rfl rfl ?_
                                              clear hf; intro a hf
                                              refine any_take (i := 35) hf rfl (by kernel_rfl) (by kernel_rfl) (by kernel_rfl) (fun _ _ _ h => h) (Wn.none rfl) (rd_pick_f hf rfl rfl rfl) hT rfl rfl ?_
                                              clear hf; intro a hf
                                              refine any_take (i := 36) hf rfl (by kernel_rfl) (by kernel_rfl) (by kernel_rfl) (fun _ _ _ h => h) (Wn.none rfl) (rd_move hf rfl rfl) hT rfl rfl ?_
                                              clear hf; intro a hf
                                              refine any_skip (i := 37) hf rfl (by kernel_rfl) (by kernel_rfl) (by kernel_rfl) (fun _ _ _ h => h) (Wn.some hf rfl rfl rfl rfl) hT rfl rfl ?_
                                              clear hf; intro a hf
                                              refine any_skip (i := 38) hf rfl (by kernel_rfl) (by kernel_rfl) (by kernel_rfl) (fun _ _ _ h => h) (Wn.some hf rfl rfl rfl rfl) hT rfl rfl ?_
                                              clear hf; intro a hf
                                              refine any_skip (i := 39) hf rfl (by kernel_rfl) (by kernel_rfl) (by kernel_rfl) (fun _ _ _ h => h) (Wn.some hf rfl rfl rfl rfl) hT rfl rfl ?_
                                              clear hf; intro a hf
                                              refine any_take (i := 40) hf rfl (by kernel_rfl) (by kernel_rfl) (by kernel_rfl) (fun _ _ _ h => h) (Wn.none rfl) (rd_pick_f hf rfl rfl rfl) hT rfl rfl ?_
                                              clear hf; intro a hf
                                              refine any_take (i := 41) hf rfl (by kernel_rfl) (by kernel_rfl) (by kernel_rfl) (fun _ _ _ h => h) (Wn.none rfl) (rd_move hf rfl rfl) hT rfl rfl ?_
                                              clear hf; intro a hf
                                              refine any_skip (i := 42) hf rfl (by kernel_rfl) (by kernel_rfl) (by kernel_rfl) (fun _ _ _ h => h) (Wn.some hf rfl rfl rfl rfl) hT rfl rfl ?_
                                              clear hf; intro a hf
                                              refine any_skip (i := 43) hf rfl (by kernel_rfl) (by kernel_rfl) (by kernel_rfl) (fun _ _ _ h => h) (Wn.some hf rfl rfl rfl rfl) hT rfl rfl ?_
                                              clear hf; intro a hf
                                              refine any_skip (i := 44) hf rfl (by kernel_rfl) (by kernel_rfl) (by kernel_rfl) (fun _ _ _ h => h) (Wn.some hf rfl rfl rfl rfl) hT rfl rfl ?_
                                              clear hf; intro a hf
                                              refine any_skip (i := 45) hf rfl (by kernel_rfl) (by kernel_rfl) (by kernel_rfl) (fun _ _ _ h => h) (Wn.some hf rfl rfl rfl rfl) hT rfl rfl ?_
                                              clear hf; intro a hf
                                              refine any_skip (i := 46) hf rfl (by kernel_rfl) (by kernel_rfl) (by kernel_rfl) (fun _ _ _ h => h) (Wn.some hf rfl rfl rfl rfl) hT rfl rfl ?_
                                              clear hf; intro a hf
                                              refine any_skip (i := 47) hf rfl (by kernel_rfl) (by kernel_rfl) (by kernel_rfl) (fun _ _ _ h => h) (Wn.some hf rfl rfl rfl rfl) hT rfl rfl ?_
                                              clear hf; intro a hf
                                              refine any_skip (i := 48) hf rfl (by kernel_rfl) (by kernel_rfl) (by kernel_rfl) (fun _ _ _ h => h) (Wn.some hf rfl rfl rfl rfl) hT rfl rfl ?_
                                              clear hf; intro a hf
                                              refine any_skip (i := 49) hf rfl (by kernel_rfl) (by kernel_rfl) (by kernel_rfl) (fun _ _ _ h => h) (Wn.some hf rfl rfl rfl rfl) hT rfl rfl ?_
                                              clear hf; intro a hf
                                              refine any_skip (i := 50) hf rfl (by kernel_rfl) (by kernel_rfl) (by kernel_rfl) (fun _ _ _ h => h) (Wn.some hf rfl rfl rfl rfl) hT rfl rfl ?_
                                              clear hf; intro a hf
                                              refine any_skip (i := 51) hf rfl (by kernel_rfl) (by kernel_rfl) (by kernel_rfl) (fun _ _ _ h => h) (Wn.some hf rfl rfl rfl rfl) hT rfl rfl ?_
                                              clear hf; intro a hf
                                              refine any_skip (i := 52) hf rfl (by kernel_rfl) (by kernel_rfl) (by kernel_rfl) (fun _ _ _ h => h) (Wn.some hf rfl rfl rfl rfl) hT rfl rfl ?_
                                              clear hf; intro a hf
                                              refine any_skip (i := 53) hf rfl (by kernel_rfl) (by kernel_rfl) (by kernel_rfl) (fun _ _ _ h => h) (Wn.some hf rfl rfl rfl rfl) hT rfl rfl ?_
                                              clear hf; intro a hf
                                              refine any_skip (i := 54) hf rfl (by kernel_rfl) (by kernel_rfl) (by kernel_rfl) (fun _ _ _ h => h) (Wn.some hf rfl rfl rfl rfl) hT rfl rfl ?_
                                              clear hf; intro a hf
                                              refine any_skip (i := 55) hf rfl (by kernel_rfl) (by kernel_rfl) (by kernel_rfl) (fun _ _ _ h => h) (Wn.some hf rfl rfl rfl rfl) hT rfl rfl ?_
                                              clear hf; intro a hf
                                              refine any_take (i := 56) hf rfl (by kernel_rfl) (by kernel_rfl) (by kernel_rfl) (fun _ _ _ h => h) (Wn.none rfl) (rd_pick_f hf rfl rfl rfl) hT rfl rfl ?_
                                              clear hf; intro a hf
                                              refine any_done (by kernel_rfl) ?_
                                              refine t_normal ?_
                                              refine c_false hf rfl ?_
                                              refine c_skip ?_
                                              refine b_normal ?_
                                              refine t_normal ?_
                                              refine c_region ?_
                                              refine step_l (st_rd hf (Wn.none rfl) (rd_add hf rfl rfl rfl (by first | exact Go.IntWalk.i64_in _ (by omega) | exact rfl)) hS rfl rfl ?_)
                                              clear hf; intro a hf
                                              refine step_l (st_rd hf (Wn.none rfl) (rd_move hf rfl rfl) hS rfl rfl ?_)
                                              clear hf; intro a hf
                                              refine done_l ?_
                                              refine t_normal ⟨k + 1, ((hf.back (by repeat (first | exact Behind.refl | refine Behind.skip rfl ?_)) hk1).kb hf 80 rfl (by first | rfl | exact int_eq (by omega))), ⟨hS.sub (by repeat (first | exact Sub.refl | exact Sub.none | exact Sub.behind | (apply Sub.cons; (focus ((repeat (first | exact Sel.head | apply Sel.tail)); done))) | apply Sub.skip)), by omega⟩, by first | omega | (simp only []; omega)⟩
                                              )
                                          )
                                      · clear hf; intro hc10 a hf
                                        first
                                        | (first | exact Bool.noConfusion hc10 | exact absurd rfl hc10 | exact absurd ((hg me).2 rfl h0).1 hc10 | exact absurd hc10 (Int.not_lt.2 ((hg me).2 rfl h0).2) | exact absurd ((hg k).1 (by omega)) hc10 | exact absurd (htold (by omega) (by assumption)) hc10; done)
                                        | (
                                          refine any_take (i := 6) hf rfl (by kernel_rfl) (by kernel_rfl) (by kernel_rfl) (fun _ _ _ h => h) (Wn.none rfl) (rd_move hf rfl rfl) hT rfl rfl ?_
                                          clear hf; intro a hf
                                          refine any_skip (i := 7) hf rfl (by kernel_rfl) (by kernel_rfl) (by kernel_rfl) (fun _ _ _ h => h) (Wn.some hf rfl rfl rfl rfl) hT rfl rfl ?_
                                          clear hf; intro a hf
                                          refine any_skip (i := 8) hf rfl (by kernel_rfl) (by kernel_rfl) (by kernel_rfl) (fun _ _ _ h => h) (Wn.some hf rfl rfl rfl rfl) hT rfl rfl ?_
                                          clear hf; intro a hf
                                          refine any_skip (i := 9) hf rfl (by kernel_rfl) (by kernel_rfl) (by kernel_rfl) (fun _ _ _ h => h) (Wn.some hf rfl rfl rfl rfl) hT rfl rfl ?_
                                          clear hf; intro a hf
                                          refine any_skip (i := 10) hf rfl (by kernel_rfl) (by kernel_rfl) (by kernel_rfl) (fun _ _ _ h => h) (Wn.some hf rfl rfl rfl rfl) hT rfl rfl ?_
                                          clear hf; intro a hf
                                          refine any_skip (i := 11) hf rfl (by kernel_rfl) (by kernel_rfl) (by kernel_rfl) (fun _ _ _ h => h) (Wn.some hf rfl rfl rfl rfl) hT rfl rfl ?_
                                          clear hf; intro a hf
                                          refine any_skip (i := 12) hf rfl (by kernel_rfl) (by kernel_rfl) (by kernel_rfl) (fun _ _ _ h => h) (Wn.some hf rfl rfl rfl rfl) hT rfl rfl ?_
                                          clear hf; intro a hf
                                          refine any_skip (i := 13) hf rfl (by kernel_rfl) (by kernel_rfl) (by kernel_rfl) (fun _ _ _ h => h) (Wn.some hf rfl rfl rfl rfl) hT rfl rfl ?_
                                          clear hf; intro a hf
                                          refine any_take (i := 14) hf rfl (by kernel_rfl) (by kernel_rfl) (by kernel_rfl) (fun _ _ _ h => h) (Wn.none rfl) (rd_pick_f hf rfl rfl rfl) hT rfl rfl ?_
                                          clear hf; intro a hf
                                          refine any_take (i := 15) hf rfl (by kernel_rfl) (by kernel_rfl) (by kernel_rfl) (fun _ _ _ h => h) (Wn.none rfl) (rd_move hf rfl rfl) hT rfl rfl ?_
                                          clear hf; intro a hf
                                          refine any_skip (i := 16) hf rfl (by kernel_rfl) (by kernel_rfl) (by kernel_rfl) (fun _ _ _ h => h) (Wn.some hf rfl rfl rfl rfl) hT rfl rfl ?_
                                          clear hf; intro a hf
                                          refine any_skip (i := 17) hf rfl (by kernel_rfl) (by kernel_rfl) (by kernel_rfl) (fun _ _ _ h => h) (Wn.some hf rfl rfl rfl rfl) hT rfl rfl ?_
                                          clear hf; intro a hf
                                          refine any_skip (i := 18) hf rfl (by kernel_rfl) (by kernel_rfl) (by kernel_rfl) (fun _ _ _ h => h) (Wn.some hf rfl rfl rfl rfl) hT rfl rfl ?_
                                          clear hf; intro a hf
                                          refine any_skip (i := 19) hf rfl (by kernel_rfl) (by kernel_rfl) (by kernel_rfl) (fun _ _ _ h => h) (Wn.some hf rfl rfl rfl rfl) hT rfl rfl ?_
                                          clear hf; intro a hf
                                          refine any_skip (i := 20) hf rfl (by kernel_rfl) (by kernel_rfl) (by kernel_rfl) (fun _ _ _ h => h) (Wn.some hf rfl rfl rfl rfl) hT rfl rfl ?_
                                          clear hf; intro a hf
                                          refine any_skip (i := 21) hf rfl (by kernel_rfl) (by kernel_rfl) (by kernel_rfl) (fun _ _ _ h => h) (Wn.some hf rfl rfl rfl rfl) hT rfl rfl ?_
                                          clear hf; intro a hf
                                          refine any_skip (i := 22) hf rfl (by kernel_rfl) (by kernel_rfl) (by kernel_rfl) (fun _ _ _ h => h) (Wn.some hf rfl rfl rfl rfl) hT rfl rfl ?_
                                          clear hf; intro a hf
                                          refine any_skip (i := 23) hf rfl (by kernel_rfl) (by kernel_rfl) (by kernel_rfl) (fun _ _ _ h => h) (Wn.some hf rfl rfl rfl rfl) hT rfl rfl ?_
                                          clear hf; intro a hf
                                          refine any_take (i := 24) hf rfl (by kernel_rfl) (by kernel_rfl) (by kernel_rfl) (fun _ _ _ h => h) (Wn.none rfl) (rd_pick_f hf rfl rfl rfl) hT rfl rfl ?_
                                          clear hf; intro a hf
                                          refine any_take (i := 25) hf rfl (by kernel_rfl) (by kernel_rfl) (by kernel_rfl) (fun _ _ _ h => h) (Wn.none rfl) (rd_move hf rfl rfl) hT rfl rfl ?_
                                          clear hf; intro a hf
                                          refine any_skip (i := 26) hf rfl (by kernel_rfl) (by kernel_rfl) (by kernel_rfl) (fun _ _ _ h => h) (Wn.some hf rfl rfl rfl rfl) hT rfl rfl ?_
                                          clear hf; intro a hf
                                          refine any_skip (i := 27) hf rfl (by kernel_rfl) (by kernel_rfl) (by kernel_rfl) (fun _ _ _ h => h) (Wn.some hf rfl rfl rfl rfl) hT rfl rfl ?_
                                          clear hf; intro a hf
                                          refine any_skip (i := 28) hf rfl (by kernel_rfl) (by kernel_rfl) (by kernel_rfl) (fun _ _ _ h => h) (Wn.some hf rfl rfl rfl rfl) hT rfl rfl ?_
                                          clear hf; intro a hf
                                          refine any_skip (i := 29) hf rfl (by kernel_rfl) (by kernel_rfl) (by kernel_rfl) (fun _ _ _ h => h) (Wn.some hf rfl rfl rfl rfl) hT rfl rfl ?_
                                          clear hf; intro a hf
                                          refine any_skip (i := 30) hf rfl (by kernel_rfl) (by kernel_rfl) (by kernel_rfl) (fun _ _ _ h => h) (Wn.some hf rfl rfl rfl rfl) hT rfl rfl ?_
                                          clear hf; intro a hf
                                          refine any_skip (i := 31) hf rfl (by kernel_rfl) (by kernel_rfl) (by kernel_rfl) (fun _ _ _ h => h) (Wn.some hf rfl rfl rfl rfl) hT rfl rfl ?_
                                          clear hf; intro a hf
                                          refine any_skip (i := 32) hf rfl (by kernel_rfl) (by kernel_rfl) (by kernel_rfl) (fun _ _ _ h => h) (Wn.some hf rfl rfl rfl rfl) hT rfl rfl ?_
                                          clear hf; intro a hf
                                          refine any_skip (i := 33) hf rfl (by kernel_rfl) (by kernel_rfl) (by kernel_rfl) (fun _ _ _ h => h) (Wn.some hf rfl rfl rfl rfl) hT rfl rfl ?_
                                          clear hf; intro a hf
                                          refine any_skip (i := 34) hf rfl (by kernel_rfl) (by kernel_rfl) (by kernel_rfl) (fun _ _ _ h => h) (Wn.some hf rfl rfl rfl rfl) hT rfl rfl ?_
                                          clear hf; intro a hf
                                          refine any_take (i := 35) hf rfl (by kernel_rfl) (by kernel_rfl) (by kernel_rfl) (fun _ _ _ h => h) (Wn.none rfl) (rd_pick_f hf rfl rfl rfl) hT rfl rfl ?_
                                          clear hf; intro a hf
                                          refine any_take (i := 36) hf rfl (by kernel_rfl) (by kernel_rfl) (by kernel_rfl) (fun _ _ _ h => h) (Wn.none rfl) (rd_move hf rfl rfl) hT rfl rfl ?_
                                          clear hf; intro a hf
                                          refine any_skip (i := 37) hf rfl (by kernel_rfl) (by kernel_rfl) (by kernel_rfl) (fun _ _ _ h => h) (Wn.some hf rfl rfl rfl rfl) hT rfl rfl ?_
                                          clear hf; intro a hf
                                          refine any_skip (i := 38) hf rfl (by kernel_rfl) (by kernel_rfl) (by kernel_rfl) (fun _ _ _ h => h) (Wn.some hf rfl rfl rfl rfl) hT rfl rfl ?_
                                          clear hf; intro a hf
                                          refine any_skip (i := 39) hf rfl (by kernel_rfl) (by kernel_rfl) (by kernel_rfl) (fun _ _ _ h => h) (Wn.some hf rfl rfl rfl rfl) hT rfl rfl ?_
                                          clear hf; intro a hf
                                          refine any_take (i := 40) hf rfl (by kernel_rfl) (by kernel_rfl) (by kernel_rfl) (fun _ _ _ h => h) (Wn.none rfl) (rd_pick_f hf rfl rfl rfl) hT rfl rfl ?_
                                          clear hf; intro a hf
                                          refine any_take (i := 41) hf rfl (by kernel_rfl) (by kernel_rfl) (by kernel_rfl) (fun _ _ _ h => h) (Wn.none rfl) (rd_move hf rfl rfl) hT rfl rfl ?_
                                          clear hf; intro a hf
                                          refine any_skip (i := 42) hf rfl (by kernel_rfl) (by kernel_rfl) (by kernel_rfl) (fun _ _ _ h => h) (Wn.some hf rfl rfl rfl rfl) hT rfl rfl ?_
                                          clear hf; intro a hf
                                          refine any_skip (i := 43) hf rfl (by kernel_rfl) (by kernel_rfl) (by kernel_rfl) (fun _ _ _ h => h) (Wn.some hf rfl rfl rfl rfl) hT rfl rfl ?_
                                          clear hf; intro a hf
                                          refine any_skip (i := 44) hf rfl (by kernel_rfl) (by kernel_rfl) (by kernel_rfl) (fun _ _ _ h => h) (Wn.some hf rfl rfl rfl rfl) hT rfl rfl ?_
                                          clear hf; intro a hf
                                          refine any_skip (i := 45) hf rfl (by kernel_rfl) (by kernel_rfl) (by kernel_rfl) (fun _ _ _ h => h) (Wn.some hf rfl rfl rfl rfl) hT rfl rfl ?_
                                          clear hf; intro a hf
                                          refine any_skip (i := 46) hf rfl (by kernel_rfl) (by kernel_rfl) (by kernel_rfl) (fun _ _ _ h => h) (Wn.some hf rfl rfl rfl rfl) hT rfl rfl ?_
                                          clear hf; intro a hf
                                          refine any_skip (i := 47) hf rfl (by kernel_rfl) (by kernel_rfl) (by kernel_rfl) (fun _ _ _ h => h) (Wn.some hf rfl rfl rfl rfl) hT rfl rfl ?_
                                          clear hf; intro a hf
                                          refine any_skip (i := 48) hf rfl (by kernel_rfl) (by kernel_rfl) (by kernel_rfl) (fun _ _ _ h => h) (Wn.some hf rfl rfl rfl rfl) hT rfl rfl ?_
                                          clear hf; intro a hf
                                          refine any_skip (i := 49) hf rfl (by kernel_rfl) (by kernel_rfl) (by kernel_rfl) (fun _ _ _ h => h) (Wn.some hf rfl rfl rfl rfl) hT rfl rfl ?_
                                          clear hf; intro a hf
                                          refine any_skip (i := 50) hf rfl (by kernel_rfl) (by kernel_rfl) (by kernel_rfl) (fun _ _ _ h => h) (Wn.some hf rfl rfl rfl rfl) hT rfl rfl ?_
                                          clear hf; intro a hf
                                          refine any_skip (i := 51) hf rfl (by kernel_rfl) (by kernel_rfl) (by kernel_rfl) (fun _ _ _ h => h) (Wn.some hf rfl rfl rfl rfl) hT rfl rfl ?_
                                          clear hf; intro a hf
                                          refine any_skip (i := 52) hf rfl (by kernel_rfl) (by kernel_rfl) (by kernel_rfl) (fun _ _ _ h => h) (Wn.some hf rfl rfl rfl rfl) hT rfl rfl ?_
                                          clear hf; intro a hf
                                          refine any_skip (i := 53) hf rfl (by kernel_rfl) (by kernel_rfl) (by kernel_rfl) (fun _ _ _ h => h) (Wn.some hf rfl rfl rfl rfl) hT rfl rfl ?_
                                          clear hf; intro a hf
                                          refine any_skip (i := 54) hf rfl (by kernel_rfl) (by kernel_rfl) (by kernel_rfl) (fun _ _ _ h => h) (Wn.some hf rfl rfl rfl rfl) hT rfl rfl ?_
                                          clear hf; intro a hf
                                          refine any_skip (i := 55) hf rfl (by kernel_rfl) (by kernel_rfl) (by kernel_rfl) (fun _ _ _ h => h) (Wn.some hf rfl rfl rfl rfl) hT rfl rfl ?_
                                          clear hf; intro a hf
                                          refine any_take (i := 56) hf rfl (by kernel_rfl) (by kernel_rfl) (by kernel_rfl) (fun _ _ _ h => h) (Wn.none rfl) (rd_pick_f hf rfl rfl rfl) hT rfl rfl ?_
                                          clear hf; intro a hf
                                          refine any_done (by kernel_rfl) ?_
                                          refine t_normal ?_
                                          refine c_false hf rfl ?_
                                          refine c_skip ?_
                                          refine b_normal ?_
                                          refine t_normal ?_
                                          refine c_region ?_
                                          refine step_l (st_rd hf (Wn.none rfl) (rd_add hf rfl rfl rfl (by first | exact Go.IntWalk.i64_in _ (by omega) | exact rfl)) hS rfl rfl ?_)
                                          clear hf; intro a hf
                                          refine step_l (st_rd hf (Wn.none rfl) (rd_move hf rfl rfl) hS rfl rfl ?_)
                                          clear hf; intro a hf
                                          refine done_l ?_
                                          refine t_normal ⟨k + 1, ((hf.back (by repeat (first | exact Behind.refl | refine Behind.skip rfl ?_)) hk1).kb hf 80 rfl (by first | rfl | exact int_eq (by omega))), ⟨hS.sub (by repeat (first | exact Sub.refl | exact Sub.none | exact Sub.behind | (apply Sub.cons; (focus ((repeat (first | exact Sel.head | apply Sel.tail)); done))) | apply Sub.skip)), by omega⟩, by first | omega | (simp only []; omega)⟩
                                          )
                                      )
                                  · clear hf; intro hc9 hf
                                    first
                                    | (first | exact Bool.noConfusion hc9 | exact absurd rfl hc9 | exact absurd ((hg me).2 rfl h0).1 hc9 | exact absurd hc9 (Int.not_lt.2 ((hg me).2 rfl h0).2) | exact absurd ((hg k).1 (by omega)) hc9 | exact absurd (htold (by omega) (by assumption)) hc9; done)
                                    | (
                                      refine any_take (i := 13) hf rfl (by kernel_rfl) (by kernel_rfl) (by kernel_rfl) (fun _ _ _ h => h) (Wn.some hf rfl rfl rfl rfl) (rd_not hf rfl rfl) hT rfl rfl ?_
                                      clear hf; intro a hf
                                      refine any_take (i := 14) hf rfl (by kernel_rfl) (by kernel_rfl) (by kernel_rfl) (fun _ _ _ h => h) (Wn.none rfl) (rd_pick_t hf rfl rfl rfl) hT rfl rfl ?_
                                      clear hf; intro a hf
                                      refine any_done (by kernel_rfl) ?_
                                      refine t_normal ?_
                                      refine c_true hf rfl ?_
                                      refine c_seq ?_
                                      refine c_region ?_
                                      refine step_l (st_rd hf (Wn.none rfl) (rd_assign hf rfl rfl) hS rfl rfl ?_)
                                      clear hf; intro a hf
                                      refine done_l ?_
                                      refine t_normal ?_
                                      refine c_ret ?_
                                      refine t_ret ?_
                                      refine b_ret ?_
                                      refine t_ret ?_
                                      refine t_ret ?_
                                      refine b_ret ?_
                                      refine t_ret ?_
                                      refine b_ret ?_
                                      refine t_ret ?_
                                      refine t_ret ?_
                                      refine b_ret ?_
                                      refine t_ret ?_
                                      refine e_res1 hf.defers rfl (res_tmp hf rfl .nil) ?_
                                      exact ⟨rfl, hS.sub (by repeat (first | exact Sub.refl | exact Sub.none | exact Sub.behind | (apply Sub.cons; (focus ((repeat (first | exact Sel.head | apply Sel.tail)); done))) | apply Sub.skip))⟩
                                      )
                                  )
                              · clear hf; intro hc8 a hf
                                first
                                | (first | exact Bool.noConfusion hc8 | exact absurd rfl hc8 | exact absurd ((hg me).2 rfl h0).1 hc8 | exact absurd hc8 (Int.not_lt.2 ((hg me).2 rfl h0).2) | exact absurd ((hg k).1 (by omega)) hc8 | exact absurd (htold (by omega) (by assumption)) hc8; done)
                                | (
                                  refine any_take (i := 3) hf rfl (by kernel_rfl) (by kernel_rfl) (by kernel_rfl) (fun _ _ _ h => h) (Wn.none rfl) (rd_move hf rfl rfl) hT rfl rfl ?_
                                  clear hf; intro a hf
                                  refine any_skip (i := 4) hf rfl (by kernel_rfl) (by kernel_rfl) (by kernel_rfl) (fun _ _ _ h => h) (Wn.some hf rfl rfl rfl rfl) hT rfl rfl ?_
                                  clear hf; intro a hf
                                  refine any_skip (i := 5) hf rfl (by kernel_rfl) (by kernel_rfl) (by kernel_rfl) (fun _ _ _ h => h) (Wn.some hf rfl rfl rfl rfl) hT rfl rfl ?_
                                  clear hf; intro a hf
                                  refine any_skip (i := 6) hf rfl (by kernel_rfl) (by kernel_rfl) (by kernel_rfl) (fun _ _ _ h => h) (Wn.some hf rfl rfl rfl rfl) hT rfl rfl ?_
                                  clear hf; intro a hf
                                  refine any_skip (i := 7) hf rfl (by kernel_rfl) (by kernel_rfl) (by kernel_rfl) (fun _ _ _ h => h) (Wn.some hf rfl rfl rfl rfl) hT rfl rfl ?_
                                  clear hf; intro a hf
                                  refine any_skip (i := 8) hf rfl (by kernel_rfl) (by kernel_rfl) (by kernel_rfl) (fun _ _ _ h => h) (Wn.some hf rfl rfl rfl rfl) hT rfl rfl ?_
                                  clear hf; intro a hf
                                  refine any_skip (i := 9) hf rfl (by kernel_rfl) (by kernel_rfl) (by kernel_rfl) (fun _ _ _ h => h) (Wn.some hf rfl rfl rfl rfl) hT rfl rfl ?_
                                  clear hf; intro a hf
                                  refine any_skip (i := 10) hf rfl (by kernel_rfl) (by kernel_rfl) (by kernel_rfl) (fun _ _ _ h => h) (Wn.some hf rfl rfl rfl rfl) hT rfl rfl ?_
                                  clear hf; intro a hf
                                  refine any_skip (i := 11) hf rfl (by kernel_rfl) (by kernel_rfl) (by kernel_rfl) (fun _ _ _ h => h) (Wn.some hf rfl rfl rfl rfl) hT rfl rfl ?_
                                  clear hf; intro a hf
                                  refine any_skip (i := 12) hf rfl (by kernel_rfl) (by kernel_rfl) (by kernel_rfl) (fun _ _ _ h => h) (Wn.some hf rfl rfl rfl rfl) hT rfl rfl ?_
                                  clear hf; intro a hf
                                  refine any_skip (i := 13) hf rfl (by kernel_rfl) (by kernel_rfl) (by kernel_rfl) (fun _ _ _ h => h) (Wn.some hf rfl rfl rfl rfl) hT rfl rfl ?_
                                  clear hf; intro a hf
                                  refine any_take (i := 14) hf rfl (by kernel_rfl) (by kernel_rfl) (by kernel_rfl) (fun _ _ _ h => h) (Wn.none rfl) (rd_pick_f hf rfl rfl rfl) hT rfl rfl ?_
                                  clear hf; intro a hf
                                  refine any_done (by kernel_rfl) ?_
                                  refine t_normal ?_
                                  refine c_false hf rfl ?_
                                  refine c_skip ?_
                                  refine t_normal ?_
                                  refine c_seq ?_
                                  refine any_begin mixed hS.drew ?_
                                  replace hS := hS.drew
                                  have hT := hS
                                  refine any_take (i := 0) hf rfl (by kernel_rfl) (by kernel_rfl) (by kernel_rfl) (fun _ _ _ h => h) (Wn.none rfl) (rd_move hf rfl rfl) hT rfl rfl ?_
                                  clear hf; intro a hf
                                  refine any_take (i := 1) hf rfl (by kernel_rfl) (by kernel_rfl) (by kernel_rfl) (fun _ _ _ h => h) (Wn.none rfl) (rd_move hf rfl rfl) hT rfl rfl ?_
                                  clear hf; intro a hf
                                  refine any_take (i := 2) hf rfl (by kernel_rfl) (by kernel_rfl) (by kernel_rfl) (fun _ _ _ h => h) (Wn.none rfl) ((by first | exact rd_indexAddrN hf rfl rfl rfl Try.underlying37 sz42 (by omega) | exact rd_indexAddr hf rfl rfl rfl Try.underlying37 sz42 (by first | decide | omega) (by omega))) hT rfl rfl ?_
                                  clear hf; intro a hf
                                  refine any_take (i := 3) hf rfl (by kernel_rfl) (by kernel_rfl) (by kernel_rfl) (fun _ _ _ h => h) (Wn.none rfl) ((by first | exact rd_fieldAddrB hf rfl rfl fb42_0 rfl | exact rd_fieldAddr hf rfl rfl fb42_0)) hT rfl rfl ?_
                                  clear hf; intro a hf
                                  refine any_take (i := 4) hf rfl (by kernel_rfl) (by kernel_rfl) (by kernel_rfl) (fun _ _ _ h => h) (Wn.none rfl) (rd_load1 hf rfl rfl ag3 (by intro _ h; exact (hvl _ (h.sub (by repeat (first | exact Sub.refl | exact Sub.none | exact Sub.behind | (apply Sub.cons; (focus ((repeat (first | exact Sel.head | apply Sel.tail)); done))) | apply Sub.skip)))).fld vcC_len hget rfl)) hT rfl rfl ?_
                                  clear hf; intro a hf
                                  refine any_takeB (i := 5) hf rfl (by kernel_rfl) (by kernel_rfl) (by kernel_rfl) (fun _ _ _ _ h => h) (Wn.none rfl) (rd_eql hf rfl rfl rfl) hT rfl rfl ?_ ?_
                                  · clear hf; intro hc16 a hf
                                    first
                                    | (first | exact Bool.noConfusion hc16 | exact absurd rfl hc16 | exact absurd ((hg me).2 rfl h0).1 hc16 | exact absurd hc16 (Int.not_lt.2 ((hg me).2 rfl h0).2) | exact absurd ((hg k).1 (by omega)) hc16 | exact absurd (htold (by omega) (by assumption)) hc16; done)
                                    | (
                                      refine any_take (i := 6) hf rfl (by kernel_rfl) (by kernel_rfl) (by kernel_rfl) (fun _ _ _ h => h) (Wn.none rfl) (rd_move hf rfl rfl) hT rfl rfl ?_
                                      clear hf; intro a hf
                                      refine any_take (i := 7) hf rfl (by kernel_rfl) (by kernel_rfl) (by kernel_rfl) (fun _ _ _ h => h) (Wn.some hf rfl rfl rfl rfl) (rd_move hf rfl rfl) hT rfl rfl ?_
                                      clear hf; intro a hf
                                      refine any_take (i := 8) hf rfl (by kernel_rfl) (by kernel_rfl) (by kernel_rfl) (fun _ _ _ h => h) (Wn.some hf rfl rfl rfl rfl) (rd_move hf rfl rfl) hT rfl rfl ?_
                                      clear hf; intro a hf
                                      refine any_take (i := 9) hf rfl (by kernel_rfl) (by kernel_rfl) (by kernel_rfl) (fun _ _ _ h => h) (Wn.some hf rfl rfl rfl rfl) ((by first | exact rd_indexAddrN hf rfl rfl rfl Try.underlying37 sz42 (by omega) | exact rd_indexAddr hf rfl rfl rfl Try.underlying37 sz42 (by first | decide | omega) (by omega))) hT rfl rfl ?_
                                      clear hf; intro a hf
                                      refine any_take (i := 10) hf rfl (by kernel_rfl) (by kernel_rfl) (by kernel_rfl) (fun _ _ _ h => h) (Wn.some hf rfl rfl rfl rfl) ((by first | exact rd_fieldAddrB hf rfl rfl fb42_2 rfl | exact rd_fieldAddr hf rfl rfl fb42_2)) hT rfl rfl ?_
                                      clear hf; intro a hf
                                      refine any_take (i := 11) hf rfl (by kernel_rfl) (by kernel_rfl) (by kernel_rfl) (fun _ _ _ h => h) (Wn.some hf rfl rfl rfl rfl) (rd_load1 hf rfl rfl ag34 (by intro _ h; exact (hvl _ (h.sub (by repeat (first | exact Sub.refl | exact Sub.none | exact Sub.behind | (apply Sub.cons; (focus ((repeat (first | exact Sel.head | apply Sel.tail)); done))) | apply Sub.skip)))).fld vcC_len hget rfl)) hT rfl rfl ?_
                                      clear hf; intro a hf
                                      refine any_take (i := 12) hf rfl (by kernel_rfl) (by kernel_rfl) (by kernel_rfl) (fun _ _ _ h => h) (Wn.some hf rfl rfl rfl rfl) (rd_len hf rfl rfl Try.underlying34) hT rfl rfl ?_
                                      clear hf; intro a hf
                                      refine any_takeB (i := 13) hf rfl (by kernel_rfl) (by kernel_rfl) (by kernel_rfl) (fun _ _ _ _ h => h) (Wn.some hf rfl rfl rfl rfl) (rd_leq hf rfl rfl rfl) hT rfl rfl ?_ ?_
                                      · clear hf; intro hc17 a hf
                                        first
                                        | (first | exact Bool.noConfusion hc17 | exact absurd rfl hc17 | exact absurd ((hg me).2 rfl h0).1 hc17 | exact absurd hc17 (Int.not_lt.2 ((hg me).2 rfl h0).2) | exact absurd ((hg k).1 (by omega)) hc17 | exact absurd (htold (by omega) (by assumption)) hc17; done)
                                        | (
                                          refine any_take (i := 14) hf rfl (by kernel_rfl) (by kernel_rfl) (by kernel_rfl) (fun _ _ _ h => h) (Wn.none rfl) (rd_pick_t hf rfl rfl rfl) hT rfl rfl ?_
                                          clear hf; intro a hf
                                          refine any_take (i := 15) hf rfl (by kernel_rfl) (by kernel_rfl) (by kernel_rfl) (fun _ _ _ h => h) (Wn.none rfl) (rd_move hf rfl rfl) hT rfl rfl ?_
                                          clear hf; intro a hf
                                          refine any_take (i := 16) hf rfl (by kernel_rfl) (by kernel_rfl) (by kernel_rfl) (fun _ _ _ h => h) (Wn.some hf rfl rfl rfl rfl) (rd_move hf rfl rfl) hT rfl rfl ?_
                                          clear hf; intro a hf
                                          refine any_take (i := 17) hf rfl (by kernel_rfl) (by kernel_rfl) (by kernel_rfl) (fun _ _ _ h => h) (Wn.some hf rfl rfl rfl rfl) (rd_move hf rfl rfl) hT rfl rfl ?_
                                          clear hf; intro a hf
                                          refine any_take (i := 18) hf rfl (by kernel_rfl) (by kernel_rfl) (by kernel_rfl) (fun _ _ _ h => h) (Wn.some hf rfl rfl rfl rfl) (rd_move hf rfl rfl) hT rfl rfl ?_
                                          clear hf; intro a hf
                                          refine any_take (i := 19) hf rfl (by kernel_rfl) (by kernel_rfl) (by kernel_rfl) (fun _ _ _ h => h) (Wn.some hf rfl rfl rfl rfl) ((by first | exact rd_indexAddrN hf rfl rfl rfl Try.underlying37 sz42 (by omega) | exact rd_indexAddr hf rfl rfl rfl Try.underlying37 sz42 (by first | decide | omega) (by omega))) hT rfl rfl ?_
                                          clear hf; intro a hf
                                          refine any_take (i := 20) hf rfl (by kernel_rfl) (by kernel_rfl) (by kernel_rfl) (fun _ _ _ h => h) (Wn.some hf rfl rfl rfl rfl) ((by first | exact rd_fieldAddrB hf rfl rfl fb42_2 rfl | exact rd_fieldAddr hf rfl rfl fb42_2)) hT rfl rfl ?_
                                          clear hf; intro a hf
                                          refine any_take (i := 21) hf rfl (by kernel_rfl) (by kernel_rfl) (by kernel_rfl) (fun _ _ _ h => h) (Wn.some hf rfl rfl rfl rfl) (rd_load1 hf rfl rfl ag34 (by intro _ h; exact (hvl _ (h.sub (by repeat (first | exact Sub.refl | exact Sub.none | exact Sub.behind | (apply Sub.cons; (focus ((repeat (first | exact Sel.head | apply Sel.tail)); done))) | apply Sub.skip)))).fld vcC_len hget rfl)) hT rfl rfl ?_
                                          clear hf; intro a hf
                                          refine any_take (i := 22) hf rfl (by kernel_rfl) (by kernel_rfl) (by kernel_rfl) (fun _ _ _ h => h) (Wn.some hf rfl rfl rfl rfl) (rd_len hf rfl rfl Try.underlying34) hT rfl rfl ?_
                                          clear hf; intro a hf
                                          refine any_takeB (i := 23) hf rfl (by kernel_rfl) (by kernel_rfl) (by kernel_rfl) (fun _ _ _ _ h => h) (Wn.some hf rfl rfl rfl rfl) (rd_lss hf rfl rfl rfl) hT rfl rfl ?_ ?_
                                          · clear hf; intro hc18 a hf
                                            obtain ⟨m2, hgL⟩ := get_of_lt (l := x.2.2.1.2.2) (k := k) (by omega) rfl; obtain ⟨adm, hadm⟩ := (hx.view _ (hS.sub (by repeat (first | exact Sub.refl | exact Sub.none | exact Sub.behind | (apply Sub.cons; (focus ((repeat (first | exact Sel.head | apply Sel.tail)); done))) | apply Sub.skip)))).some (by omega)
                                            have htold : k ≠ me → mayP m2.1 m2.2.1 → leM m2 (gm (doS x s) k) := fun h1 h2 => told_do hr.sok (by assumption) (by show ¬ 20 < x.2.2.1.2.2.length; omega) hkn hgL (by rw [hme2]; exact h1) h2
                                            first
                                            | (first | exact Bool.noConfusion hc18 | exact absurd rfl hc18 | exact absurd ((hg me).2 rfl h0).1 hc18 | exact absurd hc18 (Int.not_lt.2 ((hg me).2 rfl h0).2) | exact absurd ((hg k).1 (by omega)) hc18 | exact absurd (htold (by omega) (by assumption)) hc18; done)
                                            | (
                                              refine any_take (i := 24) hf rfl (by kernel_rfl) (by kernel_rfl) (by kernel_rfl) (fun _ _ _ h => h) (Wn.none rfl) (rd_pick_t hf rfl rfl rfl) hT rfl rfl ?_
                                              clear hf; intro a hf
                                              refine any_take (i := 25) hf rfl (by kernel_rfl) (by kernel_rfl) (by kernel_rfl) (fun _ _ _ h => h) (Wn.none rfl) (rd_move hf rfl rfl) hT rfl rfl ?_
                                              clear hf; intro a hf
                                              refine any_take (i := 26) hf rfl (by kernel_rfl) (by kernel_rfl) (by kernel_rfl) (fun _ _ _ h => h) (Wn.some hf rfl rfl rfl rfl) (rd_move hf rfl rfl) hT rfl rfl ?_
                                              clear hf; intro a hf
                                              refine any_take (i := 27) hf rfl (by kernel_rfl) (by kernel_rfl) (by kernel_rfl) (fun _ _ _ h => h) (Wn.some hf rfl rfl rfl rfl) (rd_move hf rfl rfl) hT rfl rfl ?_
                                              clear hf; intro a hf
                                              refine any_take (i := 28) hf rfl (by kernel_rfl) (by kernel_rfl) (by kernel_rfl) (fun _ _ _ h => h) (Wn.some hf rfl rfl rfl rfl) ((by first | exact rd_indexAddrN hf rfl rfl rfl Try.underlying37 sz42 (by omega) | exact rd_indexAddr hf rfl rfl rfl Try.underlying37 sz42 (by first | decide | omega) (by omega))) hT rfl rfl ?_
                                              clear hf; intro a hf
                                              refine any_take (i := 29) hf rfl (by kernel_rfl) (by kernel_rfl) (by kernel_rfl) (fun _ _ _ h => h) (Wn.some hf rfl rfl rfl rfl) ((by first | exact rd_fieldAddrB hf rfl rfl fb42_2 rfl | exact rd_fieldAddr hf rfl rfl fb42_2)) hT rfl rfl ?_
                                              clear hf; intro a hf
                                              refine any_take (i := 30) hf rfl (by kernel_rfl) (by kernel_rfl) (by kernel_rfl) (fun _ _ _ h => h) (Wn.some hf rfl rfl rfl rfl) (rd_load1 hf rfl rfl ag34 (by intro _ h; exact (hvl _ (h.sub (by repeat (first | exact Sub.refl | exact Sub.none | exact Sub.behind | (apply Sub.cons; (focus ((repeat (first | exact Sel.head | apply Sel.tail)); done))) | apply Sub.skip)))).fld vcC_len hget (show (vcC x)[2]? = some (.slice (some adm) x.2.2.1.2.2.length x.2.2.1.2.1) from by rw [← hadm]; rfl))) hT rfl rfl ?_
                                              clear hf; intro a hf
                                              refine any_take (i := 31) hf rfl (by kernel_rfl) (by kernel_rfl) (by kernel_rfl) (fun _ _ _ h => h) (Wn.some hf rfl rfl rfl rfl) (rd_move hf rfl rfl) hT rfl rfl ?_
                                              clear hf; intro a hf
                                              refine any_take (i := 32) hf rfl (by kernel_rfl) (by kernel_rfl) (by kernel_rfl) (fun _ _ _ h => h) (Wn.some hf rfl rfl rfl rfl) ((by first | exact rd_indexAddrN hf rfl rfl rfl Try.underlying34 sz31 (by omega) | exact rd_indexAddr hf rfl rfl rfl Try.underlying34 sz31 (by first | decide | omega) (by omega))) hT rfl rfl ?_
                                              clear hf; intro a hf
                                              refine any_take (i := 33) hf rfl (by kernel_rfl) (by kernel_rfl) (by kernel_rfl) (fun _ _ _ h => h) (Wn.some hf rfl rfl rfl rfl) (rd_loadN hf rfl rfl ag31 sz31 (by intro _ h; exact (by have hv3 := hx.view _ (h.sub (by repeat (first | exact Sub.refl | exact Sub.none | exact Sub.behind | (apply Sub.cons; (focus ((repeat (first | exact Sel.head | apply Sel.tail)); done))) | apply Sub.skip))); rw [hadm] at hv3; exact hv3.elem memC_len hgL))) hT rfl rfl ?_
                                              clear hf; intro a hf
                                              refine any_one (i := 34) rfl (by kernel_rfl) (st_call hf (Wn.some hf rfl rfl rfl rfl) rfl rfl rfl fn25 (MMay_c _ _ hS) rfl rfl ?_)
                                              clear hf hS; rintro v a w ⟨rfl, hS⟩ hf
                                              replace hT := hS.sub' hT (by repeat (first | exact Sub.refl | exact Sub.none | exact Sub.behind | (apply Sub.cons; (focus ((repeat (first | exact Sel.head | apply Sel.tail)); done))) | apply Sub.skip))
                                              refine ⟨hT, ?_⟩
                                              first | refine split_dec (d := 132) hf rfl ?_ ?_ | refine split_bool (d := 132) hf rfl ?_ ?_
                                              · clear hf; intro hc19 hf
                                                first
                                                | (first | exact Bool.noConfusion hc19 | exact absurd rfl hc19 | exact absurd ((hg me).2 rfl h0).1 hc19 | exact absurd hc19 (Int.not_lt.2 ((hg me).2 rfl h0).2) | exact absurd ((hg k).1 (by omega)) hc19 | exact absurd (htold (by omega) (by assumption)) hc19; done)
                                                | (
                                                  refine any_take (i := 35) hf rfl (by kernel_rfl) (by kernel_rfl) (by kernel_rfl) (fun _ _ _ h => h) (Wn.none rfl) (rd_pick_t hf rfl rfl rfl) hT rfl rfl ?_
                                                  clear hf; intro a hf
                                                  refine any_take (i := 36) hf rfl (by kernel_rfl) (by kernel_rfl) (by kernel_rfl) (fun _ _ _ h => h) (Wn.none rfl) (rd_move hf rfl rfl) hT rfl rfl ?_
                                                  clear hf; intro a hf
                                                  refine any_take (i := 37) hf rfl (by kernel_rfl) (by kernel_rfl) (by kernel_rfl) (fun _ _ _ h => h) (Wn.some hf rfl rfl rfl rfl) (rd_move hf rfl rfl) hT rfl rfl ?_
                                                  clear hf; intro a hf
                                                  refine any_take (i := 38) hf rfl (by kernel_rfl) (by kernel_rfl) (by kernel_rfl) (fun _ _ _ h => h) (Wn.some hf rfl rfl rfl rfl) (rd_move hf rfl rfl) hT rfl rfl ?_
                                                  clear hf; intro a hf
                                                  refine any_takeB (i := 39) hf rfl (by kernel_rfl) (by kernel_rfl) (by kernel_rfl) (fun _ _ _ _ h => h) (Wn.some hf rfl rfl rfl rfl) (rd_neq hf rfl rfl rfl) hT rfl rfl ?_ ?_
                                                  · clear hf; intro hc20 a hf
                                                    first
                                                    | (first | exact Bool.noConfusion hc20 | exact absurd rfl hc20 | exact absurd ((hg me).2 rfl h0).1 hc20 | exact absurd hc20 (Int.not_lt.2 ((hg me).2 rfl h0).2) | exact absurd ((hg k).1 (by omega)) hc20 | exact absurd (htold (by omega) (by assumption)) hc20; done)
                                                    | (
                                                      refine any_take (i := 40) hf rfl (by kernel_rfl) (by kernel_rfl) (by kernel_rfl) (fun _ _ _ h => h) (Wn.none rfl) (rd_pick_t hf rfl rfl rfl) hT rfl rfl ?_
                                                      clear hf; intro a hf
                                                      refine any_take (i := 41) hf rfl (by kernel_rfl) (by kernel_rfl) (by kernel_rfl) (fun _ _ _ h => h) (Wn.none rfl) (rd_move hf rfl rfl) hT rfl rfl ?_
                                                      clear hf; intro a hf
                                                      refine any_take (i := 42) hf rfl (by kernel_rfl) (by kernel_rfl) (by kernel_rfl) (fun _ _ _ h => h) (Wn.some hf rfl rfl rfl rfl) (rd_move hf rfl rfl) hT rfl rfl ?_
                                                      clear hf; intro a hf
                                                      refine any_take (i := 43) hf rfl (by kernel_rfl) (by kernel_rfl) (by kernel_rfl) (fun _ _ _ h => h) (Wn.some hf rfl rfl rfl rfl) (rd_move hf rfl rfl) hT rfl rfl ?_
                                                      clear hf; intro a hf
                                                      refine any_take (i := 44) hf rfl (by kernel_rfl) (by kernel_rfl) (by kernel_rfl) (fun _ _ _ h => h) (Wn.some hf rfl rfl rfl rfl) ((by first | exact rd_indexAddrN hf rfl rfl rfl Try.underlying37 sz42 (by omega) | exact rd_indexAddr hf rfl rfl rfl Try.underlying37 sz42 (by first | decide | omega) (by omega))) hT rfl rfl ?_
                                                      clear hf; intro a hf
                                                      refine any_take (i := 45) hf rfl (by kernel_rfl) (by kernel_rfl) (by kernel_rfl) (fun _ _ _ h => h) (Wn.some hf rfl rfl rfl rfl) ((by first | exact rd_fieldAddrB hf rfl rfl fb42_2 rfl | exact rd_fieldAddr hf rfl rfl fb42_2)) hT rfl rfl ?_
                                                      clear hf; intro a hf
                                                      refine any_take (i := 46) hf rfl (by kernel_rfl) (by kernel_rfl) (by kernel_rfl) (fun _ _ _ h => h) (Wn.some hf rfl rfl rfl rfl) (rd_load1 hf rfl rfl ag34 (by intro _ h; exact (hvl _ (h.sub (by repeat (first | exact Sub.refl | exact Sub.none | exact Sub.behind | (apply Sub.cons; (focus ((repeat (first | exact Sel.head | apply Sel.tail)); done))) | apply Sub.skip)))).fld vcC_len hget (show (vcC x)[2]? = some (.slice (some adm) x.2.2.1.2.2.length x.2.2.1.2.1) from by rw [← hadm]; rfl))) hT rfl rfl ?_
                                                      clear hf; intro a hf
                                                      refine any_take (i := 47) hf rfl (by kernel_rfl) (by kernel_rfl) (by kernel_rfl) (fun _ _ _ h => h) (Wn.some hf rfl rfl rfl rfl) (rd_move hf rfl rfl) hT rfl rfl ?_
                                                      clear hf; intro a hf
                                                      refine any_take (i := 48) hf rfl (by kernel_rfl) (by kernel_rfl) (by kernel_rfl) (fun _ _ _ h => h) (Wn.some hf rfl rfl rfl rfl) ((by first | exact rd_indexAddrN hf rfl rfl rfl Try.underlying34 sz31 (by omega) | exact rd_indexAddr hf rfl rfl rfl Try.underlying34 sz31 (by first | decide | omega) (by omega))) hT rfl rfl ?_
                                                      clear hf; intro a hf
                                                      refine any_take (i := 49) hf rfl (by kernel_rfl) (by kernel_rfl) (by kernel_rfl) (fun _ _ _ h => h) (Wn.some hf rfl rfl rfl rfl) (rd_loadN hf rfl rfl ag31 sz31 (by intro _ h; exact (by have hv3 := hx.view _ (h.sub (by repeat (first | exact Sub.refl | exact Sub.none | exact Sub.behind | (apply Sub.cons; (focus ((repeat (first | exact Sel.head | apply Sel.tail)); done))) | apply Sub.skip))); rw [hadm] at hv3; exact hv3.elem memC_len hgL))) hT rfl rfl ?_
                                                      clear hf; intro a hf
                                                      refine any_take (i := 50) hf rfl (by kernel_rfl) (by kernel_rfl) (by kernel_rfl) (fun _ _ _ h => h) (Wn.some hf rfl rfl rfl rfl) (rd_move hf rfl rfl) hT rfl rfl ?_
                                                      clear hf; intro a hf
                                                      refine any_take (i := 51) hf rfl (by kernel_rfl) (by kernel_rfl) (by kernel_rfl) (fun _ _ _ h => h) (Wn.some hf rfl rfl rfl rfl) (rd_move hf rfl rfl) hT rfl rfl ?_
                                                      clear hf; intro a hf
                                                      refine any_take (i := 52) hf rfl (by kernel_rfl) (by kernel_rfl) (by kernel_rfl) (fun _ _ _ h => h) (Wn.some hf rfl rfl rfl rfl) ((by first | exact rd_indexAddrN hf rfl rfl rfl Try.underlying34 sz31 (by omega) | exact rd_indexAddr hf rfl rfl rfl Try.underlying34 sz31 (by first | decide | omega) (by omega))) hT rfl rfl ?_
                                                      clear hf; intro a hf
                                                      refine any_take (i := 53) hf rfl (by kernel_rfl) (by kernel_rfl) (by kernel_rfl) (fun _ _ _ h => h) (Wn.some hf rfl rfl rfl rfl) (rd_loadN hf rfl rfl ag31 sz31 (by intro _ h; exact (h.slOfRw (by repeat (first | exact Sel.head | apply Sel.tail))).elem memC_len hgn)) hT rfl rfl ?_
                                                      clear hf; intro a hf
                                                      refine any_one (i := 54) rfl (by kernel_rfl) (st_call hf (Wn.some hf rfl rfl rfl rfl) rfl rfl rfl fn24 (MLeq_c _ _ _ _ hS) rfl rfl ?_)
                                                      clear hf hS; rintro v a w ⟨rfl, hS⟩ hf
                                                      replace hT := hS.sub' hT (by repeat (first | exact Sub.refl | exact Sub.none | exact Sub.behind | (apply Sub.cons; (focus ((repeat (first | exact Sel.head | apply Sel.tail)); done))) | apply Sub.skip))
                                                      refine ⟨hT, ?_⟩
                                                      first | refine split_dec (d := 152) hf rfl ?_ ?_ | refine split_bool (d := 152) hf rfl ?_ ?_
                                                      · clear hf; intro hc21 hf
                                                        first
                                                        | (first | exact Bool.noConfusion hc21 | exact absurd rfl hc21 | exact absurd ((hg me).2 rfl h0).1 hc21 | exact absurd hc21 (Int.not_lt.2 ((hg me).2 rfl h0).2) | exact absurd ((hg k).1 (by omega)) hc21 | exact absurd (htold (by omega) (by assumption)) hc21; done)
                                                        | (
                                                          refine any_take (i := 55) hf rfl (by kernel_rfl) (by kernel_rfl) (by kernel_rfl) (fun _ _ _ h => h) (Wn.some hf rfl rfl rfl rfl) (rd_not hf rfl rfl) hT rfl rfl ?_
                                                          clear hf; intro a hf
                                                          refine any_take (i := 56) hf rfl (by kernel_rfl) (by kernel_rfl) (by kernel_rfl) (fun _ _ _ h => h) (Wn.none rfl) (rd_pick_t hf rfl rfl rfl) hT rfl rfl ?_
                                                          clear hf; intro a hf
                                                          refine any_done (by kernel_rfl) ?_
                                                          refine t_normal ?_
                                                          refine c_false hf rfl ?_
                                                          refine c_skip ?_
                                                          refine b_normal ?_
                                                          refine t_normal ?_
                                                          refine c_region ?_
                                                          refine step_l (st_rd hf (Wn.none rfl) (rd_add hf rfl rfl rfl (by first | exact Go.IntWalk.i64_in _ (by omega) | exact rfl)) hS rfl rfl ?_)
                                                          clear hf; intro a hf
                                                          refine step_l (st_rd hf (Wn.none rfl) (rd_move hf rfl rfl) hS rfl rfl ?_)
                                                          clear hf; intro a hf
                                                          refine done_l ?_
                                                          refine t_normal ⟨k + 1, ((hf.back (by repeat (first | exact Behind.refl | refine Behind.skip rfl ?_)) hk1).kb hf 80 rfl (by first | rfl | exact int_eq (by omega))), ⟨hS.sub (by repeat (first | exact Sub.refl | exact Sub.none | exact Sub.behind | (apply Sub.cons; (focus ((repeat (first | exact Sel.head | apply Sel.tail)); done))) | apply Sub.skip)), by omega⟩, by first | omega | (simp only []; omega)⟩
                                                          )
                                                      · clear hf; intro hc21 hf
                                                        first
                                                        | (first | exact Bool.noConfusion hc21 | exact absurd rfl hc21 | exact absurd ((hg me).2 rfl h0).1 hc21 | exact absurd hc21 (Int.not_lt.2 ((hg me).2 rfl h0).2) | exact absurd ((hg k).1 (by omega)) hc21 | exact absurd (htold (by omega) (by assumption)) hc21; done)
                                                        | (
                                                          refine any_take (i := 55) hf rfl (by kernel_rfl) (by kernel_rfl) (by kernel_rfl) (fun _ _ _ h => h) (Wn.some hf rfl rfl rfl rfl) (rd_not hf rfl rfl) hT rfl rfl ?_
                                                          clear hf; intro a hf
                                                          refine any_take (i := 56) hf rfl (by kernel_rfl) (by kernel_rfl) (by kernel_rfl) (fun _ _ _ h => h) (Wn.none rfl) (rd_pick_t hf rfl rfl rfl) hT rfl rfl ?_
                                                          clear hf; intro a hf
                                                          refine any_done (by kernel_rfl) ?_
                                                          refine t_normal ?_
                                                          refine c_true hf rfl ?_
                                                          refine c_seq ?_
                                                          refine c_region ?_
                                                          refine step_l (st_rd hf (Wn.none rfl) (rd_assign hf rfl rfl) hS rfl rfl ?_)
                                                          clear hf; intro a hf
                                                          refine done_l ?_
                                                          refine t_normal ?_
                                                          refine c_ret ?_
                                                          refine b_ret ?_
                                                          refine t_ret ?_
                                                          refine t_ret ?_
                                                          refine b_ret ?_
                                                          refine t_ret ?_
                                                          refine b_ret ?_
                                                          refine t_ret ?_
                                                          refine t_ret ?_
                                                          refine b_ret ?_
                                                          refine t_ret ?_
                                                          refine e_res1 hf.defers rfl (res_tmp hf rfl .nil) ?_
                                                          exact ⟨rfl, hS.sub (by repeat (first | exact Sub.refl | exact Sub.none | exact Sub.behind | (apply Sub.cons; (focus ((repeat (first | exact Sel.head | apply Sel.tail)); done))) | apply Sub.skip))⟩
                                                          )
                                                      )
                                                  · clear hf; intro hc20 a hf
                                                    first
                                                    | (first | exact Bool.noConfusion hc20 | exact absurd rfl hc20 | exact absurd ((hg me).2 rfl h0).1 hc20 | exact absurd hc20 (Int.not_lt.2 ((hg me).2 rfl h0).2) | exact absurd ((hg k).1 (by omega)) hc20 | exact absurd (htold (by omega) (by assumption)) hc20; done)
                                                    | (
                                                      refine any_take (i := 40) hf rfl (by kernel_rfl) (by kernel_rfl) (by kernel_rfl) (fun _ _ _ h => h) (Wn.none rfl) (rd_pick_t hf rfl rfl rfl) hT rfl rfl ?_
                                                      clear hf; intro a hf
                                                      refine any_take (i := 41) hf rfl (by kernel_rfl) (by kernel_rfl) (by kernel_rfl) (fun _ _ _ h => h) (Wn.none rfl) (rd_move hf rfl rfl) hT rfl rfl ?_
                                                      clear hf; intro a hf
                                                      refine any_skip (i := 42) hf rfl (by kernel_rfl) (by kernel_rfl) (by kernel_rfl) (fun _ _ _ h => h) (Wn.some hf rfl rfl rfl rfl) hT rfl rfl ?_
                                                      clear hf; intro a hf
                                                      refine any_skip (i := 43) hf rfl (by kernel_rfl) (by kernel_rfl) (by kernel_rfl) (fun _ _ _ h => h) (Wn.some hf rfl rfl rfl rfl) hT rfl rfl ?_
                                                      clear hf; intro a hf
                                                      refine any_skip (i := 44) hf rfl (by kernel_rfl) (by kernel_rfl) (by kernel_rfl) (fun _ _ _ h => h) (Wn.some hf rfl rfl rfl rfl) hT rfl rfl ?_
                                                      clear hf; intro a hf
                                                      refine any_skip (i := 45) hf rfl (by kernel_rfl) (by kernel_rfl) (by kernel_rfl) (fun _ _ _ h => h) (Wn.some hf rfl rfl rfl rfl) hT rfl rfl ?_
                                                      clear hf; intro a hf
                                                      refine any_skip (i := 46) hf rfl (by kernel_rfl) (by kernel_rfl) (by kernel_rfl) (fun _ _ _ h => h) (Wn.some hf rfl rfl rfl rfl) hT rfl rfl ?_
                                                      clear hf; intro a hf
                                                      refine any_skip (i := 47) hf rfl (by kernel_rfl) (by kernel_rfl) (by kernel_rfl) (fun _ _ _ h => h) (Wn.some hf rfl rfl rfl rfl) hT rfl rfl ?_
                                                      clear hf; intro a hf
                                                      refine any_skip (i := 48) hf rfl (by kernel_rfl) (by kernel_rfl) (by kernel_rfl) (fun _ _ _ h => h) (Wn.some hf rfl rfl rfl rfl) hT rfl rfl ?_
                                                      clear hf; intro a hf
                                                      refine any_skip (i := 49) hf rfl (by kernel_rfl) (by kernel_rfl) (by kernel_rfl) (fun _ _ _ h => h) (Wn.some hf rfl rfl rfl rfl) hT rfl rfl ?_
                                                      clear hf; intro a hf
                                                      refine any_skip (i := 50) hf rfl (by kernel_rfl) (by kernel_rfl) (by kernel_rfl) (fun _ _ _ h => h) (Wn.some hf rfl rfl rfl rfl) hT rfl rfl ?_
                                                      clear hf; intro a hf
                                                      refine any_skip (i := 51) hf rfl (by kernel_rfl) (by kernel_rfl) (by kernel_rfl) (fun _ _ _ h => h) (Wn.some hf rfl rfl rfl rfl) hT rfl rfl ?_
                                                      clear hf; intro a hf
                                                      refine any_skip (i := 52) hf rfl (by kernel_rfl) (by kernel_rfl) (by kernel_rfl) (fun _ _ _ h => h) (Wn.some hf rfl rfl rfl rfl) hT rfl rfl ?_
                                                      clear hf; intro a hf
                                                      refine any_skip (i := 53) hf rfl (by kernel_rfl) (by kernel_rfl) (by kernel_rfl) (fun _ _ _ h => h) (Wn.some hf rfl rfl rfl rfl) hT rfl rfl ?_
                                                      clear hf; intro a hf
                                                      refine any_skip (i := 54) hf rfl (by kernel_rfl) (by kernel_rfl) (by kernel_rfl) (fun _ _ _ h => h) (Wn.some hf rfl rfl rfl rfl) hT rfl rfl ?_
                                                      clear hf; intro a hf
                                                      refine any_skip (i := 55) hf rfl (by kernel_rfl) (by kernel_rfl) (by kernel_rfl) (fun _ _ _ h => h) (Wn.some hf rfl rfl rfl rfl) hT rfl rfl ?_
                                                      clear hf; intro a hf
                                                      refine any_take (i := 56) hf rfl (by kernel_rfl) (by kernel_rfl) (by kernel_rfl) (fun _ _ _ h => h) (Wn.none rfl) (rd_pick_f hf rfl rfl rfl) hT rfl rfl ?_
                                                      clear hf; intro a hf
                                                      refine any_done (by kernel_rfl) ?_
                                                      refine t_normal ?_
                                                      refine c_false hf rfl ?_
                                                      refine c_skip ?_
                                                      refine b_normal ?_
                                                      refine t_normal ?_
                                                      refine c_region ?_
                                                      refine step_l (st_rd hf (Wn.none rfl) (rd_add hf rfl rfl rfl (by first | exact Go.IntWalk.i64_in _ (by omega) | exact rfl)) hS rfl rfl ?_)
                                                      clear hf; intro a hf
                                                      refine step_l (st_rd hf (Wn.none rfl) (rd_move hf rfl rfl) hS rfl rfl ?_)
                                                      clear hf; intro a hf
                                                      refine done_l ?_
                                                      refine t_normal ⟨k + 1, ((hf.back (by repeat (first | exact Behind.refl | refine Behind.skip rfl ?_)) hk1).kb hf 80 rfl (by first | rfl | exact int_eq (by omega))), ⟨hS.sub (by repeat (first | exact Sub.refl | exact Sub.none | exact Sub.behind | (apply Sub.cons; (focus ((repeat (first | exact Sel.head | apply Sel.tail)); done))) | apply Sub.skip)), by omega⟩, by first | omega | (simp only []; omega)⟩
                                                      )
                                                  )
                                              · clear hf; intro hc19 hf
                                                first
                                                | (first | exact Bool.noConfusion hc19 | exact absurd rfl hc19 | exact absurd ((hg me).2 rfl h0).1 hc19 | exact absurd hc19 (Int.not_lt.2 ((hg me).2 rfl h0).2) | exact absurd ((hg k).1 (by omega)) hc19 | exact absurd (htold (by omega) (by assumption)) hc19; done)
                                                | (
                                                  refine any_take (i := 35) hf rfl (by kernel_rfl) (by kernel_rfl) (by kernel_rfl) (fun _ _ _ h => h) (Wn.none rfl) (rd_pick_t hf rfl rfl rfl) hT rfl rfl ?_
                                                  clear hf; intro a hf
                                                  refine any_take (i := 36) hf rfl (by kernel_rfl) (by kernel_rfl) (by kernel_rfl) (fun _ _ _ h => h) (Wn.none rfl) (rd_move hf rfl rfl) hT rfl rfl ?_
                                                  clear hf; intro a hf
                                                  refine any_skip (i := 37) hf rfl (by kernel_rfl) (by kernel_rfl) (by kernel_rfl) (fun _ _ _ h => h) (Wn.some hf rfl rfl rfl rfl) hT rfl rfl ?_
                                                  clear hf; intro a hf
                                                  refine any_skip (i := 38) hf rfl (by kernel_rfl) (by kernel_rfl) (by kernel_rfl) (fun _ _ _ h => h) (Wn.some hf rfl rfl rfl rfl) hT rfl rfl ?_
                                                  clear hf; intro a hf
                                                  refine any_skip (i := 39) hf rfl (by kernel_rfl) (by kernel_rfl) (by kernel_rfl) (fun _ _ _ h => h) (Wn.some hf rfl rfl rfl rfl) hT rfl rfl ?_
                                                  clear hf; intro a hf
                                                  refine any_take (i := 40) hf rfl (by kernel_rfl) (by kernel_rfl) (by kernel_rfl) (fun _ _ _ h => h) (Wn.none rfl) (rd_pick_f hf rfl rfl rfl) hT rfl rfl ?_
                                                  clear hf; intro a hf
                                                  refine any_take (i := 41) hf rfl (by kernel_rfl) (by kernel_rfl) (by kernel_rfl) (fun _ _ _ h => h) (Wn.none rfl) (rd_move hf rfl rfl) hT rfl rfl ?_
                                                  clear hf; intro a hf
                                                  refine any_skip (i := 42) hf rfl (by kernel_rfl) (by kernel_rfl) (by kernel_rfl) (fun _ _ _ h => h) (Wn.some hf rfl rfl rfl rfl) hT rfl rfl ?_
                                                  clear hf; intro a hf
                                                  refine any_skip (i := 43) hf rfl (by kernel_rfl) (by kernel_rfl) (by kernel_rfl) (fun _ _ _ h => h) (Wn.some hf rfl rfl rfl rfl) hT rfl rfl ?_
                                                  clear hf; intro a hf
                                                  refine any_skip (i := 44) hf rfl (by kernel_rfl) (by kernel_rfl) (by kernel_rfl) (fun _ _ _ h => h) (Wn.some hf rfl rfl rfl rfl) hT rfl rfl ?_
                                                  clear hf; intro a hf
                                                  refine any_skip (i := 45) hf rfl (by kernel_rfl) (by kernel_rfl) (by kernel_rfl) (fun _ _ _ h => h) (Wn.some hf rfl rfl rfl rfl) hT rfl rfl ?_
                                                  clear hf; intro a hf
                                                  refine any_skip (i := 46) hf rfl (by kernel_rfl) (by kernel_rfl) (by kernel_rfl) (fun _ _ _ h => h) (Wn.some hf rfl rfl rfl rfl) hT rfl rfl ?_
                                                  clear hf; intro a hf
                                                  refine any_skip (i := 47) hf rfl (by kernel_rfl) (by kernel_rfl) (by kernel_rfl) (fun _ _ _ h => h) (Wn.some hf rfl rfl rfl rfl) hT rfl rfl ?_
                                                  clear hf; intro a hf
                                                  refine any_skip (i := 48) hf rfl (by kernel_rfl) (by kernel_rfl) (by kernel_rfl) (fun _ _ _ h => h) (Wn.some hf rfl rfl rfl rfl) hT rfl rfl ?_
                                                  clear hf; intro a hf
                                                  refine any_skip (i := 49) hf rfl (by kernel_rfl) (by kernel_rfl) (by kernel_rfl) (fun _ _ _ h => h) (Wn.some hf rfl rfl rfl rfl) hT rfl rfl ?_
                                                  clear hf; intro a hf
                                                  refine any_skip (i := 50) hf rfl (by kernel_rfl) (by kernel_rfl) (by kernel_rfl) (fun _ _ _ h => h) (Wn.some hf rfl rfl rfl rfl) hT rfl rfl ?_
                                                  clear hf; intro a hf
                                                  refine any_skip (i := 51) hf rfl (by kernel_rfl) (by kernel_rfl) (by kernel_rfl) (fun _ _ _ h => h) (Wn.some hf rfl rfl rfl rfl) hT rfl rfl ?_
                                                  clear hf; intro a hf
                                                  refine any_skip (i := 52) hf rfl (by kernel_rfl) (by kernel_rfl) (by kernel_rfl) (fun _ _ _ h => h) (Wn.some hf rfl rfl rfl rfl) hT rfl rfl ?_
                                                  clear hf; intro a hf
                                                  refine any_skip (i := 53) hf rfl (by kernel_rfl) (by kernel_rfl) (by kernel_rfl) (fun _ _ _ h => h) (Wn.some hf rfl rfl rfl rfl) hT rfl rfl ?_
                                                  clear hf; intro a hf
                                                  refine any_skip (i := 54) hf rfl (by kernel_rfl) (by kernel_rfl) (by kernel_rfl) (fun _ _ _ h => h) (Wn.some hf rfl rfl rfl rfl) hT rfl rfl ?_
                                                  clear hf; intro a hf
                                                  refine any_skip (i := 55) hf rfl (by kernel_rfl) (by kernel_rfl) (by kernel_rfl) (fun _ _ _ h => h) (Wn.some hf rfl rfl rfl rfl) hT rfl rfl ?_
                                                  clear hf; intro a hf
                                                  refine any_take (i := 56) hf rfl (by kernel_rfl) (by kernel_rfl) (by kernel_rfl) (fun _ _ _ h => h) (Wn.none rfl) (rd_pick_f hf rfl rfl rfl) hT rfl rfl ?_
                                                  clear hf; intro a hf
                                                  refine any_done (by kernel_rfl) ?_
                                                  refine t_normal ?_
                                                  refine c_false hf rfl ?_
                                                  refine c_skip ?_
                                                  refine b_normal ?_
                                                  refine t_normal ?_
                                                  refine c_region ?_
                                                  refine step_l (st_rd hf (Wn.none rfl) (rd_add hf rfl rfl rfl (by first | exact Go.IntWalk.i64_in _ (by omega) | exact rfl)) hS rfl rfl ?_)
                                                  clear hf; intro a hf
                                                  refine step_l (st_rd hf (Wn.none rfl) (rd_move hf rfl rfl) hS rfl rfl ?_)
                                                  clear hf; intro a hf
                                                  refine done_l ?_
                                                  refine t_normal ⟨k + 1, ((hf.back (by repeat (first | exact Behind.refl | refine Behind.skip rfl ?_)) hk1).kb hf 80 rfl (by first | rfl | exact int_eq (by omega))), ⟨hS.sub (by repeat (first | exact Sub.refl | exact Sub.none | exact Sub.behind | (apply Sub.cons; (focus ((repeat (first | exact Sel.head | apply Sel.tail)); done))) | apply Sub.skip)), by omega⟩, by first | omega | (simp only []; omega)⟩
                                                  )
                                              )
                                          · clear hf; intro hc18 a hf
                                            first
                                            | (first | exact Bool.noConfusion hc18 | exact absurd rfl hc18 | exact absurd ((hg me).2 rfl h0).1 hc18 | exact absurd hc18 (Int.not_lt.2 ((hg me).2 rfl h0).2) | exact absurd ((hg k).1 (by omega)) hc18 | exact absurd (htold (by omega) (by assumption)) hc18; done)
                                            | (
                                              refine any_take (i := 24) hf rfl (by kernel_rfl) (by kernel_rfl) (by kernel_rfl) (fun _ _ _ h => h) (Wn.none rfl) (rd_pick_t hf rfl rfl rfl) hT rfl rfl ?_
                                              clear hf; intro a hf
                                              refine any_take (i := 25) hf rfl (by kernel_rfl) (by kernel_rfl) (by kernel_rfl) (fun _ _ _ h => h) (Wn.none rfl) (rd_move hf rfl rfl) hT rfl rfl ?_
                                              clear hf; intro a hf
                                              refine any_skip (i := 26) hf rfl (by kernel_rfl) (by kernel_rfl) (by kernel_rfl) (fun _ _ _ h => h) (Wn.some hf rfl rfl rfl rfl) hT rfl rfl ?_
                                              clear hf; intro a hf
                                              refine any_skip (i := 27) hf rfl (by kernel_rfl) (by kernel_rfl) (by kernel_rfl) (fun _ _ _ h => h) (Wn.some hf rfl rfl rfl rfl) hT rfl rfl ?_
                                              clear hf; intro a hf
                                              refine any_skip (i := 28) hf rfl (by kernel_rfl) (by kernel_rfl) (by kernel_rfl) (fun _ _ _ h => h) (Wn.some hf rfl rfl rfl rfl) hT rfl rfl ?_
                                              clear hf; intro a hf
                                              refine any_skip (i := 29) hf rfl (by kernel_rfl) (by kernel_rfl) (by kernel_rfl) (fun _ _ _ h => h) (Wn.some hf rfl rfl rfl rfl) hT rfl rfl ?_
                                              clear hf; intro a hf
                                              refine any_skip (i := 30) hf rfl (by kernel_rfl) (by kernel_rfl) (by kernel_rfl) (fun _ _ _ h => h) (Wn.some hf rfl rfl rfl rfl) hT rfl rfl ?_
                                              clear hf; intro a hf
                                              refine any_skip (i := 31) hf rfl (by kernel_rfl) (by kernel_rfl) (by kernel_rfl) (fun _ _ _ h => h) (Wn.some hf rfl rfl rfl rfl) hT rfl rfl ?_
                                              clear hf; intro a hf
                                              refine any_skip (i := 32) hf rfl (by kernel_rfl) (by kernel_rfl) (by kernel_rfl) (fun _ _ _ h => h) (Wn.some hf rfl rfl rfl rfl) hT rfl rfl ?_
                                              clear hf; intro a hf
                                              refine any_skip (i := 33) hf rfl (by kernel_rfl) (by kernel_rfl) (by kernel_rfl) (fun _ _ _ h => h) (Wn.some hf rfl rfl rfl rfl) hT rfl rfl ?_
                                              clear hf; intro a hf
                                              refine any_skip (i := 34) hf rfl (by kernel_rfl) (by kernel_rfl) (by kernel_rfl) (fun _ _ _ h => h) (Wn.some hf rfl rfl rfl rfl) hT rfl rfl ?_
                                              clear hf; intro a hf
                                              refine any_take (i := 35) hf rfl (by kernel_rfl) (by kernel_rfl) (by kernel_rfl) (fun _ _ _ h => h) (Wn.none rfl) (rd_pick_f hf rfl rfl rfl) hT rfl rfl ?_
                                              clear hf; intro a hf
                                              refine any_take (i := 36) hf rfl (by kernel_rfl) (by kernel_rfl) (by kernel_rfl) (fun _ _ _ h => h) (Wn.none rfl) (rd_move hf rfl rfl) hT rfl rfl ?_
                                              clear hf; intro a hf
                                              refine any_skip (i := 37) hf rfl (by kernel_rfl) (by kernel_rfl) (by kernel_rfl) (fun _ _ _ h => h) (Wn.some hf rfl rfl rfl rfl) hT rfl rfl ?_
                                              clear hf; intro a hf
                                              refine any_skip (i := 38) hf rfl (by kernel_rfl) (by kernel_rfl) (by kernel_rfl) (fun _ _ _ h => h) (Wn.some hf rfl rfl rfl rfl) hT rfl rfl ?_
                                              clear hf; intro a hf
                                              refine any_skip (i := 39) hf rfl (by kernel_rfl) (by kernel_rfl) (by kernel_rfl) (fun _ _ _ h => h) (Wn.some hf rfl rfl rfl rfl) hT rfl rfl ?_
                                              clear hf; intro a hf
                                              refine any_take (i := 40) hf rfl (by kernel_rfl) (by kernel_rfl) (by kernel_rfl) (fun _ _ _ h => h) (Wn.none rfl) (rd_pick_f hf rfl rfl rfl) hT rfl rfl ?_
                                              clear hf; intro a hf
                                              refine any_take (i := 41) hf rfl (by kernel_rfl) (by kernel_rfl) (by kernel_rfl) (fun _ _ _ h => h) (Wn.none rfl) (rd_move hf rfl rfl) hT rfl rfl ?_
                                              clear hf; intro a hf
                                              refine any_skip (i := 42) hf rfl (by kernel_rfl) (by kernel_rfl) (by kernel_rfl) (fun _ _ _ h => h) (Wn.some hf rfl rfl rfl rfl) hT rfl rfl ?_
                                              clear hf; intro a hf
                                              refine any_skip (i := 43) hf rfl (by kernel_rfl) (by kernel_rfl) (by kernel_rfl) (fun _ _ _ h => h) (Wn.some hf rfl rfl rfl rfl) hT rfl rfl ?_
                                              clear hf; intro a hf
                                              refine any_skip (i := 44) hf rfl (by kernel_rfl) (by kernel_rfl) (by kernel_rfl) (fun _ _ _ h => h) (Wn.some hf rfl rfl rfl rfl) hT rfl rfl ?_
                                              clear hf; intro a hf
                                              refine any_skip (i := 45) hf rfl (by kernel_rfl) (by kernel_rfl) (by kernel_rfl) (fun _ _ _ h => h) (Wn.some hf rfl rfl rfl rfl) hT rfl rfl ?_
                                              clear hf; intro a hf
                                              refine any_skip (i := 46) hf rfl (by kernel_rfl) (by kernel_rfl) (by kernel_rfl) (fun _ _ _ h => h) (Wn.some hf rfl rfl rfl rfl) hT rfl rfl ?_
                                              clear hf; intro a hf
                                              refine any_skip (i := 47) hf rfl (by kernel_rfl) (by kernel_rfl) (by kernel_rfl) (fun _ _ _ h => h) (Wn.some hf rfl rfl rfl rfl) hT rfl rfl ?_
                                              clear hf; intro a hf
                                              refine any_skip (i := 48) hf rfl (by kernel_rfl) (by kernel_rfl) (by kernel_rfl) (fun _ _ _ h => h) (Wn.some hf rfl rfl rfl rfl) hT rfl rfl ?_
                                              clear hf; intro a hf
                                              refine any_skip (i := 49) hf rfl (by kernel_rfl) (by kernel_rfl) (by kernel_rfl) (fun _ _ _ h => h) (Wn.some hf rfl rfl rfl rfl) hT rfl rfl ?_
                                              clear hf; intro a hf
                                              refine any_skip (i := 50) hf rfl (by kernel_rfl) (by kernel_rfl) (by kernel_rfl) (fun _ _ _ h => h) (Wn.some hf rfl rfl rfl rfl) hT rfl rfl ?_
                                              clear hf; intro a hf
                                              refine any_skip (i := 51) hf rfl (by kernel_rfl) (by kernel_rfl) (by kernel_rfl) (fun _ _ _ h => h) (Wn.some hf rfl rfl rfl rfl) hT rfl rfl ?_
                                              clear hf; intro a hf
                                              refine any_skip (i := 52) hf rfl (by kernel_rfl) (by kernel_rfl) (by kernel_rfl) (fun _ _ _ h => h) (Wn.some hf rfl rfl rfl rfl) hT rfl rfl ?_
                                              clear hf; intro a hf
                                              refine any_skip (i := 53) hf rfl (by kernel_rfl) (by kernel_rfl) (by kernel_rfl) (fun _ _ _ h => h) (Wn.some hf rfl rfl rfl rfl) hT rfl rfl ?_
                                              clear hf; intro a hf
                                              refine any_skip (i := 54) hf rfl (by kernel_rfl) (by kernel_rfl) (by kernel_rfl) (fun _ _ _ h => h) (Wn.some hf rfl rfl rfl rfl) hT rfl rfl ?_
                                              clear hf; intro a hf
                                              refine any_skip (i := 55) hf rfl (by kernel_rfl) (by kernel_rfl) (by kernel_rfl) (fun _ _ _ h => h) (Wn.some hf rfl rfl rfl rfl) hT rfl rfl ?_
                                              clear hf; intro a hf
                                              refine any_take (i := 56) hf rfl (by kernel_rfl) (by kernel_rfl) (by kernel_rfl) (fun _ _ _ h => h) (Wn.none rfl) (rd_pick_f hf rfl rfl rfl) hT rfl rfl ?_
                                              clear hf; intro a hf
                                              refine any_done (by kernel_rfl) ?_
                                              refine t_normal ?_
                                              refine c_false hf rfl ?_
                                              refine c_skip ?_
                                              refine b_normal ?_
                                              refine t_normal ?_
                                              refine c_region ?_
                                              refine step_l (st_rd hf (Wn.none rfl) (rd_add hf rfl rfl rfl (by first | exact Go.IntWalk.i64_in _ (by omega) | exact rfl)) hS rfl rfl ?_)
                                              clear hf; intro a hf
                                              refine step_l (st_rd hf (Wn.none rfl) (rd_move hf rfl rfl) hS rfl rfl ?_)
                                              clear hf; intro a hf
                                              refine done_l ?_
                                              refine t_normal ⟨k + 1, ((hf.back (by repeat (first | exact Behind.refl | refine Behind.skip rfl ?_)) hk1).kb hf 80 rfl (by first | rfl | exact int_eq (by omega))), ⟨hS.sub (by repeat (first | exact Sub.refl | exact Sub.none | exact Sub.behind | (apply Sub.cons; (focus ((repeat (first | exact Sel.head | apply Sel.tail)); done))) | apply Sub.skip)), by omega⟩, by first | omega | (simp only []; omega)⟩
                                              )
                                          )
                                      · clear hf; intro hc17 a hf
                                        first
                                        | (first | exact Bool.noConfusion hc17 | exact absurd rfl hc17 | exact absurd ((hg me).2 rfl h0).1 hc17 | exact absurd hc17 (Int.not_lt.2 ((hg me).2 rfl h0).2) | exact absurd ((hg k).1 (by omega)) hc17 | exact absurd (htold (by omega) (by assumption)) hc17; done)
                                        | (
                                          refine any_take (i := 14) hf rfl (by kernel_rfl) (by kernel_rfl) (by kernel_rfl) (fun _ _ _ h => h) (Wn.none rfl) (rd_pick_t hf rfl rfl rfl) hT rfl rfl ?_
                                          clear hf; intro a hf
                                          refine any_take (i := 15) hf rfl (by kernel_rfl) (by kernel_rfl) (by kernel_rfl) (fun _ _ _ h => h) (Wn.none rfl) (rd_move hf rfl rfl) hT rfl rfl ?_
                                          clear hf; intro a hf
                                          refine any_skip (i := 16) hf rfl (by kernel_rfl) (by kernel_rfl) (by kernel_rfl) (fun _ _ _ h => h) (Wn.some hf rfl rfl rfl rfl) hT rfl rfl ?_
                                          clear hf; intro a hf
                                          refine any_skip (i := 17) hf rfl (by kernel_rfl) (by kernel_rfl) (by kernel_rfl) (fun _ _ _ h => h) (Wn.some hf rfl rfl rfl rfl) hT rfl rfl ?_
                                          clear hf; intro a hf
                                          refine any_skip (i := 18) hf rfl (by kernel_rfl) (by kernel_rfl) (by kernel_rfl) (fun _ _ _ h => h) (Wn.some hf rfl rfl rfl rfl) hT rfl rfl ?_
                                          clear hf; intro a hf
                                          refine any_skip (i := 19) hf rfl (by kernel_rfl) (by kernel_rfl) (by kernel_rfl) (fun _ _ _ h => h) (Wn.some hf rfl rfl rfl rfl) hT rfl rfl ?_
                                          clear hf; intro a hf
                                          refine any_skip (i := 20) hf rfl (by kernel_rfl) (by kernel_rfl) (by kernel_rfl) (fun _ _ _ h => h) (Wn.some hf rfl rfl rfl rfl) hT rfl rfl ?_
                                          clear hf; intro a hf
                                          refine any_skip (i := 21) hf rfl (by kernel_rfl) (by kernel_rfl) (by kernel_rfl) (fun _ _ _ h => h) (Wn.some hf rfl rfl rfl rfl) hT rfl rfl ?_
                                          clear hf; intro a hf
                                          refine any_skip (i := 22) hf rfl (by kernel_rfl) (by kernel_rfl) (by kernel_rfl) (fun _ _ _ h => h) (Wn.some hf rfl rfl rfl rfl) hT rfl rfl ?_
                                          clear hf; intro a hf
                                          refine any_skip (i := 23) hf rfl (by kernel_rfl) (by kernel_rfl) (by kernel_rfl) (fun _ _ _ h => h) (Wn.some hf rfl rfl rfl rfl) hT rfl rfl ?_
                                          clear hf; intro a hf
                                          refine any_take (i := 24) hf rfl (by kernel_rfl) (by kernel_rfl) (by kernel_rfl) (fun _ _ _ h => h) (Wn.none rfl) (rd_pick_f hf rfl rfl rfl) hT rfl rfl ?_
                                          clear hf; intro a hf
                                          refine any_take (i := 25) hf rfl (by kernel_rfl) (by kernel_rfl) (by kernel_rfl) (fun _ _ _ h => h) (Wn.none rfl) (rd_move hf rfl rfl) hT rfl rfl ?_
                                          clear hf; intro a hf
                                          refine any_skip (i := 26) hf rfl (by kernel_rfl) (by kernel_rfl) (by kernel_rfl) (fun _ _ _ h => h) (Wn.some hf rfl rfl rfl rfl) hT rfl rfl ?_
                                          clear hf; intro a hf
                                          refine any_skip (i := 27) hf rfl (by kernel_rfl) (by kernel_rfl) (by kernel_rfl) (fun _ _ _ h => h) (Wn.some hf rfl rfl rfl rfl) hT rfl rfl ?_
                                          clear hf; intro a hf
                                          refine any_skip (i := 28) hf rfl (by kernel_rfl) (by kernel_rfl) (by kernel_rfl) (fun _ _ _ h => h) (Wn.some hf rfl rfl rfl rfl) hT rfl rfl ?_
                                          clear hf; intro a hf
                                          refine any_skip (i := 29) hf rfl (by kernel_rfl) (by kernel_rfl) (by kernel_rfl) (fun _ _ _ h => h) (Wn.some hf rfl rfl rfl rfl) hT rfl rfl ?_
                                          clear hf; intro a hf
                                          refine any_skip (i := 30) hf rfl (by kernel_rfl) (by kernel_rfl) (by kernel_rfl) (fun _ _ _ h => h) (Wn.some hf rfl rfl rfl rfl) hT rfl rfl ?_
                                          clear hf; intro a hf
                                          refine any_skip (i := 31) hf rfl (by kernel_rfl) (by kernel_rfl) (by kernel_rfl) (fun _ _ _ h => h) (Wn.some hf rfl rfl rfl rfl) hT rfl rfl ?_
                                          clear hf; intro a hf
                                          refine any_skip (i := 32) hf rfl (by kernel_rfl) (by kernel_rfl) (by kernel_rfl) (fun _ _ _ h => h) (Wn.some hf rfl rfl rfl rfl) hT rfl rfl ?_
                                          clear hf; intro a hf
                                          refine any_skip (i := 33) hf rfl (by kernel_rfl) (by kernel_rfl) (by kernel_rfl) (fun _ _ _ h => h) (Wn.some hf rfl rfl rfl rfl) hT rfl rfl ?_
                                          clear hf; intro a hf
                                          refine any_skip (i := 34) hf rfl (by kernel_rfl) (by kernel_rfl) (by kernel_rfl) (fun _ _ _ h => h) (Wn.some hf rfl rfl rfl rfl) hT rfl rfl ?_
                                          clear hf; intro a hf
                                          refine any_take (i := 35) hf rfl (by kernel_rfl) (by kernel_rfl) (by kernel_rfl) (fun _ _ _ h => h) (Wn.none rfl) (rd_pick_f hf rfl rfl rfl) hT rfl rfl ?_
                                          clear hf; intro a hf
                                          refine any_take (i := 36) hf rfl (by kernel_rfl) (by kernel_rfl) (by kernel_rfl) (fun _ _ _ h => h) (Wn.none rfl) (rd_move hf rfl rfl) hT rfl rfl ?_
                                          clear hf; intro a hf
                                          refine any_skip (i := 37) hf rfl (by kernel_rfl) (by kernel_rfl) (by kernel_rfl) (fun _ _ _ h => h) (Wn.some hf rfl rfl rfl rfl) hT rfl rfl ?_
                                          clear hf; intro a hf
                                          refine any_skip (i := 38) hf rfl (by kernel_rfl) (by kernel_rfl) (by kernel_rfl) (fun _ _ _ h => h) (Wn.some hf rfl rfl rfl rfl) hT rfl rfl ?_
                                          clear hf; intro a hf
                                          refine any_skip (i := 39) hf rfl (by kernel_rfl) (by kernel_rfl) (by kernel_rfl) (fun _ _ _ h => h) (Wn.some hf rfl rfl rfl rfl) hT rfl rfl ?_
                                          clear hf; intro a hf
                                          refine any_take (i := 40) hf rfl (by kernel_rfl) (by kernel_rfl) (by kernel_rfl) (fun _ _ _ h => h) (Wn.none rfl) (rd_pick_f hf rfl rfl rfl) hT rfl rfl ?_
                                          clear hf; intro a hf
                                          refine any_take (i := 41) hf rfl (by kernel_rfl) (by kernel_rfl) (by kernel_rfl) (fun _ _ _ h => h) (Wn.none rfl) (rd_move hf rfl rfl) hT rfl rfl ?_
                                          clear hf; intro a hf
                                          refine any_skip (i := 42) hf rfl (by kernel_rfl) (by kernel_rfl) (by kernel_rfl) (fun _ _ _ h => h) (Wn.some hf rfl rfl rfl rfl) hT rfl rfl ?_
                                          clear hf; intro a hf
                                          refine any_skip (i := 43) hf rfl (by kernel_rfl) (by kernel_rfl) (by kernel_rfl) (fun _ _ _ h => h) (Wn.some hf rfl rfl rfl rfl) hT rfl rfl ?_
                                          clear hf; intro a hf
                                          refine any_skip (i := 44) hf rfl (by kernel_rfl) (by kernel_rfl) (by kernel_rfl) (fun _ _ _ h => h) (Wn.some hf rfl rfl rfl rfl) hT rfl rfl ?_
                                          clear hf; intro a hf
                                          refine any_skip (i := 45) hf rfl (by kernel_rfl) (by kernel_rfl) (by kernel_rfl) (fun _ _ _ h => h) (Wn.some hf rfl rfl rfl rfl) hT rfl rfl ?_
                                          clear hf; intro a hf
                                          refine any_skip (i := 46) hf rfl (by kernel_rfl) (by kernel_rfl) (by kernel_rfl) (fun _ _ _ h => h) (Wn.some hf rfl rfl rfl rfl) hT rfl rfl ?_
                                          clear hf; intro a hf
                                          refine any_skip (i := 47) hf rfl (by kernel_rfl) (by kernel_rfl) (by kernel_rfl) (fun _ _ _ h => h) (Wn.some hf rfl rfl rfl rfl) hT rfl rfl ?_
                                          clear hf; intro a hf
                                          refine any_skip (i := 48) hf rfl (by kernel_rfl) (by kernel_rfl) (by kernel_rfl) (fun _ _ _ h => h) (Wn.some hf rfl rfl rfl rfl) hT rfl rfl ?_
                                          clear hf; intro a hf
                                          refine any_skip (i := 49) hf rfl (by kernel_rfl) (by kernel_rfl) (by kernel_rfl) (fun _ _ _ h => h) (Wn.some hf rfl rfl rfl rfl) hT rfl rfl ?_
                                          clear hf; intro a hf
                                          refine any_skip (i := 50) hf rfl (by kernel_rfl) (by kernel_rfl) (by kernel_rfl) (fun _ _ _ h => h) (Wn.some hf rfl rfl rfl rfl) hT rfl rfl ?_
                                          clear hf; intro a hf
                                          refine any_skip (i := 51) hf rfl (by kernel_rfl) (by kernel_rfl) (by kernel_rfl) (fun _ _ _ h => h) (Wn.some hf rfl rfl rfl rfl) hT rfl rfl ?_
                                          clear hf; intro a hf
                                          refine any_skip (i := 52) hf rfl (by kernel_rfl) (by kernel_rfl) (by kernel_rfl) (fun _ _ _ h => h) (Wn.some hf rfl rfl rfl rfl) hT rfl rfl ?_
                                          clear hf; intro a hf
                                          refine any_skip (i := 53) hf rfl (by kernel_rfl) (by kernel_rfl) (by kernel_rfl) (fun _ _ _ h => h) (Wn.some hf rfl rfl rfl rfl) hT rfl rfl ?_
                                          clear hf; intro a hf
                                          refine any_skip (i := 54) hf rfl (by kernel_rfl) (by kernel_rfl) (by kernel_rfl) (fun _ _ _ h => h) (Wn.some hf rfl rfl rfl rfl) hT rfl rfl ?_
                                          clear hf; intro a hf
                                          refine any_skip (i := 55) hf rfl (by kernel_rfl) (by kernel_rfl) (by kernel_rfl) (fun _ _ _ h => h) (Wn.some hf rfl rfl rfl rfl) hT rfl rfl ?_
                                          clear hf; intro a hf
                                          refine any_take (i := 56) hf rfl (by kernel_rfl) (by kernel_rfl) (by kernel_rfl) (fun _ _ _ h => h) (Wn.none rfl) (rd_pick_f hf rfl rfl rfl) hT rfl rfl ?_
                                          clear hf; intro a hf
                                          refine any_done (by kernel_rfl) ?_
                                          refine t_normal ?_
                                          refine c_false hf rfl ?_
                                          refine c_skip ?_
                                          refine b_normal ?_
                                          refine t_normal ?_
                                          refine c_region ?_
                                          refine step_l (st_rd hf (Wn.none rfl) (rd_add hf rfl rfl rfl (by first | exact Go.IntWalk.i64_in _ (by omega) | exact rfl)) hS rfl rfl ?_)
                                          clear hf; intro a hf
                                          refine step_l (st_rd hf (Wn.none rfl) (rd_move hf rfl rfl) hS rfl rfl ?_)
                                          clear hf; intro a hf
                                          refine done_l ?_
                                          refine t_normal ⟨k + 1, ((hf.back (by repeat (first | exact Behind.refl | refine Behind.skip rfl ?_)) hk1).kb hf 80 rfl (by first | rfl | exact int_eq (by omega))), ⟨hS.sub (by repeat (first | exact Sub.refl | exact Sub.none | exact Sub.behind | (apply Sub.cons; (focus ((repeat (first | exact Sel.head | apply Sel.tail)); done))) | apply Sub.skip)), by omega⟩, by first | omega | (simp only []; omega)⟩
                                          )
                                      )
                                  · clear hf; intro hc16 a hf
                                    first
                                    | (first | exact Bool.noConfusion hc16 | exact absurd rfl hc16 | exact absurd ((hg me).2 rfl h0).1 hc16 | exact absurd hc16 (Int.not_lt.2 ((hg me).2 rfl h0).2) | exact absurd ((hg k).1 (by omega)) hc16 | exact absurd (htold (by omega) (by assumption)) hc16; done)
                                    | (
                                      refine any_take (i := 6) hf rfl (by kernel_rfl) (by kernel_rfl) (by kernel_rfl) (fun _ _ _ h => h) (Wn.none rfl) (rd_move hf rfl rfl) hT rfl rfl ?_
                                      clear hf; intro a hf
                                      refine any_skip (i := 7) hf rfl (by kernel_rfl) (by kernel_rfl) (by kernel_rfl) (fun _ _ _ h => h) (Wn.some hf rfl rfl rfl rfl) hT rfl rfl ?_
                                      clear hf; intro a hf
                                      refine any_skip (i := 8) hf rfl (by kernel_rfl) (by kernel_rfl) (by kernel_rfl) (fun _ _ _ h => h) (Wn.some hf rfl rfl rfl rfl) hT rfl rfl ?_
                                      clear hf; intro a hf
                                      refine any_skip (i := 9) hf rfl (by kernel_rfl) (by kernel_rfl) (by kernel_rfl) (fun _ _ _ h => h) (Wn.some hf rfl rfl rfl rfl) hT rfl rfl ?_
                                      clear hf; intro a hf
                                      refine any_skip (i := 10) hf rfl (by kernel_rfl) (by kernel_rfl) (by kernel_rfl) (fun _ _ _ h => h) (Wn.some hf rfl rfl rfl rfl) hT rfl rfl ?_
                                      clear hf; intro a hf
                                      refine any_skip (i := 11) hf rfl (by kernel_rfl) (by kernel_rfl) (by kernel_rfl) (fun _ _ _ h => h) (Wn.some hf rfl rfl rfl rfl) hT rfl rfl ?_
                                      clear hf; intro a hf
                                      refine any_skip (i := 12) hf rfl (by kernel_rfl) (by kernel_rfl) (by kernel_rfl) (fun _ _ _ h => h) (Wn.some hf rfl rfl rfl rfl) hT rfl rfl ?_
                                      clear hf; intro a hf
                                      refine any_skip (i := 13) hf rfl (by kernel_rfl) (by kernel_rfl) (by kernel_rfl) (fun _ _ _ h => h) (Wn.some hf rfl rfl rfl rfl) hT rfl rfl ?_
                                      clear hf; intro a hf
                                      refine any_take (i := 14) hf rfl (by kernel_rfl) (by kernel_rfl) (by kernel_rfl) (fun _ _ _ h => h) (Wn.none rfl) (rd_pick_f hf rfl rfl rfl) hT rfl rfl ?_
                                      clear hf; intro a hf
                                      refine any_take (i := 15) hf rfl (by kernel_rfl) (by kernel_rfl) (by kernel_rfl) (fun _ _ _ h => h) (Wn.none rfl) (rd_move hf rfl rfl) hT rfl rfl ?_
                                      clear hf; intro a hf
                                      refine any_skip (i := 16) hf rfl (by kernel_rfl) (by kernel_rfl) (by kernel_rfl) (fun _ _ _ h => h) (Wn.some hf rfl rfl rfl rfl) hT rfl rfl ?_
                                      clear hf; intro a hf
                                      refine any_skip (i := 17) hf rfl (by kernel_rfl) (by kernel_rfl) (by kernel_rfl) (fun _ _ _ h => h) (Wn.some hf rfl rfl rfl rfl) hT rfl rfl ?_
                                      clear hf; intro a hf
                                      refine any_skip (i := 18) hf rfl (by kernel_rfl) (by kernel_rfl) (by kernel_rfl) (fun _ _ _ h => h) (Wn.some hf rfl rfl rfl rfl) hT rfl rfl ?_
                                      clear hf; intro a hf
                                      refine any_skip (i := 19) hf rfl (by kernel_rfl) (by kernel_rfl) (by kernel_rfl) (fun _ _ _ h => h) (Wn.some hf rfl rfl rfl rfl) hT rfl rfl ?_
                                      clear hf; intro a hf
                                      refine any_skip (i := 20) hf rfl (by kernel_rfl) (by kernel_rfl) (by kernel_rfl) (fun _ _ _ h => h) (Wn.some hf rfl rfl rfl rfl) hT rfl rfl ?_
                                      clear hf; intro a hf
                                      refine any_skip (i := 21) hf rfl (by kernel_rfl) (by kernel_rfl) (by kernel_rfl) (fun _ _ _ h => h) (Wn.some hf rfl rfl rfl rfl) hT rfl rfl ?_
                                      clear hf; intro a hf
                                      refine any_skip (i := 22) hf rfl (by kernel_rfl) (by kernel_rfl) (by kernel_rfl) (fun _ _ _ h => h) (Wn.some hf rfl rfl rfl rfl) hT rfl rfl ?_
                                      clear hf; intro a hf
                                      refine any_skip (i := 23) hf rfl (by kernel_rfl) (by kernel_rfl) (by kernel_rfl) (fun _ _ _ h => h) (Wn.some hf rfl rfl rfl rfl) hT rfl rfl ?_
                                      clear hf; intro a hf
                                      refine any_take (i := 24) hf rfl (by kernel_rfl) (by kernel_rfl) (by kernel_rfl) (fun _ _ _ h => h) (Wn.none rfl) (rd_pick_f hf rfl rfl rfl) hT rfl rfl ?_
                                      clear hf; intro a hf
                                      refine any_take (i := 25) hf rfl (by kernel_rfl) (by kernel_rfl) (by kernel_rfl) (fun _ _ _ h => h) (Wn.none rfl) (rd_move hf rfl rfl) hT rfl rfl ?_
                                      clear hf; intro a hf
                                      refine any_skip (i := 26) hf rfl (by kernel_rfl) (by kernel_rfl) (by kernel_rfl) (fun _ _ _ h => h) (Wn.some hf rfl rfl rfl rfl) hT rfl rfl ?_
                                      clear hf; intro a hf
                                      refine any_skip (i := 27) hf rfl (by kernel_rfl) (by kernel_rfl) (by kernel_rfl) (fun _ _ _ h => h) (Wn.some hf rfl rfl rfl rfl) hT rfl rfl ?_
                                      clear hf; intro a hf
                                      refine any_skip (i := 28) hf rfl (by kernel_rfl) (by kernel_rfl) (by kernel_rfl) (fun _ _ _ h => h) (Wn.some hf rfl rfl rfl rfl) hT rfl rfl ?_
                                      clear hf; intro a hf
                                      refine any_skip (i := 29) hf rfl (by kernel_rfl) (by kernel_rfl) (by kernel_rfl) (fun _ _ _ h => h) (Wn.some hf rfl rfl rfl rfl) hT rfl rfl ?_
                                      clear hf; intro a hf
                                      refine any_skip (i := 30) hf rfl (by kernel_rfl) (by kernel_rfl) (by kernel_rfl) (fun _ _ _ h => h) (Wn.some hf rfl rfl rfl rfl) hT rfl rfl ?_
                                      clear hf; intro a hf
                                      refine any_skip (i := 31) hf rfl (by kernel_rfl) (by kernel_rfl) (by kernel_rfl) (fun _ _ _ h => h) (Wn.some hf rfl rfl rfl rfl) hT rfl rfl ?_
                                      clear hf; intro a hf
                                      refine any_skip (i := 32) hf rfl (by kernel_rfl) (by kernel_rfl) (by kernel_rfl) (fun _ _ _ h => h) (Wn.some hf rfl rfl rfl rfl) hT rfl rfl ?_
                                      clear hf; intro a hf
                                      refine any_skip (i := 33) hf rfl (by kernel_rfl) (by kernel_rfl) (by kernel_rfl) (fun _ _ _ h => h) (Wn.some hf rfl rfl rfl rfl) hT rfl rfl ?_
                                      clear hf; intro a hf
                                      refine any_skip (i := 34) hf rfl (by kernel_rfl) (by kernel_rfl) (by kernel_rfl) (fun _ _ _ h => h) (Wn.some hf rfl rfl rfl rfl) hT rfl rfl ?_
                                      clear hf; intro a hf
                                      refine any_take (i := 35) hf rfl (by kernel_rfl) (by kernel_rfl) (by kernel_rfl) (fun _ _ _ h => h) (Wn.none rfl) (rd_pick_f hf rfl rfl rfl) hT rfl rfl ?_
                                      clear hf; intro a hf
                                      refine any_take (i := 36) hf rfl (by kernel_rfl) (by kernel_rfl) (by kernel_rfl) (fun _ _ _ h => h) (Wn.none rfl) (rd_move hf rfl rfl) hT rfl rfl ?_
                                      clear hf; intro a hf
                                      refine any_skip (i := 37) hf rfl (by kernel_rfl) (by kernel_rfl) (by kernel_rfl) (fun _ _ _ h => h) (Wn.some hf rfl rfl rfl rfl) hT rfl rfl ?_
                                      clear hf; intro a hf
                                      refine any_skip (i := 38) hf rfl (by kernel_rfl) (by kernel_rfl) (by kernel_rfl) (fun _ _ _ h => h) (Wn.some hf rfl rfl rfl rfl) hT rfl rfl ?_
                                      clear hf; intro a hf
                                      refine any_skip (i := 39) hf rfl (by kernel_rfl) (by kernel_rfl) (by kernel_rfl) (fun _ _ _ h => h) (Wn.some hf rfl rfl rfl rfl) hT rfl rfl ?_
                                      clear hf; intro a hf
                                      refine any_take (i := 40) hf rfl (by kernel_rfl) (by kernel_rfl) (by kernel_rfl) (fun _ _ _ h => h) (Wn.none rfl) (rd_pick_f hf rfl rfl rfl) hT rfl rfl ?_
                                      clear hf; intro a hf
                                      refine any_take (i := 41) hf rfl (by kernel_rfl) (by kernel_rfl) (by kernel_rfl) (fun _ _ _ h => h) (Wn.none rfl) (rd_move hf rfl rfl) hT rfl rfl ?_
                                      clear hf; intro a hf
                                      refine any_skip (i := 42) hf rfl (by kernel_rfl) (by kernel_rfl) (by kernel_rfl) (fun _ _ _ h => h) (Wn.some hf rfl rfl rfl rfl) hT rfl rfl ?_
                                      clear hf; intro a hf
                                      refine any_skip (i := 43) hf rfl (by kernel_rfl) (by kernel_rfl) (by kernel_rfl) (fun _ _ _ h => h) (Wn.some hf rfl rfl rfl rfl) hT rfl rfl ?_
                                      clear hf; intro a hf
                                      refine any_skip (i := 44) hf rfl (by kernel_rfl) (by kernel_rfl) (by kernel_rfl) (fun _ _ _ h => h) (Wn.some hf rfl rfl rfl rfl) hT rfl rfl ?_
                                      clear hf; intro a hf
                                      refine any_skip (i := 45) hf rfl (by kernel_rfl) (by kernel_rfl) (by kernel_rfl) (fun _ _ _ h => h) (Wn.some hf rfl rfl rfl rfl) hT rfl rfl ?_
                                      clear hf; intro a hf
                                      refine any_skip (i := 46) hf rfl (by kernel_rfl) (by kernel_rfl) (by kernel_rfl) (fun _ _ _ h => h) (Wn.some hf rfl rfl rfl rfl) hT rfl rfl ?_
                                      clear hf; intro a hf
                                      refine any_skip (i := 47) hf rfl (by kernel_rfl) (by kernel_rfl) (by kernel_rfl) (fun _ _ _ h => h) (Wn.some hf rfl rfl rfl rfl) hT rfl rfl ?_
                                      clear hf; intro a hf
                                      refine any_skip (i := 48) hf rfl (by kernel_rfl) (by kernel_rfl) (by kernel_rfl) (fun _ _ _ h => h) (Wn.some hf rfl rfl rfl rfl) hT rfl rfl ?_
                                      clear hf; intro a hf
                                      refine any_skip (i := 49) hf rfl (by kernel_rfl) (by kernel_rfl) (by kernel_rfl) (fun _ _ _ h => h) (Wn.some hf rfl rfl rfl rfl) hT rfl rfl ?_
                                      clear hf; intro a hf
                                      refine any_skip (i := 50) hf rfl (by kernel_rfl) (by kernel_rfl) (by kernel_rfl) (fun _ _ _ h => h) (Wn.some hf rfl rfl rfl rfl) hT rfl rfl ?_
                                      clear hf; intro a hf
                                      refine any_skip (i := 51) hf rfl (by kernel_rfl) (by kernel_rfl) (by kernel_rfl) (fun _ _ _ h => h) (Wn.some hf rfl rfl rfl rfl) hT rfl rfl ?_
                                      clear hf; intro a hf
                                      refine any_skip (i := 52) hf rfl (by kernel_rfl) (by kernel_rfl) (by kernel_rfl) (fun _ _ _ h => h) (Wn.some hf rfl rfl rfl rfl) hT rfl rfl ?_
                                      clear hf; intro a hf
                                      refine any_skip (i := 53) hf rfl (by kernel_rfl) (by kernel_rfl) (by kernel_rfl) (fun _ _ _ h => h) (Wn.some hf rfl rfl rfl rfl) hT rfl rfl ?_
                                      clear hf; intro a hf
                                      refine any_skip (i := 54) hf rfl (by kernel_rfl) (by kernel_rfl) (by kernel_rfl) (fun _ _ _ h => h) (Wn.some hf rfl rfl rfl rfl) hT rfl rfl ?_
                                      clear hf; intro a hf
                                      refine any_skip (i := 55) hf rfl (by kernel_rfl) (by kernel_rfl) (by kernel_rfl) (fun _ _ _ h => h) (Wn.some hf rfl rfl rfl rfl) hT rfl rfl ?_
                                      clear hf; intro a hf
                                      refine any_take (i := 56) hf rfl (by kernel_rfl) (by kernel_rfl) (by kernel_rfl) (fun _ _ _ h => h) (Wn.none rfl) (rd_pick_f hf rfl rfl rfl) hT rfl rfl ?_
                                      clear hf; intro a hf
                                      refine any_done (by kernel_rfl) ?_
                                      refine t_normal ?_
                                      refine c_false hf rfl ?_
                                      refine c_skip ?_
                                      refine b_normal ?_
                                      refine t_normal ?_
                                      refine c_region ?_
                                      refine step_l (st_rd hf (Wn.none rfl) (rd_add hf rfl rfl rfl (by first | exact Go.IntWalk.i64_in _ (by omega) | exact rfl)) hS rfl rfl ?_)
                                      clear hf; intro a hf
                                      refine step_l (st_rd hf (Wn.none rfl) (rd_move hf rfl rfl) hS rfl rfl ?_)
                                      clear hf; intro a hf
                                      refine done_l ?_
                                      refine t_normal ⟨k + 1, ((hf.back (by repeat (first | exact Behind.refl | refine Behind.skip rfl ?_)) hk1).kb hf 80 rfl (by first | rfl | exact int_eq (by omega))), ⟨hS.sub (by repeat (first | exact Sub.refl | exact Sub.none | exact Sub.behind | (apply Sub.cons; (focus ((repeat (first | exact Sel.head | apply Sel.tail)); done))) | apply Sub.skip)), by omega⟩, by first | omega | (simp only []; omega)⟩
                                      )
                                  )
                              )
                          · clear hf; intro hc7 a hf
                            first
                            | (first | exact Bool.noConfusion hc7 | exact absurd rfl hc7 | exact absurd ((hg me).2 rfl h0).1 hc7 | exact absurd hc7 (Int.not_lt.2 ((hg me).2 rfl h0).2) | exact absurd ((hg k).1 (by omega)) hc7 | exact absurd (htold (by omega) (by assumption)) hc7; done)
                            | (
                              refine done_l ?_
                              refine t_normal ?_
                              refine c_seq ?_
                              refine c_false hf rfl ?_
                              refine c_exit ?_
                              refine t_exit ?_
                              refine t_exit ?_
                              refine b_exit ?_
                              refine t_normal ?_
                              refine c_region ?_
                              refine step_l (st_rd hf (Wn.none rfl) (rd_move hf rfl rfl) hS rfl rfl ?_)
                              clear hf; intro a hf
                              refine step_l (st_rd hf (Wn.none rfl) (rd_assign hf rfl rfl) hS rfl rfl ?_)
                              clear hf; intro a hf
                              refine done_l ?_
                              refine b_normal ?_
                              refine t_normal ?_
                              refine c_region ?_
                              refine step_l (st_rd hf (Wn.none rfl) (rd_move hf rfl rfl) hS rfl rfl ?_)
                              clear hf; intro a hf
                              refine step_l (st_rd hf (Wn.none rfl) (rd_add hf rfl rfl rfl (by first | exact Go.IntWalk.i64_in _ (by omega) | exact rfl)) hS rfl rfl ?_)
                              clear hf; intro a hf
                              refine step_l (st_rd hf (Wn.none rfl) (rd_assign hf rfl rfl) hS rfl rfl ?_)
                              clear hf; intro a hf
                              refine done_l ?_
                              refine t_normal ⟨(i + 1, doS x s, doT x t, some adn, capn), (((hf.back (by repeat (first | exact Behind.refl | refine Behind.skip rfl ?_)) hk0).kb hf 10 rfl (by first | rfl | exact int_eq (by omega))).kb hf 9 rfl (by first | rfl | exact int_eq (by omega))), ⟨hS.sub (by repeat (first | exact Sub.refl | exact Sub.none | exact Sub.behind | (apply Sub.cons; (focus ((repeat (first | exact Sel.head | apply Sel.tail)); done))) | apply Sub.skip)), ⟨by omega, hr2, by rw [doS_me]; exact hme2, ((hg me).2 rfl h0).1⟩⟩, by first | omega | (simp only []; omega)⟩
                              )
                          )
                      )
                  )
              )
          · clear hf; intro hc3 a hf
            first
            | (first | exact Bool.noConfusion hc3 | exact absurd rfl hc3 | exact absurd ((hg me).2 rfl h0).1 hc3 | exact absurd hc3 (Int.not_lt.2 ((hg me).2 rfl h0).2) | exact absurd ((hg k).1 (by omega)) hc3 | exact absurd (htold (by omega) (by assumption)) hc3; done)
            | (
              refine step_l (st_rd hf (Wn.none rfl) (rd_pick_t hf rfl rfl rfl) hS rfl rfl ?_)
              clear hf; intro a hf
              refine done_l ?_
              refine t_normal ?_
              refine c_false hf rfl ?_
              refine c_exit ?_
              refine t_exit ?_
              refine t_exit ?_
              refine b_exit ?_
              refine t_normal ?_
              refine c_seq ?_
              refine c_region ?_
              refine step_l (st_call hf (Wn.none rfl) rfl rfl rfl fn14 (awake_c hS) rfl rfl ?_)
              clear hf hS; rintro v a w ⟨rfl, hS⟩ hf
              refine step_l (st_rd hf (Wn.none rfl) (rd_assign hf rfl rfl) hS rfl rfl ?_)
              clear hf; intro a hf
              refine done_l ?_
              refine t_normal ?_
              refine c_ret ?_
              refine e_res1 hf.defers rfl (res_tmp hf rfl .nil) ?_
              exact ⟨rfl, hS.sub (by repeat (first | exact Sub.refl | exact Sub.none | exact Sub.behind | (apply Sub.cons; (focus ((repeat (first | exact Sel.head | apply Sel.tail)); done))) | apply Sub.skip))⟩
              )
          )
      · clear hf; intro hc2 a hf
        first
        | (first | exact Bool.noConfusion hc2 | exact absurd rfl hc2 | exact absurd ((hg me).2 rfl h0).1 hc2 | exact absurd hc2 (Int.not_lt.2 ((hg me).2 rfl h0).2) | exact absurd ((hg k).1 (by omega)) hc2 | exact absurd (htold (by omega) (by assumption)) hc2; done)
        | (
          refine step_l (st_rd hf (Wn.none rfl) (rd_move hf rfl rfl) hS rfl rfl ?_)
          clear hf; intro a hf
          refine step_l (st_skip hf (Wn.some hf rfl rfl rfl rfl) rfl rfl ?_)
          clear hf; intro a hf
          refine step_l (st_skip hf (Wn.some hf rfl rfl rfl rfl) rfl rfl ?_)
          clear hf; intro a hf
          refine step_l (st_rd hf (Wn.none rfl) (rd_pick_f hf rfl rfl rfl) hS rfl rfl ?_)
          clear hf; intro a hf
          refine done_l ?_
          refine t_normal ?_
          refine c_false hf rfl ?_
          refine c_exit ?_
          refine t_exit ?_
          refine t_exit ?_
          refine b_exit ?_
          refine t_normal ?_
          refine c_seq ?_
          refine c_region ?_
          refine step_l (st_call hf (Wn.none rfl) rfl rfl rfl fn14 (awake_c hS) rfl rfl ?_)
          clear hf hS; rintro v a w ⟨rfl, hS⟩ hf
          refine step_l (st_rd hf (Wn.none rfl) (rd_assign hf rfl rfl) hS rfl rfl ?_)
          clear hf; intro a hf
          refine done_l ?_
          refine t_normal ?_
          refine c_ret ?_
          refine e_res1 hf.defers rfl (res_tmp hf rfl .nil) ?_
          exact ⟨rfl, hS.sub (by repeat (first | exact Sub.refl | exact Sub.none | exact Sub.behind | (apply Sub.cons; (focus ((repeat (first | exact Sel.head | apply Sel.tail)); done))) | apply Sub.skip))⟩
          )
      )

end Go.Proofs.Ytjcjkbfhmbfkaaa
