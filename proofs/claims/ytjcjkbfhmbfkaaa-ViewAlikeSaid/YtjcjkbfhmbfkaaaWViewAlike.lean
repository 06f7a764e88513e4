/-
  The statement ViewAlike, walked.
  Conditions: none.
-/
import Derived.Test.YtjcjkbfhmbfkaaaView3
namespace Go.Proofs.Ytjcjkbfhmbfkaaa
open Go Go.Sl
set_option linter.unusedVariables false
set_option linter.unusedSimpArgs false
theorem ag42 : aggO Try.prog 42 = some true := by kernel_rfl
theorem fn14 : fnB Try.prog 14 = true := by kernel_rfl
theorem fn19 : fnB Try.prog 19 = true := by kernel_rfl
theorem fn20 : fnB Try.prog 20 = true := by kernel_rfl
theorem fn21 : fnB Try.prog 21 = true := by kernel_rfl
theorem fn22 : fnB Try.prog 22 = true := by kernel_rfl
theorem fn24 : fnB Try.prog 24 = true := by kernel_rfl
theorem sz42 : (Try.prog.info? 42).map (·.size) = some 3 := by kernel_rfl
set_option maxRecDepth 100000 in
set_option maxHeartbeats 4000000 in
theorem ViewAlike_c (nodes : Int) (la : List VCall) (qla : Option Addr) (capla : Nat) (lb : List VCall) (qlb : Option Addr) (caplb : Nat) {W : World} {R : List HP} {w : World} (hS : Sat W (R) w) (hlla : ∀ x ∈ la, VcOk W R x) (hvla : ∀ w, Sat W R w → SlAt w qla la.length 3 (la.flatMap vcC)) (hnla : la.length ≤ 9223372036854775807) (hllb : ∀ x ∈ lb, VcOk W R x) (hvlb : ∀ w, Sat W R w → SlAt w qlb lb.length 3 (lb.flatMap vcC)) (hnlb : lb.length ≤ 9223372036854775807) : Calls Try.prog 7 [.int .i64 nodes, .slice qla la.length capla, .slice qlb lb.length caplb].toArray w (Ret fun v w' => v = .bool true ∧ Sat W R w') := by
  refine fn_start 98 Try.func7 rfl rfl rfl ?_
  intro a hf
  refine c_seq ?_
  refine c_region ?_
  refine step_l (st_rd hf (Wn.none rfl) (rd_assign hf rfl rfl) hS rfl rfl ?_)
  clear hf; intro a hf
  refine done_l ?_
  refine t_normal ?_
  refine c_seq ?_
  refine c_region ?_
  refine step_l (st_rd hf (Wn.none rfl) (rd_move hf rfl rfl) hS rfl rfl ?_)
  clear hf; intro a hf
  refine step_l (st_rd hf (Wn.none rfl) (rd_convInt hf rfl rfl Try.underlying3 Try.underlying23 rfl) hS rfl rfl ?_)
  clear hf; intro a hf
  refine step_l (st_rd hf (Wn.none rfl) (rd_rem hf rfl rfl rfl (by first | decide | omega) (u64mod (m := 7) nodes (by decide))) hS rfl rfl ?_)
  clear hf; intro a hf
  refine step_l (st_rd hf (Wn.none rfl) (rd_convInt hf rfl rfl Try.underlying23 Try.underlying3 (Go.IntWalk.i64_in _ (by omega))) hS rfl rfl ?_)
  clear hf; intro a hf
  refine step_l (st_rd hf (Wn.none rfl) (rd_add hf rfl rfl rfl ((Go.IntWalk.i64_in _ (by omega)).trans (Int.natCast_add _ 2).symm)) hS rfl rfl ?_)
  clear hf; intro a hf
  refine step_l (st_rd hf (Wn.none rfl) (rd_assign hf rfl rfl) hS rfl rfl ?_)
  clear hf; intro a hf
  refine done_l ?_
  obtain ⟨n, hn⟩ : ∃ n : Nat, n = (nodes % 18446744073709551616).toNat % 7 + 2 := ⟨_, rfl⟩
  rw [← hn] at hf; have hnb : n ≤ 8 ∧ 2 ≤ n := by omega
  refine t_normal ?_
  refine c_seq ?_
  refine c_region ?_
  refine step_l (st_rd hf (Wn.none rfl) (rd_move hf rfl rfl) hS rfl rfl ?_)
  clear hf; intro a hf
  refine step_l (st_call hf (Wn.none rfl) rfl rfl rfl fn10 (VNew_c _ 0 n hS (by omega) (by omega)) rfl rfl ?_)
  clear hf hS; rintro v a w ⟨pv, b1, b2, b3, rfl, hS⟩ hf
  refine step_l (st_rd hf (Wn.none rfl) (rd_move hf rfl rfl) hS rfl rfl ?_)
  clear hf; intro a hf
  refine step_l (st_call hf (Wn.none rfl) rfl rfl rfl fn10 (VNew_c _ 1 n hS (by omega) (by omega)) rfl rfl ?_)
  clear hf hS; rintro v a w ⟨pw, d1, d2, d3, rfl, hS⟩ hf
  refine step_l (st_rd hf (Wn.none rfl) (rd_assign hf rfl rfl) hS rfl rfl ?_)
  clear hf; intro a hf
  refine step_l (st_rd hf (Wn.none rfl) (rd_assign hf rfl rfl) hS rfl rfl ?_)
  clear hf; intro a hf
  refine done_l ?_
  refine t_normal ?_
  refine c_seq ?_
  refine c_region ?_
  refine step_l (st_rd hf (Wn.none rfl) (rd_move hf rfl rfl) hS rfl rfl ?_)
  clear hf; intro a hf
  refine step_l (st_call hf (Wn.none rfl) rfl rfl rfl fn19 (RNew_c _ 0 n hS (by omega) (by omega)) rfl rfl ?_)
  clear hf hS; rintro v a w ⟨pm, c1, c2, c3, rfl, hS⟩ hf
  refine step_l (st_rd hf (Wn.none rfl) (rd_move hf rfl rfl) hS rfl rfl ?_)
  clear hf; intro a hf
  refine step_l (st_call hf (Wn.none rfl) rfl rfl rfl fn19 (RNew_c _ 1 n hS (by omega) (by omega)) rfl rfl ?_)
  clear hf hS; rintro v a w ⟨pk, e1, e2, e3, rfl, hS⟩ hf
  refine step_l (st_rd hf (Wn.none rfl) (rd_assign hf rfl rfl) hS rfl rfl ?_)
  clear hf; intro a hf
  refine step_l (st_rd hf (Wn.none rfl) (rd_assign hf rfl rfl) hS rfl rfl ?_)
  clear hf; intro a hf
  refine done_l ?_
  refine t_normal ?_
  refine c_seq ?_
  refine c_seq ?_
  refine c_region ?_
  refine step_l (st_rd hf (Wn.none rfl) (rd_move hf rfl rfl) hS rfl rfl ?_)
  clear hf; intro a hf
  refine step_l (st_rdb hf (Wn.none rfl) (rd_eqlNilP hf rfl rfl rfl Try.underlying24) hS rfl rfl ?_ ?_)
  · clear hf; intro hc1 a hf
    first
    | (first | exact Bool.noConfusion hc1 | exact absurd rfl hc1 | exact absurd (And.intro rfl rfl) hc1; done)
    | (
      refine step_l (st_rd hf (Wn.none rfl) (rd_move hf rfl rfl) hS rfl rfl ?_)
      clear hf; intro a hf
      refine step_l (st_skip hf (Wn.some hf rfl rfl rfl rfl) rfl rfl ?_)
      clear hf; intro a hf
      refine step_l (st_skip hf (Wn.some hf rfl rfl rfl rfl) rfl rfl ?_)
      clear hf; intro a hf
      refine step_l (st_rd hf (Wn.none rfl) (rd_pick_t hf rfl rfl rfl) hS rfl rfl ?_)
      clear hf; intro a hf
      refine done_l ?_
      refine t_normal ?_
      refine c_true hf rfl ?_
      refine c_seq ?_
      refine c_region ?_
      refine step_l (st_rd hf (Wn.none rfl) (rd_assign hf rfl rfl) hS rfl rfl ?_)
      clear hf; intro a hf
      refine done_l ?_
      refine t_normal ?_
      refine c_ret ?_
      refine t_ret ?_
      refine e_res1 hf.defers rfl (res_tmp hf rfl .nil) ?_
      exact ⟨rfl, hS.sub (by repeat (first | exact Sub.refl | exact Sub.none | exact Sub.behind | (apply Sub.cons; (focus ((repeat (first | exact Sel.head | apply Sel.tail)); done))) | apply Sub.skip))⟩
      )
  · clear hf; intro hc1 a hf
    first
    | (first | exact Bool.noConfusion hc1 | exact absurd rfl hc1 | exact absurd (And.intro rfl rfl) hc1; done)
    | (
      refine step_l (st_rd hf (Wn.none rfl) (rd_move hf rfl rfl) hS rfl rfl ?_)
      clear hf; intro a hf
      refine step_l (st_rd hf (Wn.some hf rfl rfl rfl rfl) (rd_move hf rfl rfl) hS rfl rfl ?_)
      clear hf; intro a hf
      refine step_l (st_rdb hf (Wn.some hf rfl rfl rfl rfl) (rd_eqlNilP hf rfl rfl rfl Try.underlying24) hS rfl rfl ?_ ?_)
      · clear hf; intro hc2 a hf
        first
        | (first | exact Bool.noConfusion hc2 | exact absurd rfl hc2 | exact absurd (And.intro rfl rfl) hc2; done)
        | (
          refine step_l (st_rd hf (Wn.none rfl) (rd_pick_f hf rfl rfl rfl) hS rfl rfl ?_)
          clear hf; intro a hf
          refine done_l ?_
          refine t_normal ?_
          refine c_true hf rfl ?_
          refine c_seq ?_
          refine c_region ?_
          refine step_l (st_rd hf (Wn.none rfl) (rd_assign hf rfl rfl) hS rfl rfl ?_)
          clear hf; intro a hf
          refine done_l ?_
          refine t_normal ?_
          refine c_ret ?_
          refine t_ret ?_
          refine e_res1 hf.defers rfl (res_tmp hf rfl .nil) ?_
          exact ⟨rfl, hS.sub (by repeat (first | exact Sub.refl | exact Sub.none | exact Sub.behind | (apply Sub.cons; (focus ((repeat (first | exact Sel.head | apply Sel.tail)); done))) | apply Sub.skip))⟩
          )
      · clear hf; intro hc2 a hf
        first
        | (first | exact Bool.noConfusion hc2 | exact absurd rfl hc2 | exact absurd (And.intro rfl rfl) hc2; done)
        | (
          refine step_l (st_rd hf (Wn.none rfl) (rd_pick_f hf rfl rfl rfl) hS rfl rfl ?_)
          clear hf; intro a hf
          refine done_l ?_
          refine t_normal ?_
          refine c_false hf rfl ?_
          refine c_skip ?_
          refine t_normal ?_
          refine c_seq ?_
          refine c_seq ?_
          refine c_region ?_
          refine step_l (st_rd hf (Wn.none rfl) (rd_assign hf rfl rfl) hS rfl rfl ?_)
          clear hf; intro a hf
          refine done_l ?_
          refine t_normal ?_
          refine c_block ?_
          have hk0 := Keep.of hf [(11, 11), (36, 52)] (by repeat (first | exact Keep.nil | apply Keep.drop rfl | apply Keep.take rfl))
          refine c_loopK hk0 (α := Nat × VS × VS) (fun ⟨i, s, t⟩ => [(11, .int .i64 (i : Nat))]) (fun ⟨i, s, t⟩ w => Sat W (Blk pv [.int .i64 (s.me : Nat), .slice (some ⟨b1, 0, none⟩) n n, .slice (some ⟨b2, 0, none⟩) n n, .slice (some ⟨b3, 0, none⟩) n n] 53 :: Rw 31 2 (some ⟨b1, 0, none⟩) n n (s.l.flatMap memC) :: Rw 3 1 (some ⟨b2, 0, none⟩) n n (i64s s.ag) :: Rw 3 1 (some ⟨b3, 0, none⟩) n n (i64s s.op) :: Blk pm [.int .i64 (t.me : Nat), .slice (some ⟨c1, 0, none⟩) n n, .slice (some ⟨c2, 0, none⟩) n n, .slice (some ⟨c3, 0, none⟩) n n] 46 :: Rw 31 2 (some ⟨c1, 0, none⟩) n n (t.l.flatMap memC) :: Rw 3 1 (some ⟨c2, 0, none⟩) n n (i64s t.ag) :: Rw 3 1 (some ⟨c3, 0, none⟩) n n (i64s t.op) :: Blk pw [.int .i64 ((vNew n 1).me : Nat), .slice (some ⟨d1, 0, none⟩) n n, .slice (some ⟨d2, 0, none⟩) n n, .slice (some ⟨d3, 0, none⟩) n n] 53 :: Rw 31 2 (some ⟨d1, 0, none⟩) n n ((vNew n 1).l.flatMap memC) :: Rw 3 1 (some ⟨d2, 0, none⟩) n n (i64s (vNew n 1).ag) :: Rw 3 1 (some ⟨d3, 0, none⟩) n n (i64s (vNew n 1).op) :: Blk pk [.int .i64 ((vNew n 1).me : Nat), .slice (some ⟨e1, 0, none⟩) n n, .slice (some ⟨e2, 0, none⟩) n n, .slice (some ⟨e3, 0, none⟩) n n] 46 :: Rw 31 2 (some ⟨e1, 0, none⟩) n n ((vNew n 1).l.flatMap memC) :: Rw 3 1 (some ⟨e2, 0, none⟩) n n (i64s (vNew n 1).ag) :: Rw 3 1 (some ⟨e3, 0, none⟩) n n (i64s (vNew n 1).op) :: R) w ∧ i ≤ 60 ∧ Rel n s t ∧ s.me = 0 ∧ AMay n s) (fun ⟨i, s, t⟩ => 60 - i) (0, vNew n 0, vNew n 0) ((hf.keep hk0).kb hf 11 rfl (by first | rfl | exact int_eq (by omega))) ⟨hS.sub (by repeat (first | exact Sub.refl | exact Sub.none | exact Sub.behind | (apply Sub.cons; (focus ((repeat (first | exact Sel.head | apply Sel.tail)); done))) | apply Sub.skip)), ⟨by omega, rel_new (by omega) hnb.1, rfl, may_new n 0⟩⟩ ?_
          clear hf hS; rintro ⟨i, s, t⟩ a w hf ⟨hS, ⟨hi, hr, hme, hmay⟩⟩; (try dsimp only [List.cons_append, List.nil_append] at hf)
          refine c_seq ?_
          refine c_seq ?_
          refine c_region ?_
          refine step_l (st_rd hf (Wn.none rfl) (rd_move hf rfl rfl) hS rfl rfl ?_)
          clear hf; intro a hf
          refine step_l (st_rd hf (Wn.none rfl) (rd_move hf rfl rfl) hS rfl rfl ?_)
          clear hf; intro a hf
          refine step_l (st_rd hf (Wn.none rfl) (rd_len hf rfl rfl Try.underlying37) hS rfl rfl ?_)
          clear hf; intro a hf
          refine step_l (st_rdB hf (Wn.none rfl) (rd_lss hf rfl rfl rfl) hS rfl rfl ?_ ?_)
          · clear hf; intro hc3 a hf
            first
            | (first | exact Bool.noConfusion hc3 | exact absurd rfl hc3 | exact absurd (And.intro rfl rfl) hc3; done)
            | (
              refine step_l (st_rd hf (Wn.none rfl) (rd_move hf rfl rfl) hS rfl rfl ?_)
              clear hf; intro a hf
              refine step_l (st_rd hf (Wn.some hf rfl rfl rfl rfl) (rd_move hf rfl rfl) hS rfl rfl ?_)
              clear hf; intro a hf
              refine step_l (st_rdB hf (Wn.some hf rfl rfl rfl rfl) (rd_lss hf rfl rfl rfl) hS rfl rfl ?_ ?_)
              · clear hf; intro hc4 a hf
                obtain ⟨x, hget⟩ := get_of_lt (l := la) (k := i) (by omega) rfl; have hx := hlla x (List.mem_of_getElem? hget); obtain ⟨adl, rfl⟩ := (hvla _ (hS.sub (by repeat (first | exact Sub.refl | exact Sub.none | exact Sub.behind | (apply Sub.cons; (focus ((repeat (first | exact Sel.head | apply Sel.tail)); done))) | apply Sub.skip)))).some (by omega)
                first
                | (first | exact Bool.noConfusion hc4 | exact absurd rfl hc4 | exact absurd (And.intro rfl rfl) hc4; done)
                | (
                  refine step_l (st_rd hf (Wn.none rfl) (rd_pick_t hf rfl rfl rfl) hS rfl rfl ?_)
                  clear hf; intro a hf
                  refine done_l ?_
                  refine t_normal ?_
                  refine c_true hf rfl ?_
                  refine c_skip ?_
                  refine t_normal ?_
                  refine c_seq ?_
                  refine c_block ?_
                  refine c_region ?_
                  refine step_l (st_rd hf (Wn.none rfl) (rd_move hf rfl rfl) hS rfl rfl ?_)
                  clear hf; intro a hf
                  refine step_l (st_rd hf (Wn.none rfl) (rd_move hf rfl rfl) hS rfl rfl ?_)
                  clear hf; intro a hf
                  refine step_l (st_rd hf (Wn.none rfl) (rd_move hf rfl rfl) hS rfl rfl ?_)
                  clear hf; intro a hf
                  refine step_l (st_rd hf (Wn.none rfl) (rd_move hf rfl rfl) hS rfl rfl ?_)
                  clear hf; intro a hf
                  refine step_l (st_rd hf (Wn.none rfl) ((by first | exact rd_indexAddrN hf rfl rfl rfl Try.underlying37 sz42 (by omega) | exact rd_indexAddr hf rfl rfl rfl Try.underlying37 sz42 (by first | decide | omega) (by omega))) hS rfl rfl ?_)
                  clear hf; intro a hf
                  refine step_l (st_rd hf (Wn.none rfl) (rd_loadN hf rfl rfl ag42 sz42 (by intro _ h; exact (hvla _ (h.sub (by repeat (first | exact Sub.refl | exact Sub.none | exact Sub.behind | (apply Sub.cons; (focus ((repeat (first | exact Sel.head | apply Sel.tail)); done))) | apply Sub.skip)))).elem vcC_len hget)) hS rfl rfl ?_)
                  clear hf; intro a hf
                  refine step_l (st_call hf (Wn.none rfl) rfl rfl rfl fn20 (do_c _ _ _ _ _ _ _ _ _ _ _ x (hS.sels (.cons (by repeat (first | exact Sel.head | apply Sel.tail)) (.cons (by repeat (first | exact Sel.head | apply Sel.tail)) (.cons (by repeat (first | exact Sel.head | apply Sel.tail)) (.cons (by repeat (first | exact Sel.head | apply Sel.tail)) (.cons (by repeat (first | exact Sel.head | apply Sel.tail)) (.cons (by repeat (first | exact Sel.head | apply Sel.tail)) (.cons (by repeat (first | exact Sel.head | apply Sel.tail)) (.cons (by repeat (first | exact Sel.head | apply Sel.tail)) .nil))))))))) hr (hx.sub (fun _ h => h.sub (by repeat (first | exact Sub.refl | exact Sub.none | exact Sub.behind | (apply Sub.cons; (focus ((repeat (first | exact Sel.head | apply Sel.tail)); done))) | apply Sub.skip))))) rfl rfl ?_)
                  clear hf hS; rintro v a w ⟨rfl, hS⟩ hf
                  refine done_l ?_
                  refine b_normal ?_
                  refine t_normal ?_
                  refine c_region ?_
                  refine step_l (st_rd hf (Wn.none rfl) (rd_move hf rfl rfl) hS rfl rfl ?_)
                  clear hf; intro a hf
                  refine step_l (st_rd hf (Wn.none rfl) (rd_add hf rfl rfl rfl (by first | exact Go.IntWalk.i64_in _ (by omega) | exact rfl)) hS rfl rfl ?_)
                  clear hf; intro a hf
                  refine step_l (st_rd hf (Wn.none rfl) (rd_assign hf rfl rfl) hS rfl rfl ?_)
                  clear hf; intro a hf
                  refine done_l ?_
                  refine t_normal ⟨(i + 1, doS x s, doT x t), ((hf.back (by repeat (first | exact Behind.refl | refine Behind.skip rfl ?_)) hk0).kb hf 11 rfl (by first | rfl | exact int_eq (by omega))), ⟨hS.sub (by repeat (first | exact Sub.refl | exact Sub.none | exact Sub.behind | (apply Sub.cons; (focus ((repeat (first | exact Sel.head | apply Sel.tail)); done))) | apply Sub.skip)), ⟨by omega, rel_do hr x, by rw [doS_me]; exact hme, may_do hr.sok hmay x⟩⟩, by first | omega | (simp only []; omega)⟩
                  )
              · clear hf; intro hc4 a hf
                first
                | (first | exact Bool.noConfusion hc4 | exact absurd rfl hc4 | exact absurd (And.intro rfl rfl) hc4; done)
                | (
                  refine step_l (st_rd hf (Wn.none rfl) (rd_pick_t hf rfl rfl rfl) hS rfl rfl ?_)
                  clear hf; intro a hf
                  refine done_l ?_
                  refine t_normal ?_
                  refine c_false hf rfl ?_
                  refine c_exit ?_
                  refine t_exit ?_
                  refine t_exit ?_
                  refine b_exit ?_
                  refine t_normal ?_
                  refine c_seq ?_
                  refine c_seq ?_
                  refine c_region ?_
                  refine step_l (st_rd hf (Wn.none rfl) (rd_assign hf rfl rfl) hS rfl rfl ?_)
                  clear hf; intro a hf
                  refine done_l ?_
                  refine t_normal ?_
                  refine c_block ?_
                  have hk1 := Keep.of hf [(12, 12), (53, 69)] (by repeat (first | exact Keep.nil | apply Keep.drop rfl | apply Keep.take rfl))
                  refine c_loopK hk1 (α := Nat × VS × VS) (fun ⟨i, s2, t2⟩ => [(12, .int .i64 (i : Nat))]) (fun ⟨i, s2, t2⟩ w => Sat W (Blk pv [.int .i64 (s.me : Nat), .slice (some ⟨b1, 0, none⟩) n n, .slice (some ⟨b2, 0, none⟩) n n, .slice (some ⟨b3, 0, none⟩) n n] 53 :: Rw 31 2 (some ⟨b1, 0, none⟩) n n (s.l.flatMap memC) :: Rw 3 1 (some ⟨b2, 0, none⟩) n n (i64s s.ag) :: Rw 3 1 (some ⟨b3, 0, none⟩) n n (i64s s.op) :: Blk pm [.int .i64 (t.me : Nat), .slice (some ⟨c1, 0, none⟩) n n, .slice (some ⟨c2, 0, none⟩) n n, .slice (some ⟨c3, 0, none⟩) n n] 46 :: Rw 31 2 (some ⟨c1, 0, none⟩) n n (t.l.flatMap memC) :: Rw 3 1 (some ⟨c2, 0, none⟩) n n (i64s t.ag) :: Rw 3 1 (some ⟨c3, 0, none⟩) n n (i64s t.op) :: Blk pw [.int .i64 (s2.me : Nat), .slice (some ⟨d1, 0, none⟩) n n, .slice (some ⟨d2, 0, none⟩) n n, .slice (some ⟨d3, 0, none⟩) n n] 53 :: Rw 31 2 (some ⟨d1, 0, none⟩) n n (s2.l.flatMap memC) :: Rw 3 1 (some ⟨d2, 0, none⟩) n n (i64s s2.ag) :: Rw 3 1 (some ⟨d3, 0, none⟩) n n (i64s s2.op) :: Blk pk [.int .i64 (t2.me : Nat), .slice (some ⟨e1, 0, none⟩) n n, .slice (some ⟨e2, 0, none⟩) n n, .slice (some ⟨e3, 0, none⟩) n n] 46 :: Rw 31 2 (some ⟨e1, 0, none⟩) n n (t2.l.flatMap memC) :: Rw 3 1 (some ⟨e2, 0, none⟩) n n (i64s t2.ag) :: Rw 3 1 (some ⟨e3, 0, none⟩) n n (i64s t2.op) :: R) w ∧ i ≤ 60 ∧ Rel n s2 t2 ∧ s2.me = 1 ∧ AMay n s2) (fun ⟨i, s2, t2⟩ => 60 - i) (0, vNew n 1, vNew n 1) ((hf.keep hk1).kb hf 12 rfl (by first | rfl | exact int_eq (by omega))) ⟨hS.sub (by repeat (first | exact Sub.refl | exact Sub.none | exact Sub.behind | (apply Sub.cons; (focus ((repeat (first | exact Sel.head | apply Sel.tail)); done))) | apply Sub.skip)), ⟨by omega, rel_new (by omega) hnb.1, rfl, may_new n 1⟩⟩ ?_
                  clear hf hS; rintro ⟨i, s2, t2⟩ a w hf ⟨hS, ⟨hi2, hr2, hme2, hmay2⟩⟩; (try dsimp only [List.cons_append, List.nil_append] at hf)
                  refine c_seq ?_
                  refine c_seq ?_
                  refine c_region ?_
                  refine step_l (st_rd hf (Wn.none rfl) (rd_move hf rfl rfl) hS rfl rfl ?_)
                  clear hf; intro a hf
                  refine step_l (st_rd hf (Wn.none rfl) (rd_move hf rfl rfl) hS rfl rfl ?_)
                  clear hf; intro a hf
                  refine step_l (st_rd hf (Wn.none rfl) (rd_len hf rfl rfl Try.underlying37) hS rfl rfl ?_)
                  clear hf; intro a hf
                  refine step_l (st_rdB hf (Wn.none rfl) (rd_lss hf rfl rfl rfl) hS rfl rfl ?_ ?_)
                  · clear hf; intro hc5 a hf
                    first
                    | (first | exact Bool.noConfusion hc5 | exact absurd rfl hc5 | exact absurd (And.intro rfl rfl) hc5; done)
                    | (
                      refine step_l (st_rd hf (Wn.none rfl) (rd_move hf rfl rfl) hS rfl rfl ?_)
                      clear hf; intro a hf
                      refine step_l (st_rd hf (Wn.some hf rfl rfl rfl rfl) (rd_move hf rfl rfl) hS rfl rfl ?_)
                      clear hf; intro a hf
                      refine step_l (st_rdB hf (Wn.some hf rfl rfl rfl rfl) (rd_lss hf rfl rfl rfl) hS rfl rfl ?_ ?_)
                      · clear hf; intro hc6 a hf
                        obtain ⟨x, hget⟩ := get_of_lt (l := lb) (k := i) (by omega) rfl; have hx := hllb x (List.mem_of_getElem? hget); obtain ⟨adl, rfl⟩ := (hvlb _ (hS.sub (by repeat (first | exact Sub.refl | exact Sub.none | exact Sub.behind | (apply Sub.cons; (focus ((repeat (first | exact Sel.head | apply Sel.tail)); done))) | apply Sub.skip)))).some (by omega)
                        first
                        | (first | exact Bool.noConfusion hc6 | exact absurd rfl hc6 | exact absurd (And.intro rfl rfl) hc6; done)
                        | (
                          refine step_l (st_rd hf (Wn.none rfl) (rd_pick_t hf rfl rfl rfl) hS rfl rfl ?_)
                          clear hf; intro a hf
                          refine done_l ?_
                          refine t_normal ?_
                          refine c_true hf rfl ?_
                          refine c_skip ?_
                          refine t_normal ?_
                          refine c_seq ?_
                          refine c_block ?_
                          refine c_region ?_
                          refine step_l (st_rd hf (Wn.none rfl) (rd_move hf rfl rfl) hS rfl rfl ?_)
                          clear hf; intro a hf
                          refine step_l (st_rd hf (Wn.none rfl) (rd_move hf rfl rfl) hS rfl rfl ?_)
                          clear hf; intro a hf
                          refine step_l (st_rd hf (Wn.none rfl) (rd_move hf rfl rfl) hS rfl rfl ?_)
                          clear hf; intro a hf
                          refine step_l (st_rd hf (Wn.none rfl) (rd_move hf rfl rfl) hS rfl rfl ?_)
                          clear hf; intro a hf
                          refine step_l (st_rd hf (Wn.none rfl) ((by first | exact rd_indexAddrN hf rfl rfl rfl Try.underlying37 sz42 (by omega) | exact rd_indexAddr hf rfl rfl rfl Try.underlying37 sz42 (by first | decide | omega) (by omega))) hS rfl rfl ?_)
                          clear hf; intro a hf
                          refine step_l (st_rd hf (Wn.none rfl) (rd_loadN hf rfl rfl ag42 sz42 (by intro _ h; exact (hvlb _ (h.sub (by repeat (first | exact Sub.refl | exact Sub.none | exact Sub.behind | (apply Sub.cons; (focus ((repeat (first | exact Sel.head | apply Sel.tail)); done))) | apply Sub.skip)))).elem vcC_len hget)) hS rfl rfl ?_)
                          clear hf; intro a hf
                          refine step_l (st_call hf (Wn.none rfl) rfl rfl rfl fn20 (do_c _ _ _ _ _ _ _ _ _ _ _ x (hS.sels (.cons (by repeat (first | exact Sel.head | apply Sel.tail)) (.cons (by repeat (first | exact Sel.head | apply Sel.tail)) (.cons (by repeat (first | exact Sel.head | apply Sel.tail)) (.cons (by repeat (first | exact Sel.head | apply Sel.tail)) (.cons (by repeat (first | exact Sel.head | apply Sel.tail)) (.cons (by repeat (first | exact Sel.head | apply Sel.tail)) (.cons (by repeat (first | exact Sel.head | apply Sel.tail)) (.cons (by repeat (first | exact Sel.head | apply Sel.tail)) .nil))))))))) hr2 (hx.sub (fun _ h => h.sub (by repeat (first | exact Sub.refl | exact Sub.none | exact Sub.behind | (apply Sub.cons; (focus ((repeat (first | exact Sel.head | apply Sel.tail)); done))) | apply Sub.skip))))) rfl rfl ?_)
                          clear hf hS; rintro v a w ⟨rfl, hS⟩ hf
                          refine done_l ?_
                          refine b_normal ?_
                          refine t_normal ?_
                          refine c_region ?_
                          refine step_l (st_rd hf (Wn.none rfl) (rd_move hf rfl rfl) hS rfl rfl ?_)
                          clear hf; intro a hf
                          refine step_l (st_rd hf (Wn.none rfl) (rd_add hf rfl rfl rfl (by first | exact Go.IntWalk.i64_in _ (by omega) | exact rfl)) hS rfl rfl ?_)
                          clear hf; intro a hf
                          refine step_l (st_rd hf (Wn.none rfl) (rd_assign hf rfl rfl) hS rfl rfl ?_)
                          clear hf; intro a hf
                          refine done_l ?_
                          refine t_normal ⟨(i + 1, doS x s2, doT x t2), ((hf.back (by repeat (first | exact Behind.refl | refine Behind.skip rfl ?_)) hk1).kb hf 12 rfl (by first | rfl | exact int_eq (by omega))), ⟨hS.sub (by repeat (first | exact Sub.refl | exact Sub.none | exact Sub.behind | (apply Sub.cons; (focus ((repeat (first | exact Sel.head | apply Sel.tail)); done))) | apply Sub.skip)), ⟨by omega, rel_do hr2 x, by rw [doS_me]; exact hme2, may_do hr2.sok hmay2 x⟩⟩, by first | omega | (simp only []; omega)⟩
                          )
                      · clear hf; intro hc6 a hf
                        first
                        | (first | exact Bool.noConfusion hc6 | exact absurd rfl hc6 | exact absurd (And.intro rfl rfl) hc6; done)
                        | (
                          refine step_l (st_rd hf (Wn.none rfl) (rd_pick_t hf rfl rfl rfl) hS rfl rfl ?_)
                          clear hf; intro a hf
                          refine done_l ?_
                          refine t_normal ?_
                          refine c_false hf rfl ?_
                          refine c_exit ?_
                          refine t_exit ?_
                          refine t_exit ?_
                          refine b_exit ?_
                          refine t_normal ?_
                          refine c_seq ?_
                          refine c_region ?_
                          refine step_l (st_rd hf (Wn.none rfl) (rd_move hf rfl rfl) hS rfl rfl ?_)
                          clear hf; intro a hf
                          refine step_l (st_call hf (Wn.none rfl) rfl rfl rfl fn23 (VAll_c _ _ _ _ _ _ (hS.sels (.cons (by repeat (first | exact Sel.head | apply Sel.tail)) (.cons (by repeat (first | exact Sel.head | apply Sel.tail)) (.cons (by repeat (first | exact Sel.head | apply Sel.tail)) (.cons (by repeat (first | exact Sel.head | apply Sel.tail)) .nil))))) hr.sok) rfl rfl ?_)
                          clear hf hS; rintro v a w ⟨qa, ca, rfl, hS⟩ hf
                          refine step_l (st_rd hf (Wn.none rfl) (rd_assign hf rfl rfl) hS rfl rfl ?_)
                          clear hf; intro a hf
                          refine done_l ?_
                          refine t_normal ?_
                          refine c_seq ?_
                          refine c_region ?_
                          refine step_l (st_rd hf (Wn.none rfl) (rd_move hf rfl rfl) hS rfl rfl ?_)
                          clear hf; intro a hf
                          refine step_l (st_rd hf (Wn.none rfl) (rd_move hf rfl rfl) hS rfl rfl ?_)
                          clear hf; intro a hf
                          refine step_l (st_call hf (Wn.none rfl) rfl rfl rfl fn23 (VAll_c _ _ _ _ _ _ (hS.sels (.cons (by repeat (first | exact Sel.head | apply Sel.tail)) (.cons (by repeat (first | exact Sel.head | apply Sel.tail)) (.cons (by repeat (first | exact Sel.head | apply Sel.tail)) (.cons (by repeat (first | exact Sel.head | apply Sel.tail)) .nil))))) hr2.sok) rfl rfl ?_)
                          clear hf hS; rintro v a w ⟨qb, cb, rfl, hS⟩ hf
                          refine step_l (st_call hf (Wn.none rfl) rfl rfl rfl fn18 (VJoin_c _ _ _ _ _ _ s2.l _ _ _ (hS.sels (.cons (by repeat (first | exact Sel.head | apply Sel.tail)) (.cons (by repeat (first | exact Sel.head | apply Sel.tail)) (.cons (by repeat (first | exact Sel.head | apply Sel.tail)) (.cons (by repeat (first | exact Sel.head | apply Sel.tail)) .nil))))) hr.sok hr2.sok.l.symm (by rw [hr2.sok.l]; omega) (fun _ h => (by rw [hr2.sok.l]; exact h.slOfRw (by repeat (first | exact Sel.head | apply Sel.tail))))) rfl rfl ?_)
                          clear hf hS; rintro v a w ⟨rfl, hS⟩ hf
                          refine done_l ?_
                          refine t_normal ?_
                          refine c_seq ?_
                          refine c_region ?_
                          refine step_l (st_rd hf (Wn.none rfl) (rd_move hf rfl rfl) hS rfl rfl ?_)
                          clear hf; intro a hf
                          refine step_l (st_rd hf (Wn.none rfl) (rd_move hf rfl rfl) hS rfl rfl ?_)
                          clear hf; intro a hf
                          refine step_l (st_call hf (Wn.none rfl) rfl rfl rfl fn18 (VJoin_c _ _ _ _ _ _ s.l _ _ _ (hS.sels (.cons (by repeat (first | exact Sel.head | apply Sel.tail)) (.cons (by repeat (first | exact Sel.head | apply Sel.tail)) (.cons (by repeat (first | exact Sel.head | apply Sel.tail)) (.cons (by repeat (first | exact Sel.head | apply Sel.tail)) .nil))))) hr2.sok hr.sok.l.symm (by rw [hr.sok.l]; omega) (fun _ h => (by rw [hr.sok.l]; exact h.slOfRw (by repeat (first | exact Sel.head | apply Sel.tail))))) rfl rfl ?_)
                          clear hf hS; rintro v a w ⟨rfl, hS⟩ hf
                          refine done_l ?_
                          refine t_normal ?_
                          refine c_seq ?_
                          refine c_region ?_
                          refine step_l (st_rd hf (Wn.none rfl) (rd_move hf rfl rfl) hS rfl rfl ?_)
                          clear hf; intro a hf
                          refine step_l (st_call hf (Wn.none rfl) rfl rfl rfl fn23 (VAll_c _ _ _ _ _ _ (hS.sels (.cons (by repeat (first | exact Sel.head | apply Sel.tail)) (.cons (by repeat (first | exact Sel.head | apply Sel.tail)) (.cons (by repeat (first | exact Sel.head | apply Sel.tail)) (.cons (by repeat (first | exact Sel.head | apply Sel.tail)) .nil))))) (vJoin_ok hr.sok)) rfl rfl ?_)
                          clear hf hS; rintro v a w ⟨qp, cp, rfl, hS⟩ hf
                          refine step_l (st_rd hf (Wn.none rfl) (rd_move hf rfl rfl) hS rfl rfl ?_)
                          clear hf; intro a hf
                          refine step_l (st_call hf (Wn.none rfl) rfl rfl rfl fn23 (VAll_c _ _ _ _ _ _ (hS.sels (.cons (by repeat (first | exact Sel.head | apply Sel.tail)) (.cons (by repeat (first | exact Sel.head | apply Sel.tail)) (.cons (by repeat (first | exact Sel.head | apply Sel.tail)) (.cons (by repeat (first | exact Sel.head | apply Sel.tail)) .nil))))) (vJoin_ok hr2.sok)) rfl rfl ?_)
                          clear hf hS; rintro v a w ⟨qq, cq, rfl, hS⟩ hf
                          refine step_l (st_rd hf (Wn.none rfl) (rd_assign hf rfl rfl) hS rfl rfl ?_)
                          clear hf; intro a hf
                          refine step_l (st_rd hf (Wn.none rfl) (rd_assign hf rfl rfl) hS rfl rfl ?_)
                          clear hf; intro a hf
                          refine done_l ?_
                          refine t_normal ?_
                          refine c_seq ?_
                          refine c_seq ?_
                          refine c_region ?_
                          refine step_l (st_rd hf (Wn.none rfl) (rd_assign hf rfl rfl) hS rfl rfl ?_)
                          clear hf; intro a hf
                          refine done_l ?_
                          refine t_normal ?_
                          refine c_block ?_
                          have hk2 := Keep.of hf [(6, 6), (16, 16), (83, 96)] (by repeat (first | exact Keep.nil | apply Keep.drop rfl | apply Keep.take rfl))
                          refine c_loopK hk2 (α := Nat) (fun k => [(16, .int .i64 (k : Nat))]) (fun k w => Sat W (Rw 31 2 qp n cp ((vJoin s s2.l).2.l.flatMap memC) :: Rw 31 2 qq n cq ((vJoin s2 s.l).2.l.flatMap memC) :: R) w ∧ 2 ≤ k) (fun k => n - k) 2 ((hf.keep hk2).kb hf 16 rfl (by first | rfl | exact int_eq (by omega))) ⟨hS.sub (by repeat (first | exact Sub.refl | exact Sub.none | exact Sub.behind | (apply Sub.cons; (focus ((repeat (first | exact Sel.head | apply Sel.tail)); done))) | apply Sub.skip)), by omega⟩ ?_
                          clear hf hS; rintro k a w hf ⟨hS, hk⟩; (try dsimp only [List.cons_append, List.nil_append] at hf)
                          refine c_seq ?_
                          refine c_seq ?_
                          refine c_region ?_
                          refine step_l (st_rd hf (Wn.none rfl) (rd_move hf rfl rfl) hS rfl rfl ?_)
                          clear hf; intro a hf
                          refine step_l (st_rd hf (Wn.none rfl) (rd_move hf rfl rfl) hS rfl rfl ?_)
                          clear hf; intro a hf
                          refine step_l (st_rdB hf (Wn.none rfl) (rd_lss hf rfl rfl rfl) hS rfl rfl ?_ ?_)
                          · clear hf; intro hc7 a hf
                            have hkn : k < n := by omega
                            have hgp := gm_get (vJoin_ok (L := s2.l) hr.sok) hkn; have hgq := gm_get (vJoin_ok (L := s.l) hr2.sok) hkn; rw [← alike hr.sok hr2.sok hmay hmay2 hkn (by omega) (by omega)] at hgq
                            obtain ⟨adp, rfl⟩ := (hS.slOfRw (by repeat (first | exact Sel.head | apply Sel.tail)) : SlAt _ qp n 2 _).some (by omega); obtain ⟨adq, rfl⟩ := (hS.slOfRw (by repeat (first | exact Sel.head | apply Sel.tail)) : SlAt _ qq n 2 _).some (by omega)
                            first
                            | (first | exact Bool.noConfusion hc7 | exact absurd rfl hc7 | exact absurd (And.intro rfl rfl) hc7; done)
                            | (
                              refine done_l ?_
                              refine t_normal ?_
                              refine c_true hf rfl ?_
                              refine c_skip ?_
                              refine t_normal ?_
                              refine c_seq ?_
                              refine c_block ?_
                              refine c_seq ?_
                              refine any_begin mixed hS.drew ?_
                              replace hS := hS.drew
                              have hT := hS
                              refine any_take (i := 0) hf rfl (by kernel_rfl) (by kernel_rfl) (by kernel_rfl) (fun _ _ _ h => h) (Wn.none rfl) (rd_move hf rfl rfl) hT rfl rfl ?_
                              clear hf; intro a hf
                              refine any_take (i := 1) hf rfl (by kernel_rfl) (by kernel_rfl) (by kernel_rfl) (fun _ _ _ h => h) (Wn.none rfl) (rd_move hf rfl rfl) hT rfl rfl ?_
                              clear hf; intro a hf
                              refine any_take (i := 2) hf rfl (by kernel_rfl) (by kernel_rfl) (by kernel_rfl) (fun _ _ _ h => h) (Wn.none rfl) ((by first | exact rd_indexAddrN hf rfl rfl rfl Try.underlying34 sz31 (by omega) | exact rd_indexAddr hf rfl rfl rfl Try.underlying34 sz31 (by first | decide | omega) (by omega))) hT rfl rfl ?_
                              clear hf; intro a hf
                              refine any_take (i := 3) hf rfl (by kernel_rfl) (by kernel_rfl) (by kernel_rfl) (fun _ _ _ h => h) (Wn.none rfl) (rd_loadN hf rfl rfl ag31 sz31 (by intro _ h; exact (h.slOfRw (by repeat (first | exact Sel.head | apply Sel.tail))).elem memC_len hgp)) hT rfl rfl ?_
                              clear hf; intro a hf
                              refine any_take (i := 4) hf rfl (by kernel_rfl) (by kernel_rfl) (by kernel_rfl) (fun _ _ _ h => h) (Wn.none rfl) (rd_move hf rfl rfl) hT rfl rfl ?_
                              clear hf; intro a hf
                              refine any_take (i := 5) hf rfl (by kernel_rfl) (by kernel_rfl) (by kernel_rfl) (fun _ _ _ h => h) (Wn.none rfl) (rd_move hf rfl rfl) hT rfl rfl ?_
                              clear hf; intro a hf
                              refine any_take (i := 6) hf rfl (by kernel_rfl) (by kernel_rfl) (by kernel_rfl) (fun _ _ _ h => h) (Wn.none rfl) ((by first | exact rd_indexAddrN hf rfl rfl rfl Try.underlying34 sz31 (by omega) | exact rd_indexAddr hf rfl rfl rfl Try.underlying34 sz31 (by first | decide | omega) (by omega))) hT rfl rfl ?_
                              clear hf; intro a hf
                              refine any_take (i := 7) hf rfl (by kernel_rfl) (by kernel_rfl) (by kernel_rfl) (fun _ _ _ h => h) (Wn.none rfl) (rd_loadN hf rfl rfl ag31 sz31 (by intro _ h; exact (h.slOfRw (by repeat (first | exact Sel.head | apply Sel.tail))).elem memC_len hgq)) hT rfl rfl ?_
                              clear hf; intro a hf
                              refine any_takeB (i := 8) hf rfl (by kernel_rfl) (by kernel_rfl) (by kernel_rfl) (fun _ _ _ _ h => h) (Wn.none rfl) (rd_neqM hf rfl rfl rfl) hT rfl rfl ?_ ?_
                              · clear hf; intro hc8 a hf
                                first
                                | (first | exact Bool.noConfusion hc8 | exact absurd rfl hc8 | exact absurd (And.intro rfl rfl) hc8; done)
                                | (
                                  refine any_done (by kernel_rfl) ?_
                                  refine t_normal ?_
                                  refine c_true hf rfl ?_
                                  refine c_seq ?_
                                  refine c_region ?_
                                  refine step_l (st_rd hf (Wn.none rfl) (rd_assign hf rfl rfl) hS rfl rfl ?_)
                                  clear hf; intro a hf
                                  refine done_l ?_
                                  refine t_normal ?_
                                  refine c_ret ?_
                                  refine b_ret ?_
                                  refine t_ret ?_
                                  refine t_ret ?_
                                  refine b_ret ?_
                                  refine t_ret ?_
                                  refine e_res1 hf.defers rfl (res_tmp hf rfl .nil) ?_
                                  exact ⟨rfl, hS.sub (by repeat (first | exact Sub.refl | exact Sub.none | exact Sub.behind | (apply Sub.cons; (focus ((repeat (first | exact Sel.head | apply Sel.tail)); done))) | apply Sub.skip))⟩
                                  )
                              · clear hf; intro hc8 a hf
                                first
                                | (first | exact Bool.noConfusion hc8 | exact absurd rfl hc8 | exact absurd (And.intro rfl rfl) hc8; done)
                                | (
                                  refine any_done (by kernel_rfl) ?_
                                  refine t_normal ?_
                                  refine c_false hf rfl ?_
                                  refine c_skip ?_
                                  refine b_normal ?_
                                  refine t_normal ?_
                                  refine c_region ?_
                                  refine step_l (st_rd hf (Wn.none rfl) (rd_move hf rfl rfl) hS rfl rfl ?_)
                                  clear hf; intro a hf
                                  refine step_l (st_rd hf (Wn.none rfl) (rd_add hf rfl rfl rfl (by first | exact Go.IntWalk.i64_in _ (by omega) | exact rfl)) hS rfl rfl ?_)
                                  clear hf; intro a hf
                                  refine step_l (st_rd hf (Wn.none rfl) (rd_assign hf rfl rfl) hS rfl rfl ?_)
                                  clear hf; intro a hf
                                  refine done_l ?_
                                  refine t_normal ⟨k + 1, ((hf.back (by repeat (first | exact Behind.refl | refine Behind.skip rfl ?_)) hk2).kb hf 16 rfl (by first | rfl | exact int_eq (by omega))), ⟨hS.sub (by repeat (first | exact Sub.refl | exact Sub.none | exact Sub.behind | (apply Sub.cons; (focus ((repeat (first | exact Sel.head | apply Sel.tail)); done))) | apply Sub.skip)), by omega⟩, by first | omega | (simp only []; omega)⟩
                                  )
                              )
                          · clear hf; intro hc7 a hf
                            first
                            | (first | exact Bool.noConfusion hc7 | exact absurd rfl hc7 | exact absurd (And.intro rfl rfl) hc7; done)
                            | (
                              refine done_l ?_
                              refine t_normal ?_
                              refine c_false hf rfl ?_
                              refine c_exit ?_
                              refine t_exit ?_
                              refine t_exit ?_
                              refine b_exit ?_
                              refine t_normal ?_
                              refine c_seq ?_
                              refine c_region ?_
                              refine step_l (st_call hf (Wn.none rfl) rfl rfl rfl fn14 (awake_c hS) rfl rfl ?_)
                              clear hf hS; rintro v a w ⟨rfl, hS⟩ hf
                              refine step_l (st_rd hf (Wn.none rfl) (rd_assign hf rfl rfl) hS rfl rfl ?_)
                              clear hf; intro a hf
                              refine done_l ?_
                              refine t_normal ?_
                              refine c_ret ?_
                              refine e_res1 hf.defers rfl (res_tmp hf rfl .nil) ?_
                              exact ⟨rfl, hS.sub (by repeat (first | exact Sub.refl | exact Sub.none | exact Sub.behind | (apply Sub.cons; (focus ((repeat (first | exact Sel.head | apply Sel.tail)); done))) | apply Sub.skip))⟩
                              )
                          )
                      )
                  · clear hf; intro hc5 a hf
                    first
                    | (first | exact Bool.noConfusion hc5 | exact absurd rfl hc5 | exact absurd (And.intro rfl rfl) hc5; done)
                    | (
                      refine step_l (st_rd hf (Wn.none rfl) (rd_move hf rfl rfl) hS rfl rfl ?_)
                      clear hf; intro a hf
                      refine step_l (st_skip hf (Wn.some hf rfl rfl rfl rfl) rfl rfl ?_)
                      clear hf; intro a hf
                      refine step_l (st_skip hf (Wn.some hf rfl rfl rfl rfl) rfl rfl ?_)
                      clear hf; intro a hf
                      refine step_l (st_rd hf (Wn.none rfl) (rd_pick_f hf rfl rfl rfl) hS rfl rfl ?_)
                      clear hf; intro a hf
                      refine done_l ?_
                      refine t_normal ?_
                      refine c_false hf rfl ?_
                      refine c_exit ?_
                      refine t_exit ?_
                      refine t_exit ?_
                      refine b_exit ?_
                      refine t_normal ?_
                      refine c_seq ?_
                      refine c_region ?_
                      refine step_l (st_rd hf (Wn.none rfl) (rd_move hf rfl rfl) hS rfl rfl ?_)
                      clear hf; intro a hf
                      refine step_l (st_call hf (Wn.none rfl) rfl rfl rfl fn23 (VAll_c _ _ _ _ _ _ (hS.sels (.cons (by repeat (first | exact Sel.head | apply Sel.tail)) (.cons (by repeat (first | exact Sel.head | apply Sel.tail)) (.cons (by repeat (first | exact Sel.head | apply Sel.tail)) (.cons (by repeat (first | exact Sel.head | apply Sel.tail)) .nil))))) hr.sok) rfl rfl ?_)
                      clear hf hS; rintro v a w ⟨qa, ca, rfl, hS⟩ hf
                      refine step_l (st_rd hf (Wn.none rfl) (rd_assign hf rfl rfl) hS rfl rfl ?_)
                      clear hf; intro a hf
                      refine done_l ?_
                      refine t_normal ?_
                      refine c_seq ?_
                      refine c_region ?_
                      refine step_l (st_rd hf (Wn.none rfl) (rd_move hf rfl rfl) hS rfl rfl ?_)
                      clear hf; intro a hf
                      refine step_l (st_rd hf (Wn.none rfl) (rd_move hf rfl rfl) hS rfl rfl ?_)
                      clear hf; intro a hf
                      refine step_l (st_call hf (Wn.none rfl) rfl rfl rfl fn23 (VAll_c _ _ _ _ _ _ (hS.sels (.cons (by repeat (first | exact Sel.head | apply Sel.tail)) (.cons (by repeat (first | exact Sel.head | apply Sel.tail)) (.cons (by repeat (first | exact Sel.head | apply Sel.tail)) (.cons (by repeat (first | exact Sel.head | apply Sel.tail)) .nil))))) hr2.sok) rfl rfl ?_)
                      clear hf hS; rintro v a w ⟨qb, cb, rfl, hS⟩ hf
                      refine step_l (st_call hf (Wn.none rfl) rfl rfl rfl fn18 (VJoin_c _ _ _ _ _ _ s2.l _ _ _ (hS.sels (.cons (by repeat (first | exact Sel.head | apply Sel.tail)) (.cons (by repeat (first | exact Sel.head | apply Sel.tail)) (.cons (by repeat (first | exact Sel.head | apply Sel.tail)) (.cons (by repeat (first | exact Sel.head | apply Sel.tail)) .nil))))) hr.sok hr2.sok.l.symm (by rw [hr2.sok.l]; omega) (fun _ h => (by rw [hr2.sok.l]; exact h.slOfRw (by repeat (first | exact Sel.head | apply Sel.tail))))) rfl rfl ?_)
                      clear hf hS; rintro v a w ⟨rfl, hS⟩ hf
                      refine done_l ?_
                      refine t_normal ?_
                      refine c_seq ?_
                      refine c_region ?_
                      refine step_l (st_rd hf (Wn.none rfl) (rd_move hf rfl rfl) hS rfl rfl ?_)
                      clear hf; intro a hf
                      refine step_l (st_rd hf (Wn.none rfl) (rd_move hf rfl rfl) hS rfl rfl ?_)
                      clear hf; intro a hf
                      refine step_l (st_call hf (Wn.none rfl) rfl rfl rfl fn18 (VJoin_c _ _ _ _ _ _ s.l _ _ _ (hS.sels (.cons (by repeat (first | exact Sel.head | apply Sel.tail)) (.cons (by repeat (first | exact Sel.head | apply Sel.tail)) (.cons (by repeat (first | exact Sel.head | apply Sel.tail)) (.cons (by repeat (first | exact Sel.head | apply Sel.tail)) .nil))))) hr2.sok hr.sok.l.symm (by rw [hr.sok.l]; omega) (fun _ h => (by rw [hr.sok.l]; exact h.slOfRw (by repeat (first | exact Sel.head | apply Sel.tail))))) rfl rfl ?_)
                      clear hf hS; rintro v a w ⟨rfl, hS⟩ hf
                      refine done_l ?_
                      refine t_normal ?_
                      refine c_seq ?_
                      refine c_region ?_
                      refine step_l (st_rd hf (Wn.none rfl) (rd_move hf rfl rfl) hS rfl rfl ?_)
                      clear hf; intro a hf
                      refine step_l (st_call hf (Wn.none rfl) rfl rfl rfl fn23 (VAll_c _ _ _ _ _ _ (hS.sels (.cons (by repeat (first | exact Sel.head | apply Sel.tail)) (.cons (by repeat (first | exact Sel.head | apply Sel.tail)) (.cons (by repeat (first | exact Sel.head | apply Sel.tail)) (.cons (by repeat (first | exact Sel.head | apply Sel.tail)) .nil))))) (vJoin_ok hr.sok)) rfl rfl ?_)
                      clear hf hS; rintro v a w ⟨qp, cp, rfl, hS⟩ hf
                      refine step_l (st_rd hf (Wn.none rfl) (rd_move hf rfl rfl) hS rfl rfl ?_)
                      clear hf; intro a hf
                      refine step_l (st_call hf (Wn.none rfl) rfl rfl rfl fn23 (VAll_c _ _ _ _ _ _ (hS.sels (.cons (by repeat (first | exact Sel.head | apply Sel.tail)) (.cons (by repeat (first | exact Sel.head | apply Sel.tail)) (.cons (by repeat (first | exact Sel.head | apply Sel.tail)) (.cons (by repeat (first | exact Sel.head | apply Sel.tail)) .nil))))) (vJoin_ok hr2.sok)) rfl rfl ?_)
                      clear hf hS; rintro v a w ⟨qq, cq, rfl, hS⟩ hf
                      refine step_l (st_rd hf (Wn.none rfl) (rd_assign hf rfl rfl) hS rfl rfl ?_)
                      clear hf; intro a hf
                      refine step_l (st_rd hf (Wn.none rfl) (rd_assign hf rfl rfl) hS rfl rfl ?_)
                      clear hf; intro a hf
                      refine done_l ?_
                      refine t_normal ?_
                      refine c_seq ?_
                      refine c_seq ?_
                      refine c_region ?_
                      refine step_l (st_rd hf (Wn.none rfl) (rd_assign hf rfl rfl) hS rfl rfl ?_)
                      clear hf; intro a hf
                      refine done_l ?_
                      refine t_normal ?_
                      refine c_block ?_
                      have hk3 := Keep.of hf [(6, 6), (16, 16), (83, 96)] (by repeat (first | exact Keep.nil | apply Keep.drop rfl | apply Keep.take rfl))
                      refine c_loopK hk3 (α := Nat) (fun k => [(16, .int .i64 (k : Nat))]) (fun k w => Sat W (Rw 31 2 qp n cp ((vJoin s s2.l).2.l.flatMap memC) :: Rw 31 2 qq n cq ((vJoin s2 s.l).2.l.flatMap memC) :: R) w ∧ 2 ≤ k) (fun k => n - k) 2 ((hf.keep hk3).kb hf 16 rfl (by first | rfl | exact int_eq (by omega))) ⟨hS.sub (by repeat (first | exact Sub.refl | exact Sub.none | exact Sub.behind | (apply Sub.cons; (focus ((repeat (first | exact Sel.head | apply Sel.tail)); done))) | apply Sub.skip)), by omega⟩ ?_
                      clear hf hS; rintro k a w hf ⟨hS, hk⟩; (try dsimp only [List.cons_append, List.nil_append] at hf)
                      refine c_seq ?_
                      refine c_seq ?_
                      refine c_region ?_
                      refine step_l (st_rd hf (Wn.none rfl) (rd_move hf rfl rfl) hS rfl rfl ?_)
                      clear hf; intro a hf
                      refine step_l (st_rd hf (Wn.none rfl) (rd_move hf rfl rfl) hS rfl rfl ?_)
                      clear hf; intro a hf
                      refine step_l (st_rdB hf (Wn.none rfl) (rd_lss hf rfl rfl rfl) hS rfl rfl ?_ ?_)
                      · clear hf; intro hc9 a hf
                        have hkn : k < n := by omega
                        have hgp := gm_get (vJoin_ok (L := s2.l) hr.sok) hkn; have hgq := gm_get (vJoin_ok (L := s.l) hr2.sok) hkn; rw [← alike hr.sok hr2.sok hmay hmay2 hkn (by omega) (by omega)] at hgq
                        obtain ⟨adp, rfl⟩ := (hS.slOfRw (by repeat (first | exact Sel.head | apply Sel.tail)) : SlAt _ qp n 2 _).some (by omega); obtain ⟨adq, rfl⟩ := (hS.slOfRw (by repeat (first | exact Sel.head | apply Sel.tail)) : SlAt _ qq n 2 _).some (by omega)
                        first
                        | (first | exact Bool.noConfusion hc9 | exact absurd rfl hc9 | exact absurd (And.intro rfl rfl) hc9; done)
                        | (
                          refine done_l ?_
                          refine t_normal ?_
                          refine c_true hf rfl ?_
                          refine c_skip ?_
                          refine t_normal ?_
                          refine c_seq ?_
                          refine c_block ?_
                          refine c_seq ?_
                          refine any_begin mixed hS.drew ?_
                          replace hS := hS.drew
                          have hT := hS
                          refine any_take (i := 0) hf rfl (by kernel_rfl) (by kernel_rfl) (by kernel_rfl) (fun _ _ _ h => h) (Wn.none rfl) (rd_move hf rfl rfl) hT rfl rfl ?_
                          clear hf; intro a hf
                          refine any_take (i := 1) hf rfl (by kernel_rfl) (by kernel_rfl) (by kernel_rfl) (fun _ _ _ h => h) (Wn.none rfl) (rd_move hf rfl rfl) hT rfl rfl ?_
                          clear hf; intro a hf
                          refine any_take (i := 2) hf rfl (by kernel_rfl) (by kernel_rfl) (by kernel_rfl) (fun _ _ _ h => h) (Wn.none rfl) ((by first | exact rd_indexAddrN hf rfl rfl rfl Try.underlying34 sz31 (by omega) | exact rd_indexAddr hf rfl rfl rfl Try.underlying34 sz31 (by first | decide | omega) (by omega))) hT rfl rfl ?_
                          clear hf; intro a hf
                          refine any_take (i := 3) hf rfl (by kernel_rfl) (by kernel_rfl) (by kernel_rfl) (fun _ _ _ h => h) (Wn.none rfl) (rd_loadN hf rfl rfl ag31 sz31 (by intro _ h; exact (h.slOfRw (by repeat (first | exact Sel.head | apply Sel.tail))).elem memC_len hgp)) hT rfl rfl ?_
                          clear hf; intro a hf
                          refine any_take (i := 4) hf rfl (by kernel_rfl) (by kernel_rfl) (by kernel_rfl) (fun _ _ _ h => h) (Wn.none rfl) (rd_move hf rfl rfl) hT rfl rfl ?_
                          clear hf; intro a hf
                          refine any_take (i := 5) hf rfl (by kernel_rfl) (by kernel_rfl) (by kernel_rfl) (fun _ _ _ h => h) (Wn.none rfl) (rd_move hf rfl rfl) hT rfl rfl ?_
                          clear hf; intro a hf
                          refine any_take (i := 6) hf rfl (by kernel_rfl) (by kernel_rfl) (by kernel_rfl) (fun _ _ _ h => h) (Wn.none rfl) ((by first | exact rd_indexAddrN hf rfl rfl rfl Try.underlying34 sz31 (by omega) | exact rd_indexAddr hf rfl rfl rfl Try.underlying34 sz31 (by first | decide | omega) (by omega))) hT rfl rfl ?_
                          clear hf; intro a hf
                          refine any_take (i := 7) hf rfl (by kernel_rfl) (by kernel_rfl) (by kernel_rfl) (fun _ _ _ h => h) (Wn.none rfl) (rd_loadN hf rfl rfl ag31 sz31 (by intro _ h; exact (h.slOfRw (by repeat (first | exact Sel.head | apply Sel.tail))).elem memC_len hgq)) hT rfl rfl ?_
                          clear hf; intro a hf
                          refine any_takeB (i := 8) hf rfl (by kernel_rfl) (by kernel_rfl) (by kernel_rfl) (fun _ _ _ _ h => h) (Wn.none rfl) (rd_neqM hf rfl rfl rfl) hT rfl rfl ?_ ?_
                          · clear hf; intro hc10 a hf
                            first
                            | (first | exact Bool.noConfusion hc10 | exact absurd rfl hc10 | exact absurd (And.intro rfl rfl) hc10; done)
                            | (
                              refine any_done (by kernel_rfl) ?_
                              refine t_normal ?_
                              refine c_true hf rfl ?_
                              refine c_seq ?_
                              refine c_region ?_
                              refine step_l (st_rd hf (Wn.none rfl) (rd_assign hf rfl rfl) hS rfl rfl ?_)
                              clear hf; intro a hf
                              refine done_l ?_
                              refine t_normal ?_
                              refine c_ret ?_
                              refine b_ret ?_
                              refine t_ret ?_
                              refine t_ret ?_
                              refine b_ret ?_
                              refine t_ret ?_
                              refine e_res1 hf.defers rfl (res_tmp hf rfl .nil) ?_
                              exact ⟨rfl, hS.sub (by repeat (first | exact Sub.refl | exact Sub.none | exact Sub.behind | (apply Sub.cons; (focus ((repeat (first | exact Sel.head | apply Sel.tail)); done))) | apply Sub.skip))⟩
                              )
                          · clear hf; intro hc10 a hf
                            first
                            | (first | exact Bool.noConfusion hc10 | exact absurd rfl hc10 | exact absurd (And.intro rfl rfl) hc10; done)
                            | (
                              refine any_done (by kernel_rfl) ?_
                              refine t_normal ?_
                              refine c_false hf rfl ?_
                              refine c_skip ?_
                              refine b_normal ?_
                              refine t_normal ?_
                              refine c_region ?_
                              refine step_l (st_rd hf (Wn.none rfl) (rd_move hf rfl rfl) hS rfl rfl ?_)
                              clear hf; intro a hf
                              refine step_l (st_rd hf (Wn.none rfl) (rd_add hf rfl rfl rfl (by first | exact Go.IntWalk.i64_in _ (by omega) | exact rfl)) hS rfl rfl ?_)
                              clear hf; intro a hf
                              refine step_l (st_rd hf (Wn.none rfl) (rd_assign hf rfl rfl) hS rfl rfl ?_)
                              clear hf; intro a hf
                              refine done_l ?_
                              refine t_normal ⟨k + 1, ((hf.back (by repeat (first | exact Behind.refl | refine Behind.skip rfl ?_)) hk3).kb hf 16 rfl (by first | rfl | exact int_eq (by omega))), ⟨hS.sub (by repeat (first | exact Sub.refl | exact Sub.none | exact Sub.behind | (apply Sub.cons; (focus ((repeat (first | exact Sel.head | apply Sel.tail)); done))) | apply Sub.skip)), by omega⟩, by first | omega | (simp only []; omega)⟩
                              )
                          )
                      · clear hf; intro hc9 a hf
                        first
                        | (first | exact Bool.noConfusion hc9 | exact absurd rfl hc9 | exact absurd (And.intro rfl rfl) hc9; done)
                        | (
                          refine done_l ?_
                          refine t_normal ?_
                          refine c_false hf rfl ?_
                          refine c_exit ?_
                          refine t_exit ?_
                          refine t_exit ?_
                          refine b_exit ?_
                          refine t_normal ?_
                          refine c_seq ?_
                          refine c_region ?_
                          refine step_l (st_call hf (Wn.none rfl) rfl rfl rfl fn14 (awake_c hS) rfl rfl ?_)
                          clear hf hS; rintro v a w ⟨rfl, hS⟩ hf
                          refine step_l (st_rd hf (Wn.none rfl) (rd_assign hf rfl rfl) hS rfl rfl ?_)
                          clear hf; intro a hf
                          refine done_l ?_
                          refine t_normal ?_
                          refine c_ret ?_
                          refine e_res1 hf.defers rfl (res_tmp hf rfl .nil) ?_
                          exact ⟨rfl, hS.sub (by repeat (first | exact Sub.refl | exact Sub.none | exact Sub.behind | (apply Sub.cons; (focus ((repeat (first | exact Sel.head | apply Sel.tail)); done))) | apply Sub.skip))⟩
                          )
                      )
                  )
              )
          · clear hf; intro hc3 a hf
            first
            | (first | exact Bool.noConfusion hc3 | exact absurd rfl hc3 | exact absurd (And.intro rfl rfl) hc3; done)
            | (
              refine step_l (st_rd hf (Wn.none rfl) (rd_move hf rfl rfl) hS rfl rfl ?_)
              clear hf; intro a hf
              refine step_l (st_skip hf (Wn.some hf rfl rfl rfl rfl) rfl rfl ?_)
              clear hf; intro a hf
              refine step_l (st_skip hf (Wn.some hf rfl rfl rfl rfl) rfl rfl ?_)
              clear hf; intro a hf
              refine step_l (st_rd hf (Wn.none rfl) (rd_pick_f hf rfl rfl rfl) hS rfl rfl ?_)
              clear hf; intro a hf
              refine done_l ?_
              refine t_normal ?_
              refine c_false hf rfl ?_
              refine c_exit ?_
              refine t_exit ?_
              refine t_exit ?_
              refine b_exit ?_
              refine t_normal ?_
              refine c_seq ?_
              refine c_seq ?_
              refine c_region ?_
              refine step_l (st_rd hf (Wn.none rfl) (rd_assign hf rfl rfl) hS rfl rfl ?_)
              clear hf; intro a hf
              refine done_l ?_
              refine t_normal ?_
              refine c_block ?_
              have hk4 := Keep.of hf [(12, 12), (53, 69)] (by repeat (first | exact Keep.nil | apply Keep.drop rfl | apply Keep.take rfl))
              refine c_loopK hk4 (α := Nat × VS × VS) (fun ⟨i, s2, t2⟩ => [(12, .int .i64 (i : Nat))]) (fun ⟨i, s2, t2⟩ w => Sat W (Blk pv [.int .i64 (s.me : Nat), .slice (some ⟨b1, 0, none⟩) n n, .slice (some ⟨b2, 0, none⟩) n n, .slice (some ⟨b3, 0, none⟩) n n] 53 :: Rw 31 2 (some ⟨b1, 0, none⟩) n n (s.l.flatMap memC) :: Rw 3 1 (some ⟨b2, 0, none⟩) n n (i64s s.ag) :: Rw 3 1 (some ⟨b3, 0, none⟩) n n (i64s s.op) :: Blk pm [.int .i64 (t.me : Nat), .slice (some ⟨c1, 0, none⟩) n n, .slice (some ⟨c2, 0, none⟩) n n, .slice (some ⟨c3, 0, none⟩) n n] 46 :: Rw 31 2 (some ⟨c1, 0, none⟩) n n (t.l.flatMap memC) :: Rw 3 1 (some ⟨c2, 0, none⟩) n n (i64s t.ag) :: Rw 3 1 (some ⟨c3, 0, none⟩) n n (i64s t.op) :: Blk pw [.int .i64 (s2.me : Nat), .slice (some ⟨d1, 0, none⟩) n n, .slice (some ⟨d2, 0, none⟩) n n, .slice (some ⟨d3, 0, none⟩) n n] 53 :: Rw 31 2 (some ⟨d1, 0, none⟩) n n (s2.l.flatMap memC) :: Rw 3 1 (some ⟨d2, 0, none⟩) n n (i64s s2.ag) :: Rw 3 1 (some ⟨d3, 0, none⟩) n n (i64s s2.op) :: Blk pk [.int .i64 (t2.me : Nat), .slice (some ⟨e1, 0, none⟩) n n, .slice (some ⟨e2, 0, none⟩) n n, .slice (some ⟨e3, 0, none⟩) n n] 46 :: Rw 31 2 (some ⟨e1, 0, none⟩) n n (t2.l.flatMap memC) :: Rw 3 1 (some ⟨e2, 0, none⟩) n n (i64s t2.ag) :: Rw 3 1 (some ⟨e3, 0, none⟩) n n (i64s t2.op) :: R) w ∧ i ≤ 60 ∧ Rel n s2 t2 ∧ s2.me = 1 ∧ AMay n s2) (fun ⟨i, s2, t2⟩ => 60 - i) (0, vNew n 1, vNew n 1) ((hf.keep hk4).kb hf 12 rfl (by first | rfl | exact int_eq (by omega))) ⟨hS.sub (by repeat (first | exact Sub.refl | exact Sub.none | exact Sub.behind | (apply Sub.cons; (focus ((repeat (first | exact Sel.head | apply Sel.tail)); done))) | apply Sub.skip)), ⟨by omega, rel_new (by omega) hnb.1, rfl, may_new n 1⟩⟩ ?_
              clear hf hS; rintro ⟨i, s2, t2⟩ a w hf ⟨hS, ⟨hi2, hr2, hme2, hmay2⟩⟩; (try dsimp only [List.cons_append, List.nil_append] at hf)
              refine c_seq ?_
              refine c_seq ?_
              refine c_region ?_
              refine step_l (st_rd hf (Wn.none rfl) (rd_move hf rfl rfl) hS rfl rfl ?_)
              clear hf; intro a hf
              refine step_l (st_rd hf (Wn.none rfl) (rd_move hf rfl rfl) hS rfl rfl ?_)
              clear hf; intro a hf
              refine step_l (st_rd hf (Wn.none rfl) (rd_len hf rfl rfl Try.underlying37) hS rfl rfl ?_)
              clear hf; intro a hf
              refine step_l (st_rdB hf (Wn.none rfl) (rd_lss hf rfl rfl rfl) hS rfl rfl ?_ ?_)
              · clear hf; intro hc11 a hf
                first
                | (first | exact Bool.noConfusion hc11 | exact absurd rfl hc11 | exact absurd (And.intro rfl rfl) hc11; done)
                | (
                  refine step_l (st_rd hf (Wn.none rfl) (rd_move hf rfl rfl) hS rfl rfl ?_)
                  clear hf; intro a hf
                  refine step_l (st_rd hf (Wn.some hf rfl rfl rfl rfl) (rd_move hf rfl rfl) hS rfl rfl ?_)
                  clear hf; intro a hf
                  refine step_l (st_rdB hf (Wn.some hf rfl rfl rfl rfl) (rd_lss hf rfl rfl rfl) hS rfl rfl ?_ ?_)
                  · clear hf; intro hc12 a hf
                    obtain ⟨x, hget⟩ := get_of_lt (l := lb) (k := i) (by omega) rfl; have hx := hllb x (List.mem_of_getElem? hget); obtain ⟨adl, rfl⟩ := (hvlb _ (hS.sub (by repeat (first | exact Sub.refl | exact Sub.none | exact Sub.behind | (apply Sub.cons; (focus ((repeat (first | exact Sel.head | apply Sel.tail)); done))) | apply Sub.skip)))).some (by omega)
                    first
                    | (first | exact Bool.noConfusion hc12 | exact absurd rfl hc12 | exact absurd (And.intro rfl rfl) hc12; done)
                    | (
                      refine step_l (st_rd hf (Wn.none rfl) (rd_pick_t hf rfl rfl rfl) hS rfl rfl ?_)
                      clear hf; intro a hf
                      refine done_l ?_
                      refine t_normal ?_
                      refine c_true hf rfl ?_
                      refine c_skip ?_
                      refine t_normal ?_
                      refine c_seq ?_
                      refine c_block ?_
                      refine c_region ?_
                      refine step_l (st_rd hf (Wn.none rfl) (rd_move hf rfl rfl) hS rfl rfl ?_)
                      clear hf; intro a hf
                      refine step_l (st_rd hf (Wn.none rfl) (rd_move hf rfl rfl) hS rfl rfl ?_)
                      clear hf; intro a hf
                      refine step_l (st_rd hf (Wn.none rfl) (rd_move hf rfl rfl) hS rfl rfl ?_)
                      clear hf; intro a hf
                      refine step_l (st_rd hf (Wn.none rfl) (rd_move hf rfl rfl) hS rfl rfl ?_)
                      clear hf; intro a hf
                      refine step_l (st_rd hf (Wn.none rfl) ((by first | exact rd_indexAddrN hf rfl rfl rfl Try.underlying37 sz42 (by omega) | exact rd_indexAddr hf rfl rfl rfl Try.underlying37 sz42 (by first | decide | omega) (by omega))) hS rfl rfl ?_)
                      clear hf; intro a hf
                      refine step_l (st_rd hf (Wn.none rfl) (rd_loadN hf rfl rfl ag42 sz42 (by intro _ h; exact (hvlb _ (h.sub (by repeat (first | exact Sub.refl | exact Sub.none | exact Sub.behind | (apply Sub.cons; (focus ((repeat (first | exact Sel.head | apply Sel.tail)); done))) | apply Sub.skip)))).elem vcC_len hget)) hS rfl rfl ?_)
                      clear hf; intro a hf
                      refine step_l (st_call hf (Wn.none rfl) rfl rfl rfl fn20 (do_c _ _ _ _ _ _ _ _ _ _ _ x (hS.sels (.cons (by repeat (first | exact Sel.head | apply Sel.tail)) (.cons (by repeat (first | exact Sel.head | apply Sel.tail)) (.cons (by repeat (first | exact Sel.head | apply Sel.tail)) (.cons (by repeat (first | exact Sel.head | apply Sel.tail)) (.cons (by repeat (first | exact Sel.head | apply Sel.tail)) (.cons (by repeat (first | exact Sel.head | apply Sel.tail)) (.cons (by repeat (first | exact Sel.head | apply Sel.tail)) (.cons (by repeat (first | exact Sel.head | apply Sel.tail)) .nil))))))))) hr2 (hx.sub (fun _ h => h.sub (by repeat (first | exact Sub.refl | exact Sub.none | exact Sub.behind | (apply Sub.cons; (focus ((repeat (first | exact Sel.head | apply Sel.tail)); done))) | apply Sub.skip))))) rfl rfl ?_)
                      clear hf hS; rintro v a w ⟨rfl, hS⟩ hf
                      refine done_l ?_
                      refine b_normal ?_
                      refine t_normal ?_
                      refine c_region ?_
                      refine step_l (st_rd hf (Wn.none rfl) (rd_move hf rfl rfl) hS rfl rfl ?_)
                      clear hf; intro a hf
                      refine step_l (st_rd hf (Wn.none rfl) (rd_add hf rfl rfl rfl (by first | exact Go.IntWalk.i64_in _ (by omega) | exact rfl)) hS rfl rfl ?_)
                      clear hf; intro a hf
                      refine step_l (st_rd hf (Wn.none rfl) (rd_assign hf rfl rfl) hS rfl rfl ?_)
                      clear hf; intro a hf
                      refine done_l ?_
                      refine t_normal ⟨(i + 1, doS x s2, doT x t2), ((hf.back (by repeat (first | exact Behind.refl | refine Behind.skip rfl ?_)) hk4).kb hf 12 rfl (by first | rfl | exact int_eq (by omega))), ⟨hS.sub (by repeat (first | exact Sub.refl | exact Sub.none | exact Sub.behind | (apply Sub.cons; (focus ((repeat (first | exact Sel.head | apply Sel.tail)); done))) | apply Sub.skip)), ⟨by omega, rel_do hr2 x, by rw [doS_me]; exact hme2, may_do hr2.sok hmay2 x⟩⟩, by first | omega | (simp only []; omega)⟩
                      )
                  · clear hf; intro hc12 a hf
                    first
                    | (first | exact Bool.noConfusion hc12 | exact absurd rfl hc12 | exact absurd (And.intro rfl rfl) hc12; done)
                    | (
                      refine step_l (st_rd hf (Wn.none rfl) (rd_pick_t hf rfl rfl rfl) hS rfl rfl ?_)
                      clear hf; intro a hf
                      refine done_l ?_
                      refine t_normal ?_
                      refine c_false hf rfl ?_
                      refine c_exit ?_
                      refine t_exit ?_
                      refine t_exit ?_
                      refine b_exit ?_
                      refine t_normal ?_
                      refine c_seq ?_
                      refine c_region ?_
                      refine step_l (st_rd hf (Wn.none rfl) (rd_move hf rfl rfl) hS rfl rfl ?_)
                      clear hf; intro a hf
                      refine step_l (st_call hf (Wn.none rfl) rfl rfl rfl fn23 (VAll_c _ _ _ _ _ _ (hS.sels (.cons (by repeat (first | exact Sel.head | apply Sel.tail)) (.cons (by repeat (first | exact Sel.head | apply Sel.tail)) (.cons (by repeat (first | exact Sel.head | apply Sel.tail)) (.cons (by repeat (first | exact Sel.head | apply Sel.tail)) .nil))))) hr.sok) rfl rfl ?_)
                      clear hf hS; rintro v a w ⟨qa, ca, rfl, hS⟩ hf
                      refine step_l (st_rd hf (Wn.none rfl) (rd_assign hf rfl rfl) hS rfl rfl ?_)
                      clear hf; intro a hf
                      refine done_l ?_
                      refine t_normal ?_
                      refine c_seq ?_
                      refine c_region ?_
                      refine step_l (st_rd hf (Wn.none rfl) (rd_move hf rfl rfl) hS rfl rfl ?_)
                      clear hf; intro a hf
                      refine step_l (st_rd hf (Wn.none rfl) (rd_move hf rfl rfl) hS rfl rfl ?_)
                      clear hf; intro a hf
                      refine step_l (st_call hf (Wn.none rfl) rfl rfl rfl fn23 (VAll_c _ _ _ _ _ _ (hS.sels (.cons (by repeat (first | exact Sel.head | apply Sel.tail)) (.cons (by repeat (first | exact Sel.head | apply Sel.tail)) (.cons (by repeat (first | exact Sel.head | apply Sel.tail)) (.cons (by repeat (first | exact Sel.head | apply Sel.tail)) .nil))))) hr2.sok) rfl rfl ?_)
                      clear hf hS; rintro v a w ⟨qb, cb, rfl, hS⟩ hf
                      refine step_l (st_call hf (Wn.none rfl) rfl rfl rfl fn18 (VJoin_c _ _ _ _ _ _ s2.l _ _ _ (hS.sels (.cons (by repeat (first | exact Sel.head | apply Sel.tail)) (.cons (by repeat (first | exact Sel.head | apply Sel.tail)) (.cons (by repeat (first | exact Sel.head | apply Sel.tail)) (.cons (by repeat (first | exact Sel.head | apply Sel.tail)) .nil))))) hr.sok hr2.sok.l.symm (by rw [hr2.sok.l]; omega) (fun _ h => (by rw [hr2.sok.l]; exact h.slOfRw (by repeat (first | exact Sel.head | apply Sel.tail))))) rfl rfl ?_)
                      clear hf hS; rintro v a w ⟨rfl, hS⟩ hf
                      refine done_l ?_
                      refine t_normal ?_
                      refine c_seq ?_
                      refine c_region ?_
                      refine step_l (st_rd hf (Wn.none rfl) (rd_move hf rfl rfl) hS rfl rfl ?_)
                      clear hf; intro a hf
                      refine step_l (st_rd hf (Wn.none rfl) (rd_move hf rfl rfl) hS rfl rfl ?_)
                      clear hf; intro a hf
                      refine step_l (st_call hf (Wn.none rfl) rfl rfl rfl fn18 (VJoin_c _ _ _ _ _ _ s.l _ _ _ (hS.sels (.cons (by repeat (first | exact Sel.head | apply Sel.tail)) (.cons (by repeat (first | exact Sel.head | apply Sel.tail)) (.cons (by repeat (first | exact Sel.head | apply Sel.tail)) (.cons (by repeat (first | exact Sel.head | apply Sel.tail)) .nil))))) hr2.sok hr.sok.l.symm (by rw [hr.sok.l]; omega) (fun _ h => (by rw [hr.sok.l]; exact h.slOfRw (by repeat (first | exact Sel.head | apply Sel.tail))))) rfl rfl ?_)
                      clear hf hS; rintro v a w ⟨rfl, hS⟩ hf
                      refine done_l ?_
                      refine t_normal ?_
                      refine c_seq ?_
                      refine c_region ?_
                      refine step_l (st_rd hf (Wn.none rfl) (rd_move hf rfl rfl) hS rfl rfl ?_)
                      clear hf; intro a hf
                      refine step_l (st_call hf (Wn.none rfl) rfl rfl rfl fn23 (VAll_c _ _ _ _ _ _ (hS.sels (.cons (by repeat (first | exact Sel.head | apply Sel.tail)) (.cons (by repeat (first | exact Sel.head | apply Sel.tail)) (.cons (by repeat (first | exact Sel.head | apply Sel.tail)) (.cons (by repeat (first | exact Sel.head | apply Sel.tail)) .nil))))) (vJoin_ok hr.sok)) rfl rfl ?_)
                      clear hf hS; rintro v a w ⟨qp, cp, rfl, hS⟩ hf
                      refine step_l (st_rd hf (Wn.none rfl) (rd_move hf rfl rfl) hS rfl rfl ?_)
                      clear hf; intro a hf
                      refine step_l (st_call hf (Wn.none rfl) rfl rfl rfl fn23 (VAll_c _ _ _ _ _ _ (hS.sels (.cons (by repeat (first | exact Sel.head | apply Sel.tail)) (.cons (by repeat (first | exact Sel.head | apply Sel.tail)) (.cons (by repeat (first | exact Sel.head | apply Sel.tail)) (.cons (by repeat (first | exact Sel.head | apply Sel.tail)) .nil))))) (vJoin_ok hr2.sok)) rfl rfl ?_)
                      clear hf hS; rintro v a w ⟨qq, cq, rfl, hS⟩ hf
                      refine step_l (st_rd hf (Wn.none rfl) (rd_assign hf rfl rfl) hS rfl rfl ?_)
                      clear hf; intro a hf
                      refine step_l (st_rd hf (Wn.none rfl) (rd_assign hf rfl rfl) hS rfl rfl ?_)
                      clear hf; intro a hf
                      refine done_l ?_
                      refine t_normal ?_
                      refine c_seq ?_
                      refine c_seq ?_
                      refine c_region ?_
                      refine step_l (st_rd hf (Wn.none rfl) (rd_assign hf rfl rfl) hS rfl rfl ?_)
                      clear hf; intro a hf
                      refine done_l ?_
                      refine t_normal ?_
                      refine c_block ?_
                      have hk5 := Keep.of hf [(6, 6), (16, 16), (83, 96)] (by repeat (first | exact Keep.nil | apply Keep.drop rfl | apply Keep.take rfl))
                      refine c_loopK hk5 (α := Nat) (fun k => [(16, .int .i64 (k : Nat))]) (fun k w => Sat W (Rw 31 2 qp n cp ((vJoin s s2.l).2.l.flatMap memC) :: Rw 31 2 qq n cq ((vJoin s2 s.l).2.l.flatMap memC) :: R) w ∧ 2 ≤ k) (fun k => n - k) 2 ((hf.keep hk5).kb hf 16 rfl (by first | rfl | exact int_eq (by omega))) ⟨hS.sub (by repeat (first | exact Sub.refl | exact Sub.none | exact Sub.behind | (apply Sub.cons; (focus ((repeat (first | exact Sel.head | apply Sel.tail)); done))) | apply Sub.skip)), by omega⟩ ?_
                      clear hf hS; rintro k a w hf ⟨hS, hk⟩; (try dsimp only [List.cons_append, List.nil_append] at hf)
                      refine c_seq ?_
                      refine c_seq ?_
                      refine c_region ?_
                      refine step_l (st_rd hf (Wn.none rfl) (rd_move hf rfl rfl) hS rfl rfl ?_)
                      clear hf; intro a hf
                      refine step_l (st_rd hf (Wn.none rfl) (rd_move hf rfl rfl) hS rfl rfl ?_)
                      clear hf; intro a hf
                      refine step_l (st_rdB hf (Wn.none rfl) (rd_lss hf rfl rfl rfl) hS rfl rfl ?_ ?_)
                      · clear hf; intro hc13 a hf
                        have hkn : k < n := by omega
                        have hgp := gm_get (vJoin_ok (L := s2.l) hr.sok) hkn; have hgq := gm_get (vJoin_ok (L := s.l) hr2.sok) hkn; rw [← alike hr.sok hr2.sok hmay hmay2 hkn (by omega) (by omega)] at hgq
                        obtain ⟨adp, rfl⟩ := (hS.slOfRw (by repeat (first | exact Sel.head | apply Sel.tail)) : SlAt _ qp n 2 _).some (by omega); obtain ⟨adq, rfl⟩ := (hS.slOfRw (by repeat (first | exact Sel.head | apply Sel.tail)) : SlAt _ qq n 2 _).some (by omega)
                        first
                        | (first | exact Bool.noConfusion hc13 | exact absurd rfl hc13 | exact absurd (And.intro rfl rfl) hc13; done)
                        | (
                          refine done_l ?_
                          refine t_normal ?_
                          refine c_true hf rfl ?_
                          refine c_skip ?_
                          refine t_normal ?_
                          refine c_seq ?_
                          refine c_block ?_
                          refine c_seq ?_
                          refine any_begin mixed hS.drew ?_
                          replace hS := hS.drew
                          have hT := hS
                          refine any_take (i := 0) hf rfl (by kernel_rfl) (by kernel_rfl) (by kernel_rfl) (fun _ _ _ h => h) (Wn.none rfl) (rd_move hf rfl rfl) hT rfl rfl ?_
                          clear hf; intro a hf
                          refine any_take (i := 1) hf rfl (by kernel_rfl) (by kernel_rfl) (by kernel_rfl) (fun _ _ _ h => h) (Wn.none rfl) (rd_move hf rfl rfl) hT rfl rfl ?_
                          clear hf; intro a hf
                          refine any_take (i := 2) hf rfl (by kernel_rfl) (by kernel_rfl) (by kernel_rfl) (fun _ _ _ h => h) (Wn.none rfl) ((by first | exact rd_indexAddrN hf rfl rfl rfl Try.underlying34 sz31 (by omega) | exact rd_indexAddr hf rfl rfl rfl Try.underlying34 sz31 (by first | decide | omega) (by omega))) hT rfl rfl ?_
                          clear hf; intro a hf
                          refine any_take (i := 3) hf rfl (by kernel_rfl) (by kernel_rfl) (by kernel_rfl) (fun _ _ _ h => h) (Wn.none rfl) (rd_loadN hf rfl rfl ag31 sz31 (by intro _ h; exact (h.slOfRw (by repeat (first | exact Sel.head | apply Sel.tail))).elem memC_len hgp)) hT rfl rfl ?_
                          clear hf; intro a hf
                          refine any_take (i := 4) hf rfl (by kernel_rfl) (by kernel_rfl) (by kernel_rfl) (fun _ _ _ h => h) (Wn.none rfl) (rd_move hf rfl rfl) hT rfl rfl ?_
                          clear hf; intro a hf
                          refine any_take (i := 5) hf rfl (by kernel_rfl) (by kernel_rfl) (by kernel_rfl) (fun _ _ _ h => h) (Wn.none rfl) (rd_move hf rfl rfl) hT rfl rfl ?_
                          clear hf; intro a hf
                          refine any_take (i := 6) hf rfl (by kernel_rfl) (by kernel_rfl) (by kernel_rfl) (fun _ _ _ h => h) (Wn.none rfl) ((by first | exact rd_indexAddrN hf rfl rfl rfl Try.underlying34 sz31 (by omega) | exact rd_indexAddr hf rfl rfl rfl Try.underlying34 sz31 (by first | decide | omega) (by omega))) hT rfl rfl ?_
                          clear hf; intro a hf
                          refine any_take (i := 7) hf rfl (by kernel_rfl) (by kernel_rfl) (by kernel_rfl) (fun _ _ _ h => h) (Wn.none rfl) (rd_loadN hf rfl rfl ag31 sz31 (by intro _ h; exact (h.slOfRw (by repeat (first | exact Sel.head | apply Sel.tail))).elem memC_len hgq)) hT rfl rfl ?_
                          clear hf; intro a hf
                          refine any_takeB (i := 8) hf rfl (by kernel_rfl) (by kernel_rfl) (by kernel_rfl) (fun _ _ _ _ h => h) (Wn.none rfl) (rd_neqM hf rfl rfl rfl) hT rfl rfl ?_ ?_
                          · clear hf; intro hc14 a hf
                            first
                            | (first | exact Bool.noConfusion hc14 | exact absurd rfl hc14 | exact absurd (And.intro rfl rfl) hc14; done)
                            | (
                              refine any_done (by kernel_rfl) ?_
                              refine t_normal ?_
                              refine c_true hf rfl ?_
                              refine c_seq ?_
                              refine c_region ?_
                              refine step_l (st_rd hf (Wn.none rfl) (rd_assign hf rfl rfl) hS rfl rfl ?_)
                              clear hf; intro a hf
                              refine done_l ?_
                              refine t_normal ?_
                              refine c_ret ?_
                              refine b_ret ?_
                              refine t_ret ?_
                              refine t_ret ?_
                              refine b_ret ?_
                              refine t_ret ?_
                              refine e_res1 hf.defers rfl (res_tmp hf rfl .nil) ?_
                              exact ⟨rfl, hS.sub (by repeat (first | exact Sub.refl | exact Sub.none | exact Sub.behind | (apply Sub.cons; (focus ((repeat (first | exact Sel.head | apply Sel.tail)); done))) | apply Sub.skip))⟩
                              )
                          · clear hf; intro hc14 a hf
                            first
                            | (first | exact Bool.noConfusion hc14 | exact absurd rfl hc14 | exact absurd (And.intro rfl rfl) hc14; done)
                            | (
                              refine any_done (by kernel_rfl) ?_
                              refine t_normal ?_
                              refine c_false hf rfl ?_
                              refine c_skip ?_
                              refine b_normal ?_
                              refine t_normal ?_
                              refine c_region ?_
                              refine step_l (st_rd hf (Wn.none rfl) (rd_move hf rfl rfl) hS rfl rfl ?_)
                              clear hf; intro a hf
                              refine step_l (st_rd hf (Wn.none rfl) (rd_add hf rfl rfl rfl (by first | exact Go.IntWalk.i64_in _ (by omega) | exact rfl)) hS rfl rfl ?_)
                              clear hf; intro a hf
                              refine step_l (st_rd hf (Wn.none rfl) (rd_assign hf rfl rfl) hS rfl rfl ?_)
                              clear hf; intro a hf
                              refine done_l ?_
                              refine t_normal ⟨k + 1, ((hf.back (by repeat (first | exact Behind.refl | refine Behind.skip rfl ?_)) hk5).kb hf 16 rfl (by first | rfl | exact int_eq (by omega))), ⟨hS.sub (by repeat (first | exact Sub.refl | exact Sub.none | exact Sub.behind | (apply Sub.cons; (focus ((repeat (first | exact Sel.head | apply Sel.tail)); done))) | apply Sub.skip)), by omega⟩, by first | omega | (simp only []; omega)⟩
                              )
                          )
                      · clear hf; intro hc13 a hf
                        first
                        | (first | exact Bool.noConfusion hc13 | exact absurd rfl hc13 | exact absurd (And.intro rfl rfl) hc13; done)
                        | (
                          refine done_l ?_
                          refine t_normal ?_
                          refine c_false hf rfl ?_
                          refine c_exit ?_
                          refine t_exit ?_
                          refine t_exit ?_
                          refine b_exit ?_
                          refine t_normal ?_
                          refine c_seq ?_
                          refine c_region ?_
                          refine step_l (st_call hf (Wn.none rfl) rfl rfl rfl fn14 (awake_c hS) rfl rfl ?_)
                          clear hf hS; rintro v a w ⟨rfl, hS⟩ hf
                          refine step_l (st_rd hf (Wn.none rfl) (rd_assign hf rfl rfl) hS rfl rfl ?_)
                          clear hf; intro a hf
                          refine done_l ?_
                          refine t_normal ?_
                          refine c_ret ?_
                          refine e_res1 hf.defers rfl (res_tmp hf rfl .nil) ?_
                          exact ⟨rfl, hS.sub (by repeat (first | exact Sub.refl | exact Sub.none | exact Sub.behind | (apply Sub.cons; (focus ((repeat (first | exact Sel.head | apply Sel.tail)); done))) | apply Sub.skip))⟩
                          )
                      )
                  )
              · clear hf; intro hc11 a hf
                first
                | (first | exact Bool.noConfusion hc11 | exact absurd rfl hc11 | exact absurd (And.intro rfl rfl) hc11; done)
                | (
                  refine step_l (st_rd hf (Wn.none rfl) (rd_move hf rfl rfl) hS rfl rfl ?_)
                  clear hf; intro a hf
                  refine step_l (st_skip hf (Wn.some hf rfl rfl rfl rfl) rfl rfl ?_)
                  clear hf; intro a hf
                  refine step_l (st_skip hf (Wn.some hf rfl rfl rfl rfl) rfl rfl ?_)
                  clear hf; intro a hf
                  refine step_l (st_rd hf (Wn.none rfl) (rd_pick_f hf rfl rfl rfl) hS rfl rfl ?_)
                  clear hf; intro a hf
                  refine done_l ?_
                  refine t_normal ?_
                  refine c_false hf rfl ?_
                  refine c_exit ?_
                  refine t_exit ?_
                  refine t_exit ?_
                  refine b_exit ?_
                  refine t_normal ?_
                  refine c_seq ?_
                  refine c_region ?_
                  refine step_l (st_rd hf (Wn.none rfl) (rd_move hf rfl rfl) hS rfl rfl ?_)
                  clear hf; intro a hf
                  refine step_l (st_call hf (Wn.none rfl) rfl rfl rfl fn23 (VAll_c _ _ _ _ _ _ (hS.sels (.cons (by repeat (first | exact Sel.head | apply Sel.tail)) (.cons (by repeat (first | exact Sel.head | apply Sel.tail)) (.cons (by repeat (first | exact Sel.head | apply Sel.tail)) (.cons (by repeat (first | exact Sel.head | apply Sel.tail)) .nil))))) hr.sok) rfl rfl ?_)
                  clear hf hS; rintro v a w ⟨qa, ca, rfl, hS⟩ hf
                  refine step_l (st_rd hf (Wn.none rfl) (rd_assign hf rfl rfl) hS rfl rfl ?_)
                  clear hf; intro a hf
                  refine done_l ?_
                  refine t_normal ?_
                  refine c_seq ?_
                  refine c_region ?_
                  refine step_l (st_rd hf (Wn.none rfl) (rd_move hf rfl rfl) hS rfl rfl ?_)
                  clear hf; intro a hf
                  refine step_l (st_rd hf (Wn.none rfl) (rd_move hf rfl rfl) hS rfl rfl ?_)
                  clear hf; intro a hf
                  refine step_l (st_call hf (Wn.none rfl) rfl rfl rfl fn23 (VAll_c _ _ _ _ _ _ (hS.sels (.cons (by repeat (first | exact Sel.head | apply Sel.tail)) (.cons (by repeat (first | exact Sel.head | apply Sel.tail)) (.cons (by repeat (first | exact Sel.head | apply Sel.tail)) (.cons (by repeat (first | exact Sel.head | apply Sel.tail)) .nil))))) hr2.sok) rfl rfl ?_)
                  clear hf hS; rintro v a w ⟨qb, cb, rfl, hS⟩ hf
                  refine step_l (st_call hf (Wn.none rfl) rfl rfl rfl fn18 (VJoin_c _ _ _ _ _ _ s2.l _ _ _ (hS.sels (.cons (by repeat (first | exact Sel.head | apply Sel.tail)) (.cons (by repeat (first | exact Sel.head | apply Sel.tail)) (.cons (by repeat (first | exact Sel.head | apply Sel.tail)) (.cons (by repeat (first | exact Sel.head | apply Sel.tail)) .nil))))) hr.sok hr2.sok.l.symm (by rw [hr2.sok.l]; omega) (fun _ h => (by rw [hr2.sok.l]; exact h.slOfRw (by repeat (first | exact Sel.head | apply Sel.tail))))) rfl rfl ?_)
                  clear hf hS; rintro v a w ⟨rfl, hS⟩ hf
                  refine done_l ?_
                  refine t_normal ?_
                  refine c_seq ?_
                  refine c_region ?_
                  refine step_l (st_rd hf (Wn.none rfl) (rd_move hf rfl rfl) hS rfl rfl ?_)
                  clear hf; intro a hf
                  refine step_l (st_rd hf (Wn.none rfl) (rd_move hf rfl rfl) hS rfl rfl ?_)
                  clear hf; intro a hf
                  refine step_l (st_call hf (Wn.none rfl) rfl rfl rfl fn18 (VJoin_c _ _ _ _ _ _ s.l _ _ _ (hS.sels (.cons (by repeat (first | exact Sel.head | apply Sel.tail)) (.cons (by repeat (first | exact Sel.head | apply Sel.tail)) (.cons (by repeat (first | exact Sel.head | apply Sel.tail)) (.cons (by repeat (first | exact Sel.head | apply Sel.tail)) .nil))))) hr2.sok hr.sok.l.symm (by rw [hr.sok.l]; omega) (fun _ h => (by rw [hr.sok.l]; exact h.slOfRw (by repeat (first | exact Sel.head | apply Sel.tail))))) rfl rfl ?_)
                  clear hf hS; rintro v a w ⟨rfl, hS⟩ hf
                  refine done_l ?_
                  refine t_normal ?_
                  refine c_seq ?_
                  refine c_region ?_
                  refine step_l (st_rd hf (Wn.none rfl) (rd_move hf rfl rfl) hS rfl rfl ?_)
                  clear hf; intro a hf
                  refine step_l (st_call hf (Wn.none rfl) rfl rfl rfl fn23 (VAll_c _ _ _ _ _ _ (hS.sels (.cons (by repeat (first | exact Sel.head | apply Sel.tail)) (.cons (by repeat (first | exact Sel.head | apply Sel.tail)) (.cons (by repeat (first | exact Sel.head | apply Sel.tail)) (.cons (by repeat (first | exact Sel.head | apply Sel.tail)) .nil))))) (vJoin_ok hr.sok)) rfl rfl ?_)
                  clear hf hS; rintro v a w ⟨qp, cp, rfl, hS⟩ hf
                  refine step_l (st_rd hf (Wn.none rfl) (rd_move hf rfl rfl) hS rfl rfl ?_)
                  clear hf; intro a hf
                  refine step_l (st_call hf (Wn.none rfl) rfl rfl rfl fn23 (VAll_c _ _ _ _ _ _ (hS.sels (.cons (by repeat (first | exact Sel.head | apply Sel.tail)) (.cons (by repeat (first | exact Sel.head | apply Sel.tail)) (.cons (by repeat (first | exact Sel.head | apply Sel.tail)) (.cons (by repeat (first | exact Sel.head | apply Sel.tail)) .nil))))) (vJoin_ok hr2.sok)) rfl rfl ?_)
                  clear hf hS; rintro v a w ⟨qq, cq, rfl, hS⟩ hf
                  refine step_l (st_rd hf (Wn.none rfl) (rd_assign hf rfl rfl) hS rfl rfl ?_)
                  clear hf; intro a hf
                  refine step_l (st_rd hf (Wn.none rfl) (rd_assign hf rfl rfl) hS rfl rfl ?_)
                  clear hf; intro a hf
                  refine done_l ?_
                  refine t_normal ?_
                  refine c_seq ?_
                  refine c_seq ?_
                  refine c_region ?_
                  refine step_l (st_rd hf (Wn.none rfl) (rd_assign hf rfl rfl) hS rfl rfl ?_)
                  clear hf; intro a hf
                  refine done_l ?_
                  refine t_normal ?_
                  refine c_block ?_
                  have hk6 := Keep.of hf [(6, 6), (16, 16), (83, 96)] (by repeat (first | exact Keep.nil | apply Keep.drop rfl | apply Keep.take rfl))
                  refine c_loopK hk6 (α := Nat) (fun k => [(16, .int .i64 (k : Nat))]) (fun k w => Sat W (Rw 31 2 qp n cp ((vJoin s s2.l).2.l.flatMap memC) :: Rw 31 2 qq n cq ((vJoin s2 s.l).2.l.flatMap memC) :: R) w ∧ 2 ≤ k) (fun k => n - k) 2 ((hf.keep hk6).kb hf 16 rfl (by first | rfl | exact int_eq (by omega))) ⟨hS.sub (by repeat (first | exact Sub.refl | exact Sub.none | exact Sub.behind | (apply Sub.cons; (focus ((repeat (first | exact Sel.head | apply Sel.tail)); done))) | apply Sub.skip)), by omega⟩ ?_
                  clear hf hS; rintro k a w hf ⟨hS, hk⟩; (try dsimp only [List.cons_append, List.nil_append] at hf)
                  refine c_seq ?_
                  refine c_seq ?_
                  refine c_region ?_
                  refine step_l (st_rd hf (Wn.none rfl) (rd_move hf rfl rfl) hS rfl rfl ?_)
                  clear hf; intro a hf
                  refine step_l (st_rd hf (Wn.none rfl) (rd_move hf rfl rfl) hS rfl rfl ?_)
                  clear hf; intro a hf
                  refine step_l (st_rdB hf (Wn.none rfl) (rd_lss hf rfl rfl rfl) hS rfl rfl ?_ ?_)
                  · clear hf; intro hc15 a hf
                    have hkn : k < n := by omega
                    have hgp := gm_get (vJoin_ok (L := s2.l) hr.sok) hkn; have hgq := gm_get (vJoin_ok (L := s.l) hr2.sok) hkn; rw [← alike hr.sok hr2.sok hmay hmay2 hkn (by omega) (by omega)] at hgq
                    obtain ⟨adp, rfl⟩ := (hS.slOfRw (by repeat (first | exact Sel.head | apply Sel.tail)) : SlAt _ qp n 2 _).some (by omega); obtain ⟨adq, rfl⟩ := (hS.slOfRw (by repeat (first | exact Sel.head | apply Sel.tail)) : SlAt _ qq n 2 _).some (by omega)
                    first
                    | (first | exact Bool.noConfusion hc15 | exact absurd rfl hc15 | exact absurd (And.intro rfl rfl) hc15; done)
                    | (
                      refine done_l ?_
                      refine t_normal ?_
                      refine c_true hf rfl ?_
                      refine c_skip ?_
                      refine t_normal ?_
                      refine c_seq ?_
                      refine c_block ?_
                      refine c_seq ?_
                      refine any_begin mixed hS.drew ?_
                      replace hS := hS.drew
                      have hT := hS
                      refine any_take (i := 0) hf rfl (by kernel_rfl) (by kernel_rfl) (by kernel_rfl) (fun _ _ _ h => h) (Wn.none rfl) (rd_move hf rfl rfl) hT rfl rfl ?_
                      clear hf; intro a hf
                      refine any_take (i := 1) hf rfl (by kernel_rfl) (by kernel_rfl) (by kernel_rfl) (fun _ _ _ h => h) (Wn.none rfl) (rd_move hf rfl rfl) hT rfl rfl ?_
                      clear hf; intro a hf
                      refine any_take (i := 2) hf rfl (by kernel_rfl) (by kernel_rfl) (by kernel_rfl) (fun _ _ _ h => h) (Wn.none rfl) ((by first | exact rd_indexAddrN hf rfl rfl rfl Try.underlying34 sz31 (by omega) | exact rd_indexAddr hf rfl rfl rfl Try.underlying34 sz31 (by first | decide | omega) (by omega))) hT rfl rfl ?_
                      clear hf; intro a hf
                      refine any_take (i := 3) hf rfl (by kernel_rfl) (by kernel_rfl) (by kernel_rfl) (fun _ _ _ h => h) (Wn.none rfl) (rd_loadN hf rfl rfl ag31 sz31 (by intro _ h; exact (h.slOfRw (by repeat (first | exact Sel.head | apply Sel.tail))).elem memC_len hgp)) hT rfl rfl ?_
                      clear hf; intro a hf
                      refine any_take (i := 4) hf rfl (by kernel_rfl) (by kernel_rfl) (by kernel_rfl) (fun _ _ _ h => h) (Wn.none rfl) (rd_move hf rfl rfl) hT rfl rfl ?_
                      clear hf; intro a hf
                      refine any_take (i := 5) hf rfl (by kernel_rfl) (by kernel_rfl) (by kernel_rfl) (fun _ _ _ h => h) (Wn.none rfl) (rd_move hf rfl rfl) hT rfl rfl ?_
                      clear hf; intro a hf
                      refine any_take (i := 6) hf rfl (by kernel_rfl) (by kernel_rfl) (by kernel_rfl) (fun _ _ _ h => h) (Wn.none rfl) ((by first | exact rd_indexAddrN hf rfl rfl rfl Try.underlying34 sz31 (by omega) | exact rd_indexAddr hf rfl rfl rfl Try.underlying34 sz31 (by first | decide | omega) (by omega))) hT rfl rfl ?_
                      clear hf; intro a hf
                      refine any_take (i := 7) hf rfl (by kernel_rfl) (by kernel_rfl) (by kernel_rfl) (fun _ _ _ h => h) (Wn.none rfl) (rd_loadN hf rfl rfl ag31 sz31 (by intro _ h; exact (h.slOfRw (by repeat (first | exact Sel.head | apply Sel.tail))).elem memC_len hgq)) hT rfl rfl ?_
                      clear hf; intro a hf
                      refine any_takeB (i := 8) hf rfl (by kernel_rfl) (by kernel_rfl) (by kernel_rfl) (fun _ _ _ _ h => h) (Wn.none rfl) (rd_neqM hf rfl rfl rfl) hT rfl rfl ?_ ?_
                      · clear hf; intro hc16 a hf
                        first
                        | (first | exact Bool.noConfusion hc16 | exact absurd rfl hc16 | exact absurd (And.intro rfl rfl) hc16; done)
                        | (
                          refine any_done (by kernel_rfl) ?_
                          refine t_normal ?_
                          refine c_true hf rfl ?_
                          refine c_seq ?_
                          refine c_region ?_
                          refine step_l (st_rd hf (Wn.none rfl) (rd_assign hf rfl rfl) hS rfl rfl ?_)
                          clear hf; intro a hf
                          refine done_l ?_
                          refine t_normal ?_
                          refine c_ret ?_
                          refine b_ret ?_
                          refine t_ret ?_
                          refine t_ret ?_
                          refine b_ret ?_
                          refine t_ret ?_
                          refine e_res1 hf.defers rfl (res_tmp hf rfl .nil) ?_
                          exact ⟨rfl, hS.sub (by repeat (first | exact Sub.refl | exact Sub.none | exact Sub.behind | (apply Sub.cons; (focus ((repeat (first | exact Sel.head | apply Sel.tail)); done))) | apply Sub.skip))⟩
                          )
                      · clear hf; intro hc16 a hf
                        first
                        | (first | exact Bool.noConfusion hc16 | exact absurd rfl hc16 | exact absurd (And.intro rfl rfl) hc16; done)
                        | (
                          refine any_done (by kernel_rfl) ?_
                          refine t_normal ?_
                          refine c_false hf rfl ?_
                          refine c_skip ?_
                          refine b_normal ?_
                          refine t_normal ?_
                          refine c_region ?_
                          refine step_l (st_rd hf (Wn.none rfl) (rd_move hf rfl rfl) hS rfl rfl ?_)
                          clear hf; intro a hf
                          refine step_l (st_rd hf (Wn.none rfl) (rd_add hf rfl rfl rfl (by first | exact Go.IntWalk.i64_in _ (by omega) | exact rfl)) hS rfl rfl ?_)
                          clear hf; intro a hf
                          refine step_l (st_rd hf (Wn.none rfl) (rd_assign hf rfl rfl) hS rfl rfl ?_)
                          clear hf; intro a hf
                          refine done_l ?_
                          refine t_normal ⟨k + 1, ((hf.back (by repeat (first | exact Behind.refl | refine Behind.skip rfl ?_)) hk6).kb hf 16 rfl (by first | rfl | exact int_eq (by omega))), ⟨hS.sub (by repeat (first | exact Sub.refl | exact Sub.none | exact Sub.behind | (apply Sub.cons; (focus ((repeat (first | exact Sel.head | apply Sel.tail)); done))) | apply Sub.skip)), by omega⟩, by first | omega | (simp only []; omega)⟩
                          )
                      )
                  · clear hf; intro hc15 a hf
                    first
                    | (first | exact Bool.noConfusion hc15 | exact absurd rfl hc15 | exact absurd (And.intro rfl rfl) hc15; done)
                    | (
                      refine done_l ?_
                      refine t_normal ?_
                      refine c_false hf rfl ?_
                      refine c_exit ?_
                      refine t_exit ?_
                      refine t_exit ?_
                      refine b_exit ?_
                      refine t_normal ?_
                      refine c_seq ?_
                      refine c_region ?_
                      refine step_l (st_call hf (Wn.none rfl) rfl rfl rfl fn14 (awake_c hS) rfl rfl ?_)
                      clear hf hS; rintro v a w ⟨rfl, hS⟩ hf
                      refine step_l (st_rd hf (Wn.none rfl) (rd_assign hf rfl rfl) hS rfl rfl ?_)
                      clear hf; intro a hf
                      refine done_l ?_
                      refine t_normal ?_
                      refine c_ret ?_
                      refine e_res1 hf.defers rfl (res_tmp hf rfl .nil) ?_
                      exact ⟨rfl, hS.sub (by repeat (first | exact Sub.refl | exact Sub.none | exact Sub.behind | (apply Sub.cons; (focus ((repeat (first | exact Sel.head | apply Sel.tail)); done))) | apply Sub.skip))⟩
                      )
                  )
              )
          )
      )

end Go.Proofs.Ytjcjkbfhmbfkaaa
