/-
  The functions of package lazy, walked.
  Conditions: none.
-/
import Derived.Test.YtmjfmcgpmlfnbaaOnce1
import Derived.Test.YtmjfmcgpmlfnbaaLz1
import Derived.Test.YtmjfmcgpmlfnbaaFl1
namespace Go.Proofs.Ytmjfmcgpmlfnbaa
open Go Go.Sl
set_option linter.unusedVariables false
set_option linter.unusedSimpArgs false
theorem ag24 : aggO Try.prog 24 = some false := by kernel_rfl
theorem ag25 : aggO Try.prog 25 = some false := by kernel_rfl
theorem ag3 : aggO Try.prog 3 = some false := by kernel_rfl
theorem ag40 : aggO Try.prog 40 = some false := by kernel_rfl
theorem ag5 : aggO Try.prog 5 = some false := by kernel_rfl
theorem bz24_1 : ((Array.range (1 * 1)).map (fun j => ((.int .u32 0 : Value)).cells[j % ((.int .u32 0 : Value)).cells.size]!)) = ([.int .u32 0] : List Value).toArray := by kernel_rfl
theorem fb52_1 : fieldB Try.prog 52 1 0 = true := by kernel_rfl
theorem fb58_1 : fieldB Try.prog 58 1 0 = true := by kernel_rfl
theorem fb61_2 : fieldB Try.prog 61 2 0 = true := by kernel_rfl
theorem fb63_0 : fieldB Try.prog 63 0 0 = true := by kernel_rfl
theorem fb63_1 : fieldB Try.prog 63 1 1 = true := by kernel_rfl
theorem fb63_2 : fieldB Try.prog 63 2 2 = true := by kernel_rfl
theorem fb63_3 : fieldB Try.prog 63 3 5 = true := by kernel_rfl
theorem fb63_4 : fieldB Try.prog 63 4 6 = true := by kernel_rfl
theorem fn12 : fnB Try.prog 12 = true := by kernel_rfl
theorem fn13 : fnB Try.prog 13 = true := by kernel_rfl
theorem fn14 : fnB Try.prog 14 = true := by kernel_rfl
theorem fn16 : fnB Try.prog 16 = true := by kernel_rfl
theorem fn25 : fnB Try.prog 25 = true := by kernel_rfl
theorem fn28 : fnB Try.prog 28 = true := by kernel_rfl
theorem fn29 : fnB Try.prog 29 = true := by kernel_rfl
theorem fn30 : fnB Try.prog 30 = true := by kernel_rfl
theorem fn31 : fnB Try.prog 31 = true := by kernel_rfl
theorem fn32 : fnB Try.prog 32 = true := by kernel_rfl
theorem fn33 : fnB Try.prog 33 = true := by kernel_rfl
theorem fn34 : fnB Try.prog 34 = true := by kernel_rfl
theorem mixed : Try.prog.follows .mixedOrders = true := by kernel_rfl
theorem pl63 : placesO Try.prog 63 = some [(0, 1), (1, 1), (2, 3), (5, 1), (6, 1)] := by kernel_rfl
theorem sz24 : (Try.prog.info? 24).map (·.size) = some 1 := by kernel_rfl
theorem sz40 : (Try.prog.info? 40).map (·.size) = some 1 := by kernel_rfl
theorem sz5 : (Try.prog.info? 5).map (·.size) = some 1 := by kernel_rfl
theorem tyb24 : TyB Try.prog 24 (.int .u32 0) 1 4 := by unfold TyB; kernel_rfl
theorem zr24 : (Try.prog.info? 24).bind (·.zero) = some (.int .u32 0) := by kernel_rfl
theorem zr63 : (Try.prog.info? 63).bind (·.zero) = some (.agg #[.int .i64 0, .nilFunc, .int .u32 0, .int .i32 0, .int .u32 0, .int .i64 0, .slice none 0 0]) := by kernel_rfl
theorem ABLoad_c (p off T : Nat) (cs : List Value) (d : Int) {W : World} {R : List HP} {w : World} (hS : Sat W (Blk p cs T :: R) w) (hc : cs[off]? = some (.int .u32 d)) : Calls Try.prog 32 [.pointer (some ⟨p, off, none⟩)].toArray w (Ret fun v w' => v = .bool (decide (d ≠ 0)) ∧ Sat W (Blk p cs T :: R) w') := by
  refine fn_start 8 Try.func32 rfl rfl rfl ?_
  intro a hf
  refine c_seq ?_
  refine c_region ?_
  refine step_l (st_rd hf (Wn.none rfl) (rd_assign hf rfl rfl) hS rfl rfl ?_)
  clear hf; intro a hf
  refine done_l ?_
  refine t_normal ?_
  refine c_seq ?_
  refine c_region ?_
  refine step_l (st_rd hf (Wn.none rfl) (rd_move hf rfl rfl) hS rfl rfl ?_)
  clear hf; intro a hf
  refine step_l (st_rd hf (Wn.none rfl) (rd_nilCheck hf rfl rfl) hS rfl rfl ?_)
  clear hf; intro a hf
  refine step_l (st_rd hf (Wn.none rfl) (rd_fieldAddrB hf rfl rfl fb52_1 rfl) hS rfl rfl ?_)
  clear hf; intro a hf
  refine step_l (st_rd hf (Wn.none rfl) (rd_ext hf rfl rfl rfl (fun w h => o_load32 (h.cell (by repeat (first | exact Sel.head | apply Sel.tail)) hc))) hS rfl rfl ?_)
  clear hf; intro a hf
  refine step_l (st_rd hf (Wn.none rfl) (rd_neq hf rfl rfl rfl) hS rfl rfl ?_)
  clear hf; intro a hf
  refine step_l (st_rd hf (Wn.none rfl) (rd_assign hf rfl rfl) hS rfl rfl ?_)
  clear hf; intro a hf
  refine done_l ?_
  refine t_normal ?_
  refine c_ret ?_
  refine e_res1 hf.defers rfl (res_tmp hf rfl .nil) ?_
  exact ⟨rfl, hS.sub (by repeat (first | exact Sub.refl | exact Sub.none | exact Sub.behind | (apply Sub.cons; (focus ((repeat (first | exact Sel.head | apply Sel.tail)); done))) | apply Sub.skip))⟩

theorem AILoad_c (p off T : Nat) (cs : List Value) (d : Int) {W : World} {R : List HP} {w : World} (hS : Sat W (Blk p cs T :: R) w) (hc : cs[off]? = some (.int .i64 d)) : Calls Try.prog 31 [.pointer (some ⟨p, off, none⟩)].toArray w (Ret fun v w' => v = .int .i64 d ∧ Sat W (Blk p cs T :: R) w') := by
  refine fn_start 7 Try.func31 rfl rfl rfl ?_
  intro a hf
  refine c_seq ?_
  refine c_region ?_
  refine step_l (st_rd hf (Wn.none rfl) (rd_assign hf rfl rfl) hS rfl rfl ?_)
  clear hf; intro a hf
  refine done_l ?_
  refine t_normal ?_
  refine c_seq ?_
  refine c_region ?_
  refine step_l (st_rd hf (Wn.none rfl) (rd_move hf rfl rfl) hS rfl rfl ?_)
  clear hf; intro a hf
  refine step_l (st_rd hf (Wn.none rfl) (rd_nilCheck hf rfl rfl) hS rfl rfl ?_)
  clear hf; intro a hf
  refine step_l (st_rd hf (Wn.none rfl) (rd_fieldAddrB hf rfl rfl fb61_2 rfl) hS rfl rfl ?_)
  clear hf; intro a hf
  refine step_l (st_rd hf (Wn.none rfl) (rd_ext hf rfl rfl rfl (fun w h => o_load64 (h.cell (by repeat (first | exact Sel.head | apply Sel.tail)) hc))) hS rfl rfl ?_)
  clear hf; intro a hf
  refine step_l (st_rd hf (Wn.none rfl) (rd_assign hf rfl rfl) hS rfl rfl ?_)
  clear hf; intro a hf
  refine done_l ?_
  refine t_normal ?_
  refine c_ret ?_
  refine e_res1 hf.defers rfl (res_tmp hf rfl .nil) ?_
  exact ⟨rfl, hS.sub (by repeat (first | exact Sub.refl | exact Sub.none | exact Sub.behind | (apply Sub.cons; (focus ((repeat (first | exact Sel.head | apply Sel.tail)); done))) | apply Sub.skip))⟩

theorem AIAdd_c (p off T : Nat) (cs : List Value) (d e : Int) {W : World} {R : List HP} {w : World} (hS : Sat W (Blk p cs T :: R) w) (hc : cs[off]? = some (.int .i64 d)) : Calls Try.prog 34 [.pointer (some ⟨p, off, none⟩), .int .i64 e].toArray w (Ret fun v w' => v = .int .i64 (IntKind.i64.wrap (d + e)) ∧ Sat W (Blk p (cs.set off (.int .i64 (IntKind.i64.wrap (d + e)))) T :: R) w') := by
  refine fn_start 10 Try.func34 rfl rfl rfl ?_
  intro a hf
  refine c_seq ?_
  refine c_region ?_
  refine step_l (st_rd hf (Wn.none rfl) (rd_assign hf rfl rfl) hS rfl rfl ?_)
  clear hf; intro a hf
  refine done_l ?_
  refine t_normal ?_
  refine c_seq ?_
  refine c_region ?_
  refine step_l (st_rd hf (Wn.none rfl) (rd_move hf rfl rfl) hS rfl rfl ?_)
  clear hf; intro a hf
  refine step_l (st_rd hf (Wn.none rfl) (rd_nilCheck hf rfl rfl) hS rfl rfl ?_)
  clear hf; intro a hf
  refine step_l (st_rd hf (Wn.none rfl) (rd_fieldAddrB hf rfl rfl fb61_2 rfl) hS rfl rfl ?_)
  clear hf; intro a hf
  refine step_l (st_rd hf (Wn.none rfl) (rd_move hf rfl rfl) hS rfl rfl ?_)
  clear hf; intro a hf
  refine step_l (st_ext hf (Wn.none rfl) rfl rfl rfl (o_add64 (hS.cell .head hc) (hS.frozen .head (List.getElem?_eq_some_iff.1 hc).1)) rfl rfl ?_)
  have hS2 := hS.set off (.int .i64 (IntKind.i64.wrap (d + e))); clear hf hS; intro a hf; have hS := hS2; clear hS2
  refine step_l (st_rd hf (Wn.none rfl) (rd_assign hf rfl rfl) hS rfl rfl ?_)
  clear hf; intro a hf
  refine done_l ?_
  refine t_normal ?_
  refine c_ret ?_
  refine e_res1 hf.defers rfl (res_tmp hf rfl .nil) ?_
  exact ⟨rfl, hS.sub (by repeat (first | exact Sub.refl | exact Sub.none | exact Sub.behind | (apply Sub.cons; (focus ((repeat (first | exact Sel.head | apply Sel.tail)); done))) | apply Sub.skip))⟩

set_option maxRecDepth 100000 in
set_option maxHeartbeats 1000000 in
theorem fill_c {σ : Type} (M : σ → HP) (f : σ → Nat → B32) (g : σ → Nat → σ) (s0 : σ) (p n fk : Nat) (us caps : List Value) (d st : Int) {W : World} {R : List HP} {w : World} (hS : Sat W (Blk p [.int .i64 (n : Nat), .func (.func fk) us.toArray caps.toArray, .int .u32 d, .int .i32 st, .int .u32 0, .int .i64 0, .slice none 0 0] 63 :: M s0 :: R) w) (hfb : fnB Try.prog fk = true) (hmk : ∀ (i : Nat) (l : List HP) (w : World), i < n → Sat W (M (mst g s0 i) :: l) w → (∀ w, Sat W l w → Sat W R w) → Calls Try.prog fk (us ++ [Value.int .i64 (i : Nat)] ++ caps).toArray w (Ret fun v w' => v = u32v (f (mst g s0 i) i) ∧ Sat W (M (mst g s0 (i + 1)) :: l) w')) (hn : n ≤ 4096) : Calls Try.prog 30 [.pointer (some ⟨p, 0, none⟩)].toArray w (Ret fun v w' => v = .tuple #[] ∧ ∃ q cap, Sat W (Blk p [.int .i64 (n : Nat), .func (.func fk) us.toArray caps.toArray, .int .u32 d, .int .i32 st, .int .u32 0, .int .i64 (n : Nat), .slice q n cap] 63 :: Rw 24 1 q n cap (u32s (tvals f g s0 n)) :: M (mst g s0 n) :: R) w') := by
  refine fn_start 35 Try.func30 rfl rfl rfl ?_
  intro a hf
  refine c_seq ?_
  refine c_seq ?_
  refine c_region ?_
  refine step_l (st_rd hf (Wn.none rfl) (rd_move hf rfl rfl) hS rfl rfl ?_)
  clear hf; intro a hf
  refine step_l (st_rd hf (Wn.none rfl) (rd_nilCheck hf rfl rfl) hS rfl rfl ?_)
  clear hf; intro a hf
  refine step_l (st_rd hf (Wn.none rfl) (rd_fieldAddrB hf rfl rfl fb63_1 rfl) hS rfl rfl ?_)
  clear hf; intro a hf
  refine step_l (st_rd hf (Wn.none rfl) (rd_load1 hf rfl rfl ag25 (by intro _ h; first | exact h.cell (by repeat (first | exact Sel.head | apply Sel.tail)) (by rfl))) hS rfl rfl ?_)
  clear hf; intro a hf
  refine step_l (st_rdb hf (Wn.none rfl) ((by first | exact rd_eqlNilF hf rfl rfl rfl Try.underlying25 | exact rd_eqlNilF' hf rfl rfl rfl Try.underlying25)) hS rfl rfl ?_ ?_)
  · clear hf; intro hc1 a hf
    first
    | (first | exact Bool.noConfusion hc1 | exact absurd rfl hc1; done)
    | (
      refine done_l ?_
      refine t_normal ?_
      refine c_true hf rfl ?_
      refine c_ret ?_
      refine t_ret ?_
      refine e_none hf rfl ?_
      exact ⟨rfl, q, cap, hS.sub (by repeat (first | exact Sub.refl | exact Sub.none | exact Sub.behind | (apply Sub.cons; (focus ((repeat (first | exact Sel.head | apply Sel.tail)); done))) | apply Sub.skip))⟩
      )
  · clear hf; intro hc1 a hf
    first
    | (first | exact Bool.noConfusion hc1 | exact absurd rfl hc1; done)
    | (
      refine done_l ?_
      refine t_normal ?_
      refine c_false hf rfl ?_
      refine c_skip ?_
      refine t_normal ?_
      refine c_seq ?_
      refine c_region ?_
      refine step_l (st_rd hf (Wn.none rfl) (rd_move hf rfl rfl) hS rfl rfl ?_)
      clear hf; intro a hf
      refine step_l (st_rd hf (Wn.none rfl) (rd_nilCheck hf rfl rfl) hS rfl rfl ?_)
      clear hf; intro a hf
      refine step_l (st_rd hf (Wn.none rfl) (rd_fieldAddrB hf rfl rfl fb63_0 rfl) hS rfl rfl ?_)
      clear hf; intro a hf
      refine step_l (st_rd hf (Wn.none rfl) (rd_load1 hf rfl rfl ag3 (by intro _ h; first | exact h.cell (by repeat (first | exact Sel.head | apply Sel.tail)) (by rfl))) hS rfl rfl ?_)
      clear hf; intro a hf
      refine step_l (st_rd hf (Wn.none rfl) (rd_move hf rfl rfl) hS rfl rfl ?_)
      clear hf; intro a hf
      refine done_l ?_
      refine t_normal ?_
      refine c_block ?_
      have hk0 := Keep.of hf [(2, 2), (12, 34)] (by repeat (first | exact Keep.nil | apply Keep.drop rfl | apply Keep.take rfl))
      refine c_loopK hk0 (α := Nat × Option Addr × Nat) (fun ⟨k, q, cap⟩ => [(12, .int .i64 (k : Nat))]) (fun ⟨k, q, cap⟩ w => Sat W (Blk p [.int .i64 (n : Nat), .func (.func fk) us.toArray caps.toArray, .int .u32 d, .int .i32 st, .int .u32 0, .int .i64 (k : Nat), .slice q k cap] 63 :: Rw 24 1 q k cap (u32s (tvals f g s0 k)) :: M (mst g s0 k) :: R) w ∧ k ≤ n) (fun ⟨k, q, cap⟩ => n - k) (0, none, 0) ((hf.keep hk0).kb hf 12 rfl (by first | rfl | exact int_eq (by omega))) ⟨(hS.rwNil 24 1).sub (by repeat (first | exact Sub.refl | exact Sub.none | exact Sub.behind | (apply Sub.cons; (focus ((repeat (first | exact Sel.head | apply Sel.tail)); done))) | apply Sub.skip)), by omega⟩ ?_
      clear hf hS; rintro ⟨k, q, cap⟩ a w hf ⟨hS, hk⟩; (try dsimp only [List.cons_append, List.nil_append] at hf)
      refine c_seq ?_
      refine c_region ?_
      refine step_l (st_rdB hf (Wn.none rfl) (rd_lss hf rfl rfl rfl) hS rfl rfl ?_ ?_)
      · clear hf; intro hc2 a hf
        first
        | (first | exact Bool.noConfusion hc2 | exact absurd rfl hc2; done)
        | (
          refine done_l ?_
          refine t_normal ?_
          refine c_seq ?_
          refine c_true hf rfl ?_
          refine c_skip ?_
          refine t_normal ?_
          refine c_seq ?_
          refine c_block ?_
          refine c_seq ?_
          refine c_region ?_
          refine step_l (st_rd hf (Wn.none rfl) (rd_move hf rfl rfl) hS rfl rfl ?_)
          clear hf; intro a hf
          refine step_l (st_rd hf (Wn.none rfl) (rd_assign hf rfl rfl) hS rfl rfl ?_)
          clear hf; intro a hf
          refine done_l ?_
          refine t_normal ?_
          refine c_seq ?_
          refine any_begin (S := Sat W (R)) mixed (hS.drew.sub (by repeat (first | exact Sub.refl | exact Sub.none | exact Sub.behind | (apply Sub.cons; (focus ((repeat (first | exact Sel.head | apply Sel.tail)); done))) | apply Sub.skip))) ?_
          have hT : Sat W (R) _ := hS.drew.sub (by repeat (first | exact Sub.refl | exact Sub.none | exact Sub.behind | (apply Sub.cons; (focus ((repeat (first | exact Sel.head | apply Sel.tail)); done))) | apply Sub.skip))
          replace hS := hS.drew
          refine any_take (i := 0) hf rfl (by kernel_rfl) (by kernel_rfl) (by kernel_rfl) (fun _ _ _ h => h) (Wn.none rfl) (rd_move hf rfl rfl) hT rfl rfl ?_
          clear hf; intro a hf
          refine any_take (i := 1) hf rfl (by kernel_rfl) (by kernel_rfl) (by kernel_rfl) (fun _ _ _ h => h) (Wn.none rfl) (rd_move hf rfl rfl) hT rfl rfl ?_
          clear hf; intro a hf
          refine any_take (i := 2) hf rfl (by kernel_rfl) (by kernel_rfl) (by kernel_rfl) (fun _ _ _ h => h) (Wn.none rfl) (rd_nilCheck hf rfl rfl) hT rfl rfl ?_
          clear hf; intro a hf
          refine any_take (i := 3) hf rfl (by kernel_rfl) (by kernel_rfl) (by kernel_rfl) (fun _ _ _ h => h) (Wn.none rfl) (rd_fieldAddrB hf rfl rfl fb63_4 rfl) hT rfl rfl ?_
          clear hf; intro a hf
          refine any_take (i := 5) hf rfl (by kernel_rfl) (by kernel_rfl) (by kernel_rfl) (fun _ _ _ h => h) (Wn.none rfl) (rd_move hf rfl rfl) hT rfl rfl ?_
          clear hf; intro a hf
          refine any_take (i := 6) hf rfl (by kernel_rfl) (by kernel_rfl) (by kernel_rfl) (fun _ _ _ h => h) (Wn.none rfl) (rd_nilCheck hf rfl rfl) hT rfl rfl ?_
          clear hf; intro a hf
          refine any_take (i := 7) hf rfl (by kernel_rfl) (by kernel_rfl) (by kernel_rfl) (fun _ _ _ h => h) (Wn.none rfl) (rd_fieldAddrB hf rfl rfl fb63_1 rfl) hT rfl rfl ?_
          clear hf; intro a hf
          refine any_take (i := 9) hf rfl (by kernel_rfl) (by kernel_rfl) (by kernel_rfl) (fun _ _ _ h => h) (Wn.none rfl) (rd_move hf rfl rfl) hT rfl rfl ?_
          clear hf; intro a hf
          refine any_two (i := 4) (j := 8) rfl rfl (by kernel_rfl) ?_ ?_
          · skip
            refine st_rd hf (Wn.none rfl) (rd_load1 hf rfl rfl ag40 (by intro _ h; first | exact h.cell (by repeat (first | exact Sel.head | apply Sel.tail)) (by rfl))) hS rfl rfl ?_
            clear hf; intro a hf
            refine ⟨hT, ?_⟩
            refine any_one (i := 8) rfl (by kernel_rfl) (st_rd hf (Wn.none rfl) (rd_load1 hf rfl rfl ag25 (by intro _ h; first | exact h.cell (by repeat (first | exact Sel.head | apply Sel.tail)) (by rfl))) hS rfl rfl ?_)
            clear hf; intro a hf
            refine ⟨hT, ?_⟩
            refine any_one (i := 10) rfl (by kernel_rfl) (st_call hf (Wn.none rfl) rfl rfl rfl hfb (hmk k _ _ (by omega) (hS.sel (by repeat (first | exact Sel.head | apply Sel.tail))) (fun _ h => h.sub (by repeat (first | exact Sub.refl | exact Sub.none | exact Sub.behind | (apply Sub.cons; (focus ((repeat (first | exact Sel.head | apply Sel.tail)); done))) | apply Sub.skip)))) rfl rfl ?_)
            clear hf hS; rintro v a w ⟨rfl, hS⟩ hf
            replace hT := hS.sub' hT (by repeat (first | exact Sub.refl | exact Sub.none | exact Sub.behind | (apply Sub.cons; (focus ((repeat (first | exact Sel.head | apply Sel.tail)); done))) | apply Sub.skip))
            refine ⟨hT, ?_⟩
            refine any_one (i := 11) rfl (by kernel_rfl) (st_buildSlice hf (Wn.none rfl) hS rfl rfl Try.underlying40 sz24 zr24 (by decide) bz24_1 rfl (.cons rfl (by first | rfl) (by rfl) (by repeat (first | exact Put.nil | apply Put.cons | apply Put.succ)) .nil) rfl rfl ?_)
            clear hf hS; intro b_3 a w hf hS
            replace hT := hS.sub' hT (by repeat (first | exact Sub.refl | exact Sub.none | exact Sub.behind | (apply Sub.cons; (focus ((repeat (first | exact Sel.head | apply Sel.tail)); done))) | apply Sub.skip))
            refine ⟨hT, ?_⟩
            refine any_one (i := 12) rfl (by kernel_rfl) (st_append hf (Wn.none rfl) rfl rfl rfl Try.underlying40 tyb24 (by rfl) (by decide) hS (by repeat (first | exact Sel.head | apply Sel.tail)) (by first | exact hS.slOfBlk (by repeat (first | exact Sel.head | apply Sel.tail)) (by rfl) | exact hS.slOfBlkPre (by repeat (first | exact Sel.head | apply Sel.tail)) (bvs_len1 _) | exact hS.slOfRw (by repeat (first | exact Sel.head | apply Sel.tail)) | exact SlAt.nil _ _ _) (by first | rfl | exact bvs_one _ | (simp [Value.oneCell']; done) | exact u32s_one _) (by omega) rfl rfl ?_)
            clear hf hS; intro pA capA a w hf hS hnilA
            replace hT := hS.sub' hT (by repeat (first | exact Sub.refl | exact Sub.none | exact Sub.behind | (apply Sub.cons; (focus ((repeat (first | exact Sel.head | apply Sel.tail)); done))) | apply Sub.skip))
            refine ⟨hT, ?_⟩
            refine any_take (i := 13) hf rfl (by kernel_rfl) (by kernel_rfl) (by kernel_rfl) (fun _ _ _ h => h) (Wn.none rfl) (rd_nilCheck hf rfl rfl) hT rfl rfl ?_
            clear hf; intro a hf
            refine any_take (i := 14) hf rfl (by kernel_rfl) (by kernel_rfl) (by kernel_rfl) (fun _ _ _ h => h) (Wn.none rfl) (rd_fieldAddrB hf rfl rfl fb63_4 rfl) hT rfl rfl ?_
            clear hf; intro a hf
            refine any_one (i := 15) rfl (by kernel_rfl) (st_store hf (Wn.none rfl) hS rfl rfl rfl (by rfl) sz40 (by rfl) (by rfl) (by repeat (first | exact Sel.head | apply Sel.tail)) (by repeat (first | exact Put.nil | apply Put.cons | apply Put.succ)) rfl ?_)
            clear hf hS; intro a w hf hS
            replace hT := hS.sub' hT (by repeat (first | exact Sub.refl | exact Sub.none | exact Sub.behind | (apply Sub.cons; (focus ((repeat (first | exact Sel.head | apply Sel.tail)); done))) | apply Sub.skip))
            refine ⟨hT, ?_⟩
            refine any_done (by kernel_rfl) ?_
            refine t_normal ?_
            refine c_region ?_
            refine step_l (st_rd hf (Wn.none rfl) (rd_move hf rfl rfl) hS rfl rfl ?_)
            clear hf; intro a hf
            refine step_l (st_rd hf (Wn.none rfl) (rd_nilCheck hf rfl rfl) hS rfl rfl ?_)
            clear hf; intro a hf
            refine step_l (st_rd hf (Wn.none rfl) (rd_fieldAddrB hf rfl rfl fb63_3 rfl) hS rfl rfl ?_)
            clear hf; intro a hf
            refine step_l (st_call hf (Wn.none rfl) rfl rfl rfl fn34 (AIAdd_c _ _ _ _ _ _ (hS.sel (by repeat (first | exact Sel.head | apply Sel.tail))) (by rfl)) rfl rfl ?_)
            clear hf hS; rintro v a w ⟨rfl, hS⟩ hf
            refine done_l ?_
            refine b_normal ?_
            refine t_normal ?_
            refine c_region ?_
            refine step_l (st_rd hf (Wn.none rfl) (rd_add hf rfl rfl rfl (by first | exact Go.IntWalk.i64_in _ (by omega) | exact rfl)) hS rfl rfl ?_)
            clear hf; intro a hf
            refine step_l (st_rd hf (Wn.none rfl) (rd_move hf rfl rfl) hS rfl rfl ?_)
            clear hf; intro a hf
            refine done_l ?_
            refine t_normal ⟨(k + 1, pA, capA), ((hf.back (by repeat (first | exact Behind.refl | refine Behind.skip rfl ?_)) hk0).kb hf 12 rfl (by first | rfl | exact int_eq (by omega))), ⟨(by have h3 := (hS.sel (by repeat (first | exact Sel.head | apply Sel.tail)) : Sat W (Rw 24 1 pA (k + 1) capA _ :: _) _).rwCast (xs' := u32s (tvals f g s0 (k + 1))) (by rw [tvals_succ]; simp [u32s]) rfl; have e1 : IntKind.i64.wrap ((k : Int) + 1) = ((k + 1 : Nat) : Int) := i64_add1 (by omega); rw [e1] at h3; exact h3.sub (by repeat (first | exact Sub.refl | exact Sub.none | exact Sub.behind | (apply Sub.cons; (focus ((repeat (first | exact Sel.head | apply Sel.tail)); done))) | apply Sub.skip))), by omega⟩, by first | omega | (simp only []; omega)⟩
          · skip
            refine st_rd hf (Wn.none rfl) (rd_load1 hf rfl rfl ag25 (by intro _ h; first | exact h.cell (by repeat (first | exact Sel.head | apply Sel.tail)) (by rfl))) hS rfl rfl ?_
            clear hf; intro a hf
            refine ⟨hT, ?_⟩
            refine any_two (i := 4) (j := 10) rfl rfl (by kernel_rfl) ?_ ?_
            · skip
              refine st_rd hf (Wn.none rfl) (rd_load1 hf rfl rfl ag40 (by intro _ h; first | exact h.cell (by repeat (first | exact Sel.head | apply Sel.tail)) (by rfl))) hS rfl rfl ?_
              clear hf; intro a hf
              refine ⟨hT, ?_⟩
              refine any_one (i := 10) rfl (by kernel_rfl) (st_call hf (Wn.none rfl) rfl rfl rfl hfb (hmk k _ _ (by omega) (hS.sel (by repeat (first | exact Sel.head | apply Sel.tail))) (fun _ h => h.sub (by repeat (first | exact Sub.refl | exact Sub.none | exact Sub.behind | (apply Sub.cons; (focus ((repeat (first | exact Sel.head | apply Sel.tail)); done))) | apply Sub.skip)))) rfl rfl ?_)
              clear hf hS; rintro v a w ⟨rfl, hS⟩ hf
              replace hT := hS.sub' hT (by repeat (first | exact Sub.refl | exact Sub.none | exact Sub.behind | (apply Sub.cons; (focus ((repeat (first | exact Sel.head | apply Sel.tail)); done))) | apply Sub.skip))
              refine ⟨hT, ?_⟩
              refine any_one (i := 11) rfl (by kernel_rfl) (st_buildSlice hf (Wn.none rfl) hS rfl rfl Try.underlying40 sz24 zr24 (by decide) bz24_1 rfl (.cons rfl (by first | rfl) (by rfl) (by repeat (first | exact Put.nil | apply Put.cons | apply Put.succ)) .nil) rfl rfl ?_)
              clear hf hS; intro b_5 a w hf hS
              replace hT := hS.sub' hT (by repeat (first | exact Sub.refl | exact Sub.none | exact Sub.behind | (apply Sub.cons; (focus ((repeat (first | exact Sel.head | apply Sel.tail)); done))) | apply Sub.skip))
              refine ⟨hT, ?_⟩
              refine any_one (i := 12) rfl (by kernel_rfl) (st_append hf (Wn.none rfl) rfl rfl rfl Try.underlying40 tyb24 (by rfl) (by decide) hS (by repeat (first | exact Sel.head | apply Sel.tail)) (by first | exact hS.slOfBlk (by repeat (first | exact Sel.head | apply Sel.tail)) (by rfl) | exact hS.slOfBlkPre (by repeat (first | exact Sel.head | apply Sel.tail)) (bvs_len1 _) | exact hS.slOfRw (by repeat (first | exact Sel.head | apply Sel.tail)) | exact SlAt.nil _ _ _) (by first | rfl | exact bvs_one _ | (simp [Value.oneCell']; done) | exact u32s_one _) (by omega) rfl rfl ?_)
              clear hf hS; intro pA capA a w hf hS hnilA
              replace hT := hS.sub' hT (by repeat (first | exact Sub.refl | exact Sub.none | exact Sub.behind | (apply Sub.cons; (focus ((repeat (first | exact Sel.head | apply Sel.tail)); done))) | apply Sub.skip))
              refine ⟨hT, ?_⟩
              refine any_take (i := 13) hf rfl (by kernel_rfl) (by kernel_rfl) (by kernel_rfl) (fun _ _ _ h => h) (Wn.none rfl) (rd_nilCheck hf rfl rfl) hT rfl rfl ?_
              clear hf; intro a hf
              refine any_take (i := 14) hf rfl (by kernel_rfl) (by kernel_rfl) (by kernel_rfl) (fun _ _ _ h => h) (Wn.none rfl) (rd_fieldAddrB hf rfl rfl fb63_4 rfl) hT rfl rfl ?_
              clear hf; intro a hf
              refine any_one (i := 15) rfl (by kernel_rfl) (st_store hf (Wn.none rfl) hS rfl rfl rfl (by rfl) sz40 (by rfl) (by rfl) (by repeat (first | exact Sel.head | apply Sel.tail)) (by repeat (first | exact Put.nil | apply Put.cons | apply Put.succ)) rfl ?_)
              clear hf hS; intro a w hf hS
              replace hT := hS.sub' hT (by repeat (first | exact Sub.refl | exact Sub.none | exact Sub.behind | (apply Sub.cons; (focus ((repeat (first | exact Sel.head | apply Sel.tail)); done))) | apply Sub.skip))
              refine ⟨hT, ?_⟩
              refine any_done (by kernel_rfl) ?_
              refine t_normal ?_
              refine c_region ?_
              refine step_l (st_rd hf (Wn.none rfl) (rd_move hf rfl rfl) hS rfl rfl ?_)
              clear hf; intro a hf
              refine step_l (st_rd hf (Wn.none rfl) (rd_nilCheck hf rfl rfl) hS rfl rfl ?_)
              clear hf; intro a hf
              refine step_l (st_rd hf (Wn.none rfl) (rd_fieldAddrB hf rfl rfl fb63_3 rfl) hS rfl rfl ?_)
              clear hf; intro a hf
              refine step_l (st_call hf (Wn.none rfl) rfl rfl rfl fn34 (AIAdd_c _ _ _ _ _ _ (hS.sel (by repeat (first | exact Sel.head | apply Sel.tail))) (by rfl)) rfl rfl ?_)
              clear hf hS; rintro v a w ⟨rfl, hS⟩ hf
              refine done_l ?_
              refine b_normal ?_
              refine t_normal ?_
              refine c_region ?_
              refine step_l (st_rd hf (Wn.none rfl) (rd_add hf rfl rfl rfl (by first | exact Go.IntWalk.i64_in _ (by omega) | exact rfl)) hS rfl rfl ?_)
              clear hf; intro a hf
              refine step_l (st_rd hf (Wn.none rfl) (rd_move hf rfl rfl) hS rfl rfl ?_)
              clear hf; intro a hf
              refine done_l ?_
              refine t_normal ⟨(k + 1, pA, capA), ((hf.back (by repeat (first | exact Behind.refl | refine Behind.skip rfl ?_)) hk0).kb hf 12 rfl (by first | rfl | exact int_eq (by omega))), ⟨(by have h3 := (hS.sel (by repeat (first | exact Sel.head | apply Sel.tail)) : Sat W (Rw 24 1 pA (k + 1) capA _ :: _) _).rwCast (xs' := u32s (tvals f g s0 (k + 1))) (by rw [tvals_succ]; simp [u32s]) rfl; have e1 : IntKind.i64.wrap ((k : Int) + 1) = ((k + 1 : Nat) : Int) := i64_add1 (by omega); rw [e1] at h3; exact h3.sub (by repeat (first | exact Sub.refl | exact Sub.none | exact Sub.behind | (apply Sub.cons; (focus ((repeat (first | exact Sel.head | apply Sel.tail)); done))) | apply Sub.skip))), by omega⟩, by first | omega | (simp only []; omega)⟩
            · skip
              refine st_call hf (Wn.none rfl) rfl rfl rfl hfb (hmk k _ _ (by omega) (hS.sel (by repeat (first | exact Sel.head | apply Sel.tail))) (fun _ h => h.sub (by repeat (first | exact Sub.refl | exact Sub.none | exact Sub.behind | (apply Sub.cons; (focus ((repeat (first | exact Sel.head | apply Sel.tail)); done))) | apply Sub.skip)))) rfl rfl ?_
              clear hf hS; rintro v a w ⟨rfl, hS⟩ hf
              replace hT := hS.sub' hT (by repeat (first | exact Sub.refl | exact Sub.none | exact Sub.behind | (apply Sub.cons; (focus ((repeat (first | exact Sel.head | apply Sel.tail)); done))) | apply Sub.skip))
              refine ⟨hT, ?_⟩
              refine any_two (i := 4) (j := 11) rfl rfl (by kernel_rfl) ?_ ?_
              · skip
                refine st_rd hf (Wn.none rfl) (rd_load1 hf rfl rfl ag40 (by intro _ h; first | exact h.cell (by repeat (first | exact Sel.head | apply Sel.tail)) (by rfl))) hS rfl rfl ?_
                clear hf; intro a hf
                refine ⟨hT, ?_⟩
                refine any_one (i := 11) rfl (by kernel_rfl) (st_buildSlice hf (Wn.none rfl) hS rfl rfl Try.underlying40 sz24 zr24 (by decide) bz24_1 rfl (.cons rfl (by first | rfl) (by rfl) (by repeat (first | exact Put.nil | apply Put.cons | apply Put.succ)) .nil) rfl rfl ?_)
                clear hf hS; intro b_7 a w hf hS
                replace hT := hS.sub' hT (by repeat (first | exact Sub.refl | exact Sub.none | exact Sub.behind | (apply Sub.cons; (focus ((repeat (first | exact Sel.head | apply Sel.tail)); done))) | apply Sub.skip))
                refine ⟨hT, ?_⟩
                refine any_one (i := 12) rfl (by kernel_rfl) (st_append hf (Wn.none rfl) rfl rfl rfl Try.underlying40 tyb24 (by rfl) (by decide) hS (by repeat (first | exact Sel.head | apply Sel.tail)) (by first | exact hS.slOfBlk (by repeat (first | exact Sel.head | apply Sel.tail)) (by rfl) | exact hS.slOfBlkPre (by repeat (first | exact Sel.head | apply Sel.tail)) (bvs_len1 _) | exact hS.slOfRw (by repeat (first | exact Sel.head | apply Sel.tail)) | exact SlAt.nil _ _ _) (by first | rfl | exact bvs_one _ | (simp [Value.oneCell']; done) | exact u32s_one _) (by omega) rfl rfl ?_)
                clear hf hS; intro pA capA a w hf hS hnilA
                replace hT := hS.sub' hT (by repeat (first | exact Sub.refl | exact Sub.none | exact Sub.behind | (apply Sub.cons; (focus ((repeat (first | exact Sel.head | apply Sel.tail)); done))) | apply Sub.skip))
                refine ⟨hT, ?_⟩
                refine any_take (i := 13) hf rfl (by kernel_rfl) (by kernel_rfl) (by kernel_rfl) (fun _ _ _ h => h) (Wn.none rfl) (rd_nilCheck hf rfl rfl) hT rfl rfl ?_
                clear hf; intro a hf
                refine any_take (i := 14) hf rfl (by kernel_rfl) (by kernel_rfl) (by kernel_rfl) (fun _ _ _ h => h) (Wn.none rfl) (rd_fieldAddrB hf rfl rfl fb63_4 rfl) hT rfl rfl ?_
                clear hf; intro a hf
                refine any_one (i := 15) rfl (by kernel_rfl) (st_store hf (Wn.none rfl) hS rfl rfl rfl (by rfl) sz40 (by rfl) (by rfl) (by repeat (first | exact Sel.head | apply Sel.tail)) (by repeat (first | exact Put.nil | apply Put.cons | apply Put.succ)) rfl ?_)
                clear hf hS; intro a w hf hS
                replace hT := hS.sub' hT (by repeat (first | exact Sub.refl | exact Sub.none | exact Sub.behind | (apply Sub.cons; (focus ((repeat (first | exact Sel.head | apply Sel.tail)); done))) | apply Sub.skip))
                refine ⟨hT, ?_⟩
                refine any_done (by kernel_rfl) ?_
                refine t_normal ?_
                refine c_region ?_
                refine step_l (st_rd hf (Wn.none rfl) (rd_move hf rfl rfl) hS rfl rfl ?_)
                clear hf; intro a hf
                refine step_l (st_rd hf (Wn.none rfl) (rd_nilCheck hf rfl rfl) hS rfl rfl ?_)
                clear hf; intro a hf
                refine step_l (st_rd hf (Wn.none rfl) (rd_fieldAddrB hf rfl rfl fb63_3 rfl) hS rfl rfl ?_)
                clear hf; intro a hf
                refine step_l (st_call hf (Wn.none rfl) rfl rfl rfl fn34 (AIAdd_c _ _ _ _ _ _ (hS.sel (by repeat (first | exact Sel.head | apply Sel.tail))) (by rfl)) rfl rfl ?_)
                clear hf hS; rintro v a w ⟨rfl, hS⟩ hf
                refine done_l ?_
                refine b_normal ?_
                refine t_normal ?_
                refine c_region ?_
                refine step_l (st_rd hf (Wn.none rfl) (rd_add hf rfl rfl rfl (by first | exact Go.IntWalk.i64_in _ (by omega) | exact rfl)) hS rfl rfl ?_)
                clear hf; intro a hf
                refine step_l (st_rd hf (Wn.none rfl) (rd_move hf rfl rfl) hS rfl rfl ?_)
                clear hf; intro a hf
                refine done_l ?_
                refine t_normal ⟨(k + 1, pA, capA), ((hf.back (by repeat (first | exact Behind.refl | refine Behind.skip rfl ?_)) hk0).kb hf 12 rfl (by first | rfl | exact int_eq (by omega))), ⟨(by have h3 := (hS.sel (by repeat (first | exact Sel.head | apply Sel.tail)) : Sat W (Rw 24 1 pA (k + 1) capA _ :: _) _).rwCast (xs' := u32s (tvals f g s0 (k + 1))) (by rw [tvals_succ]; simp [u32s]) rfl; have e1 : IntKind.i64.wrap ((k : Int) + 1) = ((k + 1 : Nat) : Int) := i64_add1 (by omega); rw [e1] at h3; exact h3.sub (by repeat (first | exact Sub.refl | exact Sub.none | exact Sub.behind | (apply Sub.cons; (focus ((repeat (first | exact Sel.head | apply Sel.tail)); done))) | apply Sub.skip))), by omega⟩, by first | omega | (simp only []; omega)⟩
              · skip
                refine st_buildSlice hf (Wn.none rfl) hS rfl rfl Try.underlying40 sz24 zr24 (by decide) bz24_1 rfl (.cons rfl (by first | rfl) (by rfl) (by repeat (first | exact Put.nil | apply Put.cons | apply Put.succ)) .nil) rfl rfl ?_
                clear hf hS; intro b_9 a w hf hS
                replace hT := hS.sub' hT (by repeat (first | exact Sub.refl | exact Sub.none | exact Sub.behind | (apply Sub.cons; (focus ((repeat (first | exact Sel.head | apply Sel.tail)); done))) | apply Sub.skip))
                refine ⟨hT, ?_⟩
                refine any_one (i := 4) rfl (by kernel_rfl) (st_rd hf (Wn.none rfl) (rd_load1 hf rfl rfl ag40 (by intro _ h; first | exact h.cell (by repeat (first | exact Sel.head | apply Sel.tail)) (by rfl))) hS rfl rfl ?_)
                clear hf; intro a hf
                refine ⟨hT, ?_⟩
                refine any_one (i := 12) rfl (by kernel_rfl) (st_append hf (Wn.none rfl) rfl rfl rfl Try.underlying40 tyb24 (by rfl) (by decide) hS (by repeat (first | exact Sel.head | apply Sel.tail)) (by first | exact hS.slOfBlk (by repeat (first | exact Sel.head | apply Sel.tail)) (by rfl) | exact hS.slOfBlkPre (by repeat (first | exact Sel.head | apply Sel.tail)) (bvs_len1 _) | exact hS.slOfRw (by repeat (first | exact Sel.head | apply Sel.tail)) | exact SlAt.nil _ _ _) (by first | rfl | exact bvs_one _ | (simp [Value.oneCell']; done) | exact u32s_one _) (by omega) rfl rfl ?_)
                clear hf hS; intro pA capA a w hf hS hnilA
                replace hT := hS.sub' hT (by repeat (first | exact Sub.refl | exact Sub.none | exact Sub.behind | (apply Sub.cons; (focus ((repeat (first | exact Sel.head | apply Sel.tail)); done))) | apply Sub.skip))
                refine ⟨hT, ?_⟩
                refine any_take (i := 13) hf rfl (by kernel_rfl) (by kernel_rfl) (by kernel_rfl) (fun _ _ _ h => h) (Wn.none rfl) (rd_nilCheck hf rfl rfl) hT rfl rfl ?_
                clear hf; intro a hf
                refine any_take (i := 14) hf rfl (by kernel_rfl) (by kernel_rfl) (by kernel_rfl) (fun _ _ _ h => h) (Wn.none rfl) (rd_fieldAddrB hf rfl rfl fb63_4 rfl) hT rfl rfl ?_
                clear hf; intro a hf
                refine any_one (i := 15) rfl (by kernel_rfl) (st_store hf (Wn.none rfl) hS rfl rfl rfl (by rfl) sz40 (by rfl) (by rfl) (by repeat (first | exact Sel.head | apply Sel.tail)) (by repeat (first | exact Put.nil | apply Put.cons | apply Put.succ)) rfl ?_)
                clear hf hS; intro a w hf hS
                replace hT := hS.sub' hT (by repeat (first | exact Sub.refl | exact Sub.none | exact Sub.behind | (apply Sub.cons; (focus ((repeat (first | exact Sel.head | apply Sel.tail)); done))) | apply Sub.skip))
                refine ⟨hT, ?_⟩
                refine any_done (by kernel_rfl) ?_
                refine t_normal ?_
                refine c_region ?_
                refine step_l (st_rd hf (Wn.none rfl) (rd_move hf rfl rfl) hS rfl rfl ?_)
                clear hf; intro a hf
                refine step_l (st_rd hf (Wn.none rfl) (rd_nilCheck hf rfl rfl) hS rfl rfl ?_)
                clear hf; intro a hf
                refine step_l (st_rd hf (Wn.none rfl) (rd_fieldAddrB hf rfl rfl fb63_3 rfl) hS rfl rfl ?_)
                clear hf; intro a hf
                refine step_l (st_call hf (Wn.none rfl) rfl rfl rfl fn34 (AIAdd_c _ _ _ _ _ _ (hS.sel (by repeat (first | exact Sel.head | apply Sel.tail))) (by rfl)) rfl rfl ?_)
                clear hf hS; rintro v a w ⟨rfl, hS⟩ hf
                refine done_l ?_
                refine b_normal ?_
                refine t_normal ?_
                refine c_region ?_
                refine step_l (st_rd hf (Wn.none rfl) (rd_add hf rfl rfl rfl (by first | exact Go.IntWalk.i64_in _ (by omega) | exact rfl)) hS rfl rfl ?_)
                clear hf; intro a hf
                refine step_l (st_rd hf (Wn.none rfl) (rd_move hf rfl rfl) hS rfl rfl ?_)
                clear hf; intro a hf
                refine done_l ?_
                refine t_normal ⟨(k + 1, pA, capA), ((hf.back (by repeat (first | exact Behind.refl | refine Behind.skip rfl ?_)) hk0).kb hf 12 rfl (by first | rfl | exact int_eq (by omega))), ⟨(by have h3 := (hS.sel (by repeat (first | exact Sel.head | apply Sel.tail)) : Sat W (Rw 24 1 pA (k + 1) capA _ :: _) _).rwCast (xs' := u32s (tvals f g s0 (k + 1))) (by rw [tvals_succ]; simp [u32s]) rfl; have e1 : IntKind.i64.wrap ((k : Int) + 1) = ((k + 1 : Nat) : Int) := i64_add1 (by omega); rw [e1] at h3; exact h3.sub (by repeat (first | exact Sub.refl | exact Sub.none | exact Sub.behind | (apply Sub.cons; (focus ((repeat (first | exact Sel.head | apply Sel.tail)); done))) | apply Sub.skip))), by omega⟩, by first | omega | (simp only []; omega)⟩
          )
      · clear hf; intro hc2 a hf
        obtain rfl : k = n := by omega
        first
        | (first | exact Bool.noConfusion hc2 | exact absurd rfl hc2; done)
        | (
          refine done_l ?_
          refine t_normal ?_
          refine c_seq ?_
          refine c_false hf rfl ?_
          refine c_exit ?_
          refine t_exit ?_
          refine t_exit ?_
          refine b_exit ?_
          refine e_none' hf rfl ?_
          exact ⟨rfl, q, cap, hS.sub (by repeat (first | exact Sub.refl | exact Sub.none | exact Sub.behind | (apply Sub.cons; (focus ((repeat (first | exact Sel.head | apply Sel.tail)); done))) | apply Sub.skip))⟩
          )
      )

/-- sync.Once, done: nothing. -/

theorem doFirst_c {σ : Type} (M : σ → HP) (f : σ → Nat → B32) (g : σ → Nat → σ) (s0 : σ) (p n fk : Nat) (us caps : List Value) {W : World} {R : List HP} {w : World} (hS : Sat W (Blk p [.int .i64 (n : Nat), .func (.func fk) us.toArray caps.toArray, .int .u32 0, .int .i32 0, .int .u32 0, .int .i64 0, .slice none 0 0] 63 :: M s0 :: R) w) (hfb : fnB Try.prog fk = true) (hmk : ∀ (i : Nat) (l : List HP) (w : World), i < n → Sat W (M (mst g s0 i) :: l) w → (∀ w, Sat W l w → Sat W R w) → Calls Try.prog fk (us ++ [Value.int .i64 (i : Nat)] ++ caps).toArray w (Ret fun v w' => v = u32v (f (mst g s0 i) i) ∧ Sat W (M (mst g s0 (i + 1)) :: l) w')) (hn : n ≤ 4096) : Calls Try.prog 29 [.pointer (some ⟨p, 2, none⟩), .func (.func 30) [.pointer (some ⟨p, 0, none⟩)].toArray [].toArray].toArray w (Ret fun v w' => v = .tuple #[] ∧ ∃ q cap, Sat W (Blk p [.int .i64 (n : Nat), .func (.func fk) us.toArray caps.toArray, .int .u32 1, .int .i32 0, .int .u32 0, .int .i64 (n : Nat), .slice q n cap] 63 :: Rw 24 1 q n cap (u32s (tvals f g s0 n)) :: M (mst g s0 n) :: R) w') := by
  refine fn_start 12 Try.func29 rfl rfl rfl ?_
  intro a hf
  refine c_seq ?_
  refine c_region ?_
  refine step_l (st_rd hf (Wn.none rfl) (rd_move hf rfl rfl) hS rfl rfl ?_)
  clear hf; intro a hf
  refine step_l (st_rd hf (Wn.none rfl) (rd_nilCheck hf rfl rfl) hS rfl rfl ?_)
  clear hf; intro a hf
  refine step_l (st_rd hf (Wn.none rfl) (rd_fieldAddrB hf rfl rfl fb58_1 rfl) hS rfl rfl ?_)
  clear hf; intro a hf
  refine step_l (st_call hf (Wn.none rfl) rfl rfl rfl fn32 (ABLoad_c _ _ _ _ _ (hS.sel (by repeat (first | exact Sel.head | apply Sel.tail))) (by rfl)) rfl rfl ?_)
  clear hf hS; rintro v a w ⟨rfl, hS⟩ hf
  first | refine split_dec (d := 7) hf rfl ?_ ?_ | refine split_bool (d := 7) hf rfl ?_ ?_
  · clear hf; intro hc1 hf
    first
    | (exact absurd hc1 (by decide); done)
    | (
      refine step_l (st_rd hf (Wn.none rfl) (rd_not hf rfl rfl) hS rfl rfl ?_)
      clear hf; intro a hf
      refine done_l ?_
      refine t_normal ?_
      refine c_false hf rfl ?_
      refine c_skip ?_
      refine e_none' hf rfl ?_
      exact ⟨rfl, q, cap, hS.sub (by repeat (first | exact Sub.refl | exact Sub.none | exact Sub.behind | (apply Sub.cons; (focus ((repeat (first | exact Sel.head | apply Sel.tail)); done))) | apply Sub.skip))⟩
      )
  · clear hf; intro hc1 hf
    first
    | (exact absurd hc1 (by decide); done)
    | (
      refine step_l (st_rd hf (Wn.none rfl) (rd_not hf rfl rfl) hS rfl rfl ?_)
      clear hf; intro a hf
      refine done_l ?_
      refine t_normal ?_
      refine c_true hf rfl ?_
      refine c_region ?_
      refine step_l (st_rd hf (Wn.none rfl) (rd_move hf rfl rfl) hS rfl rfl ?_)
      clear hf; intro a hf
      refine step_l (st_rd hf (Wn.none rfl) (rd_move hf rfl rfl) hS rfl rfl ?_)
      clear hf; intro a hf
      refine step_l (st_call hf (Wn.none rfl) rfl rfl rfl fn33 (o_slow (α := Option Addr × Nat) (cs' := fun x => [.int .i64 (n : Nat), .func (.func fk) us.toArray caps.toArray, .int .u32 0, .int .i32 1, .int .u32 0, .int .i64 (n : Nat), .slice x.1 n x.2]) (R' := fun x => Rw 24 1 x.1 n x.2 (u32s (tvals f g s0 n)) :: M (mst g s0 n) :: R) (hS.sels (.cons (by repeat (first | exact Sel.head | apply Sel.tail)) (.cons (by repeat (first | exact Sel.head | apply Sel.tail)) .nil))) rfl rfl fn30 (fun w h => (fill_c M f g s0 p n fk us caps 0 1 h hfb hmk hn).mono (by intro e w' he; cases e with | returned v => (obtain ⟨h1, q, cap, h2⟩ := he; exact ⟨h1, (q, cap), h2, ⟨_, rfl⟩, rfl⟩) | panicked c => exact he.elim | outgrown => exact he.elim))) rfl rfl ?_)
      clear hf hS; rintro v a w ⟨rfl, ⟨q, cap⟩, hS⟩ hf
      refine done_l ?_
      refine e_none' hf rfl ?_
      exact ⟨rfl, q, cap, hS.sub (by repeat (first | exact Sub.refl | exact Sub.none | exact Sub.behind | (apply Sub.cons; (focus ((repeat (first | exact Sel.head | apply Sel.tail)); done))) | apply Sub.skip))⟩
      )

theorem doDone_c (p off T : Nat) (cs : List Value) (F : Value) (d : Int) {W : World} {R : List HP} {w : World} (hS : Sat W (Blk p cs T :: R) w) (hc : cs[off]? = some (.int .u32 d)) (hd : d ≠ 0) : Calls Try.prog 29 [.pointer (some ⟨p, off, none⟩), F].toArray w (Ret fun v w' => v = .tuple #[] ∧ Sat W (Blk p cs T :: R) w') := by
  refine fn_start 12 Try.func29 rfl rfl rfl ?_
  intro a hf
  refine c_seq ?_
  refine c_region ?_
  refine step_l (st_rd hf (Wn.none rfl) (rd_move hf rfl rfl) hS rfl rfl ?_)
  clear hf; intro a hf
  refine step_l (st_rd hf (Wn.none rfl) (rd_nilCheck hf rfl rfl) hS rfl rfl ?_)
  clear hf; intro a hf
  refine step_l (st_rd hf (Wn.none rfl) (rd_fieldAddrB hf rfl rfl fb58_1 rfl) hS rfl rfl ?_)
  clear hf; intro a hf
  refine step_l (st_call hf (Wn.none rfl) rfl rfl rfl fn32 (ABLoad_c _ _ _ _ _ (hS.sel (by repeat (first | exact Sel.head | apply Sel.tail))) hc) rfl rfl ?_)
  clear hf hS; rintro v a w ⟨rfl, hS⟩ hf
  first | refine split_dec (d := 7) hf rfl ?_ ?_ | refine split_bool (d := 7) hf rfl ?_ ?_
  · clear hf; intro hc1 hf
    first
    | (first | exact absurd hc1 hd | exact absurd hd hc1; done)
    | (
      refine step_l (st_rd hf (Wn.none rfl) (rd_not hf rfl rfl) hS rfl rfl ?_)
      clear hf; intro a hf
      refine done_l ?_
      refine t_normal ?_
      refine c_false hf rfl ?_
      refine c_skip ?_
      refine e_none' hf rfl ?_
      exact ⟨rfl, hS.sub (by repeat (first | exact Sub.refl | exact Sub.none | exact Sub.behind | (apply Sub.cons; (focus ((repeat (first | exact Sel.head | apply Sel.tail)); done))) | apply Sub.skip))⟩
      )
  · clear hf; intro hc1 hf
    first
    | (first | exact absurd hc1 hd | exact absurd hd hc1; done)
    | (
      refine step_l (st_rd hf (Wn.none rfl) (rd_not hf rfl rfl) hS rfl rfl ?_)
      clear hf; intro a hf
      refine done_l ?_
      refine t_normal ?_
      refine c_true hf rfl ?_
      refine c_region ?_
      refine step_l (st_rd hf (Wn.none rfl) (rd_move hf rfl rfl) hS rfl rfl ?_)
      clear hf; intro a hf
      refine step_l (st_rd hf (Wn.none rfl) (rd_move hf rfl rfl) hS rfl rfl ?_)
      clear hf; intro a hf
      refine step_l (st_call hf (Wn.none rfl) rfl rfl rfl fn33 hS rfl rfl ?_)
      clear hf hS; rintro v a w hS hf
      refine done_l ?_
      refine e_none' hf rfl ?_
      exact ⟨rfl, hS.sub (by repeat (first | exact Sub.refl | exact Sub.none | exact Sub.behind | (apply Sub.cons; (focus ((repeat (first | exact Sel.head | apply Sel.tail)); done))) | apply Sub.skip))⟩
      )

theorem LNew_c (k : Int) (F : Value) (vals : List B32) (n : Nat) {W : World} {R : List HP} {w : World} (hS : Sat W (R) w) (hn : max 0 (min k 4096) = (n : Int)) (hc : F.cells = [F].toArray) : Calls Try.prog 16 [.int .i64 k, F].toArray w (Ret fun v w' => ∃ p, v = .pointer (some ⟨p, 0, none⟩) ∧ Sat W (TbP 63 24 p n F vals false :: R) w') := by
  refine fn_start 11 Try.func16 rfl rfl rfl ?_
  intro a hf
  refine c_seq ?_
  refine c_region ?_
  refine step_l (st_rd hf (Wn.none rfl) (rd_assign hf rfl rfl) hS rfl rfl ?_)
  clear hf; intro a hf
  refine done_l ?_
  refine t_normal ?_
  refine c_seq ?_
  refine c_region ?_
  refine step_l (st_rd hf (Wn.none rfl) (rd_move hf rfl rfl) hS rfl rfl ?_)
  clear hf; intro a hf
  refine step_l (st_rd hf (Wn.none rfl) (rd_min hf rfl rfl rfl) hS rfl rfl ?_)
  clear hf; intro a hf
  refine step_l (st_rd hf (Wn.none rfl) (rd_max hf rfl rfl rfl) hS rfl rfl ?_)
  clear hf; intro a hf
  refine step_l (st_rd hf (Wn.none rfl) (rd_move hf rfl rfl) hS rfl rfl ?_)
  clear hf; intro a hf
  refine step_l (st_rd hf (Wn.none rfl) (rd_build hf rfl rfl zr63 (by rfl) pl63 (.cons rfl (by first | exact hc | rfl) (by rfl) (by repeat (first | exact Put.nil | apply Put.cons | apply Put.succ)) (.cons rfl (by first | exact hc | rfl) (by rfl) (by repeat (first | exact Put.nil | apply Put.cons | apply Put.succ)) .nil))) hS rfl rfl ?_)
  clear hf; intro a hf
  refine step_l (st_box hf (Wn.none rfl) hS rfl rfl (by rfl) rfl rfl ?_)
  clear hf hS; intro b_1 a w hf hS
  refine step_l (st_rd hf (Wn.none rfl) (rd_assign hf rfl rfl) hS rfl rfl ?_)
  clear hf; intro a hf
  refine done_l ?_
  refine t_normal ?_
  refine c_ret ?_
  refine e_res1 hf.defers rfl (res_tmp hf rfl .nil) ?_
  exact ⟨b_1, rfl, by rw [tb_f, ← hn]; exact hS.sub (by repeat (first | exact Sub.refl | exact Sub.none | exact Sub.behind | (apply Sub.cons; (focus ((repeat (first | exact Sel.head | apply Sel.tail)); done))) | apply Sub.skip))⟩

theorem LLen_c (p n T : Nat) (cs : List Value) {W : World} {R : List HP} {w : World} (hS : Sat W (Blk p (.int .i64 (n : Nat) :: cs) T :: R) w)  : Calls Try.prog 13 [.pointer (some ⟨p, 0, none⟩)].toArray w (Ret fun v w' => v = .int .i64 (n : Nat) ∧ Sat W (Blk p (.int .i64 (n : Nat) :: cs) T :: R) w') := by
  refine fn_start 9 Try.func13 rfl rfl rfl ?_
  intro a hf
  refine c_seq ?_
  refine c_region ?_
  refine step_l (st_rd hf (Wn.none rfl) (rd_assign hf rfl rfl) hS rfl rfl ?_)
  clear hf; intro a hf
  refine done_l ?_
  refine t_normal ?_
  refine c_seq ?_
  refine c_seq ?_
  refine c_region ?_
  refine step_l (st_rd hf (Wn.none rfl) (rd_move hf rfl rfl) hS rfl rfl ?_)
  clear hf; intro a hf
  refine step_l (st_rdb hf (Wn.none rfl) (rd_eqlNilP hf rfl rfl rfl Try.underlying22) hS rfl rfl ?_ ?_)
  · clear hf; intro hc1 a hf
    first
    | (first | exact Bool.noConfusion hc1 | exact absurd rfl hc1; done)
    | (
      refine done_l ?_
      refine t_normal ?_
      refine c_true hf rfl ?_
      refine c_seq ?_
      refine c_region ?_
      refine step_l (st_rd hf (Wn.none rfl) (rd_assign hf rfl rfl) hS rfl rfl ?_)
      clear hf; intro a hf
      refine done_l ?_
      refine t_normal ?_
      refine c_ret ?_
      refine t_ret ?_
      refine e_res1 hf.defers rfl (res_tmp hf rfl .nil) ?_
      exact ⟨rfl, hS.sub (by repeat (first | exact Sub.refl | exact Sub.none | exact Sub.behind | (apply Sub.cons; (focus ((repeat (first | exact Sel.head | apply Sel.tail)); done))) | apply Sub.skip))⟩
      )
  · clear hf; intro hc1 a hf
    first
    | (first | exact Bool.noConfusion hc1 | exact absurd rfl hc1; done)
    | (
      refine done_l ?_
      refine t_normal ?_
      refine c_false hf rfl ?_
      refine c_skip ?_
      refine t_normal ?_
      refine c_seq ?_
      refine c_region ?_
      refine step_l (st_rd hf (Wn.none rfl) (rd_move hf rfl rfl) hS rfl rfl ?_)
      clear hf; intro a hf
      refine step_l (st_rd hf (Wn.none rfl) (rd_nilCheck hf rfl rfl) hS rfl rfl ?_)
      clear hf; intro a hf
      refine step_l (st_rd hf (Wn.none rfl) (rd_fieldAddrB hf rfl rfl fb63_0 rfl) hS rfl rfl ?_)
      clear hf; intro a hf
      refine step_l (st_rd hf (Wn.none rfl) (rd_load1 hf rfl rfl ag3 (by intro _ h; first | exact h.cell (by repeat (first | exact Sel.head | apply Sel.tail)) (by rfl))) hS rfl rfl ?_)
      clear hf; intro a hf
      refine step_l (st_rd hf (Wn.none rfl) (rd_assign hf rfl rfl) hS rfl rfl ?_)
      clear hf; intro a hf
      refine done_l ?_
      refine t_normal ?_
      refine c_ret ?_
      refine e_res1 hf.defers rfl (res_tmp hf rfl .nil) ?_
      exact ⟨rfl, hS.sub (by repeat (first | exact Sub.refl | exact Sub.none | exact Sub.behind | (apply Sub.cons; (focus ((repeat (first | exact Sel.head | apply Sel.tail)); done))) | apply Sub.skip))⟩
      )

theorem LMade_c (p T : Nat) (cs : List Value) (d : Int) {W : World} {R : List HP} {w : World} (hS : Sat W (Blk p cs T :: R) w) (hc : cs[5]? = some (.int .i64 d)) : Calls Try.prog 18 [.pointer (some ⟨p, 0, none⟩)].toArray w (Ret fun v w' => v = .int .i64 d ∧ Sat W (Blk p cs T :: R) w') := by
  refine fn_start 9 Try.func18 rfl rfl rfl ?_
  intro a hf
  refine c_seq ?_
  refine c_region ?_
  refine step_l (st_rd hf (Wn.none rfl) (rd_assign hf rfl rfl) hS rfl rfl ?_)
  clear hf; intro a hf
  refine done_l ?_
  refine t_normal ?_
  refine c_seq ?_
  refine c_seq ?_
  refine c_region ?_
  refine step_l (st_rd hf (Wn.none rfl) (rd_move hf rfl rfl) hS rfl rfl ?_)
  clear hf; intro a hf
  refine step_l (st_rdb hf (Wn.none rfl) (rd_eqlNilP hf rfl rfl rfl Try.underlying22) hS rfl rfl ?_ ?_)
  · clear hf; intro hc1 a hf
    first
    | (first | exact Bool.noConfusion hc1 | exact absurd rfl hc1; done)
    | (
      refine done_l ?_
      refine t_normal ?_
      refine c_true hf rfl ?_
      refine c_seq ?_
      refine c_region ?_
      refine step_l (st_rd hf (Wn.none rfl) (rd_assign hf rfl rfl) hS rfl rfl ?_)
      clear hf; intro a hf
      refine done_l ?_
      refine t_normal ?_
      refine c_ret ?_
      refine t_ret ?_
      refine e_res1 hf.defers rfl (res_tmp hf rfl .nil) ?_
      exact ⟨rfl, hS.sub (by repeat (first | exact Sub.refl | exact Sub.none | exact Sub.behind | (apply Sub.cons; (focus ((repeat (first | exact Sel.head | apply Sel.tail)); done))) | apply Sub.skip))⟩
      )
  · clear hf; intro hc1 a hf
    first
    | (first | exact Bool.noConfusion hc1 | exact absurd rfl hc1; done)
    | (
      refine done_l ?_
      refine t_normal ?_
      refine c_false hf rfl ?_
      refine c_skip ?_
      refine t_normal ?_
      refine c_seq ?_
      refine c_region ?_
      refine step_l (st_rd hf (Wn.none rfl) (rd_move hf rfl rfl) hS rfl rfl ?_)
      clear hf; intro a hf
      refine step_l (st_rd hf (Wn.none rfl) (rd_nilCheck hf rfl rfl) hS rfl rfl ?_)
      clear hf; intro a hf
      refine step_l (st_rd hf (Wn.none rfl) (rd_fieldAddrB hf rfl rfl fb63_3 rfl) hS rfl rfl ?_)
      clear hf; intro a hf
      refine step_l (st_call hf (Wn.none rfl) rfl rfl rfl fn31 (AILoad_c _ _ _ _ _ (hS.sel (by repeat (first | exact Sel.head | apply Sel.tail))) hc) rfl rfl ?_)
      clear hf hS; rintro v a w ⟨rfl, hS⟩ hf
      refine step_l (st_rd hf (Wn.none rfl) (rd_assign hf rfl rfl) hS rfl rfl ?_)
      clear hf; intro a hf
      refine done_l ?_
      refine t_normal ?_
      refine c_ret ?_
      refine e_res1 hf.defers rfl (res_tmp hf rfl .nil) ?_
      exact ⟨rfl, hS.sub (by repeat (first | exact Sub.refl | exact Sub.none | exact Sub.behind | (apply Sub.cons; (focus ((repeat (first | exact Sel.head | apply Sel.tail)); done))) | apply Sub.skip))⟩
      )

theorem AtOut_c (p n T : Nat) (cs : List Value) (i : Int) {W : World} {R : List HP} {w : World} (hS : Sat W (Blk p (.int .i64 (n : Nat) :: cs) T :: R) w) (hi : ¬ (0 ≤ i ∧ i < n)) : Calls Try.prog 14 [.pointer (some ⟨p, 0, none⟩), .int .i64 i].toArray w (Ret fun v w' => v = u32v 0#32 ∧ Sat W (Blk p (.int .i64 (n : Nat) :: cs) T :: R) w') := by
  refine fn_start 33 Try.func14 rfl rfl rfl ?_
  intro a hf
  refine c_seq ?_
  refine c_region ?_
  refine step_l (st_rd hf (Wn.none rfl) (rd_assign hf rfl rfl) hS rfl rfl ?_)
  clear hf; intro a hf
  refine done_l ?_
  refine t_normal ?_
  refine c_seq ?_
  refine c_seq ?_
  refine c_region ?_
  refine step_l (st_rd hf (Wn.none rfl) (rd_move hf rfl rfl) hS rfl rfl ?_)
  clear hf; intro a hf
  refine step_l (st_rdB hf (Wn.none rfl) (rd_lss hf rfl rfl rfl) hS rfl rfl ?_ ?_)
  · clear hf; intro hc1 a hf
    first
    | (first | exact absurd hc1 (by omega) | exact absurd (by omega) hc1; done)
    | (
      refine step_l (st_rd hf (Wn.none rfl) (rd_move hf rfl rfl) hS rfl rfl ?_)
      clear hf; intro a hf
      refine step_l (st_skip hf (Wn.some hf rfl rfl rfl rfl) rfl rfl ?_)
      clear hf; intro a hf
      refine step_l (st_skip hf (Wn.some hf rfl rfl rfl rfl) rfl rfl ?_)
      clear hf; intro a hf
      refine step_l (st_skip hf (Wn.some hf rfl rfl rfl rfl) rfl rfl ?_)
      clear hf; intro a hf
      refine step_l (st_skip hf (Wn.some hf rfl rfl rfl rfl) rfl rfl ?_)
      clear hf; intro a hf
      refine step_l (st_rd hf (Wn.none rfl) (rd_pick_t hf rfl rfl rfl) hS rfl rfl ?_)
      clear hf; intro a hf
      refine done_l ?_
      refine t_normal ?_
      refine c_true hf rfl ?_
      refine c_seq ?_
      refine c_region ?_
      refine step_l (st_rd hf (Wn.none rfl) (rd_assign hf rfl rfl) hS rfl rfl ?_)
      clear hf; intro a hf
      refine done_l ?_
      refine t_normal ?_
      refine c_ret ?_
      refine t_ret ?_
      refine e_res1 hf.defers rfl (res_tmp hf rfl .nil) ?_
      exact ⟨rfl, hS.sub (by repeat (first | exact Sub.refl | exact Sub.none | exact Sub.behind | (apply Sub.cons; (focus ((repeat (first | exact Sel.head | apply Sel.tail)); done))) | apply Sub.skip))⟩
      )
  · clear hf; intro hc1 a hf
    first
    | (first | exact absurd hc1 (by omega) | exact absurd (by omega) hc1; done)
    | (
      refine step_l (st_rd hf (Wn.none rfl) (rd_move hf rfl rfl) hS rfl rfl ?_)
      clear hf; intro a hf
      refine step_l (st_rd hf (Wn.some hf rfl rfl rfl rfl) (rd_move hf rfl rfl) hS rfl rfl ?_)
      clear hf; intro a hf
      refine step_l (st_rd hf (Wn.some hf rfl rfl rfl rfl) (rd_move hf rfl rfl) hS rfl rfl ?_)
      clear hf; intro a hf
      refine step_l (st_call hf (Wn.some hf rfl rfl rfl rfl) rfl rfl rfl fn13 (LLen_c _ _ _ _ (hS.sel (by repeat (first | exact Sel.head | apply Sel.tail)))) rfl rfl ?_)
      clear hf hS; rintro v a w ⟨rfl, hS⟩ hf
      refine step_l (st_rdB hf (Wn.some hf rfl rfl rfl rfl) (rd_geq hf rfl rfl rfl) hS rfl rfl ?_ ?_)
      · clear hf; intro hc2 a hf
        first
        | (first | exact absurd hc2 (by omega) | exact absurd (by omega) hc2; done)
        | (
          refine step_l (st_rd hf (Wn.none rfl) (rd_pick_f hf rfl rfl rfl) hS rfl rfl ?_)
          clear hf; intro a hf
          refine done_l ?_
          refine t_normal ?_
          refine c_true hf rfl ?_
          refine c_seq ?_
          refine c_region ?_
          refine step_l (st_rd hf (Wn.none rfl) (rd_assign hf rfl rfl) hS rfl rfl ?_)
          clear hf; intro a hf
          refine done_l ?_
          refine t_normal ?_
          refine c_ret ?_
          refine t_ret ?_
          refine e_res1 hf.defers rfl (res_tmp hf rfl .nil) ?_
          exact ⟨rfl, hS.sub (by repeat (first | exact Sub.refl | exact Sub.none | exact Sub.behind | (apply Sub.cons; (focus ((repeat (first | exact Sel.head | apply Sel.tail)); done))) | apply Sub.skip))⟩
          )
      · clear hf; intro hc2 a hf
        first
        | (first | exact absurd hc2 (by omega) | exact absurd (by omega) hc2; done)
        | (
          refine step_l (st_rd hf (Wn.none rfl) (rd_pick_f hf rfl rfl rfl) hS rfl rfl ?_)
          clear hf; intro a hf
          refine done_l ?_
          refine t_normal ?_
          refine c_false hf rfl ?_
          refine c_skip ?_
          refine t_normal ?_
          refine c_seq ?_
          refine c_region ?_
          refine step_l (st_rd hf (Wn.none rfl) (rd_move hf rfl rfl) hS rfl rfl ?_)
          clear hf; intro a hf
          refine step_l (st_rd hf (Wn.none rfl) (rd_nilCheck hf rfl rfl) hS rfl rfl ?_)
          clear hf; intro a hf
          refine step_l (st_rd hf (Wn.none rfl) (rd_fieldAddrB hf rfl rfl fb63_2 rfl) hS rfl rfl ?_)
          clear hf; intro a hf
          refine step_l (st_rd hf (Wn.none rfl) (rd_move hf rfl rfl) hS rfl rfl ?_)
          clear hf; intro a hf
          refine step_l (st_rd hf (Wn.none rfl) (rd_makeFunc hf rfl rfl rfl) hS rfl rfl ?_)
          clear hf; intro a hf
          refine step_l (st_call hf (Wn.none rfl) rfl rfl rfl fn29 hS rfl rfl ?_)
          clear hf hS; rintro v a w hS hf
          refine done_l ?_
          refine t_normal ?_
          refine c_seq ?_
          refine c_seq ?_
          refine c_region ?_
          refine step_l (st_rd hf (Wn.none rfl) (rd_move hf rfl rfl) hS rfl rfl ?_)
          clear hf; intro a hf
          refine step_l (st_rd hf (Wn.none rfl) (rd_move hf rfl rfl) hS rfl rfl ?_)
          clear hf; intro a hf
          refine step_l (st_rd hf (Wn.none rfl) (rd_nilCheck hf rfl rfl) hS rfl rfl ?_)
          clear hf; intro a hf
          refine step_l (st_rd hf (Wn.none rfl) (rd_fieldAddrB hf rfl rfl fb63_4 rfl) hS rfl rfl ?_)
          clear hf; intro a hf
          refine step_l (st_rd hf (Wn.none rfl) (rd_load1 hf rfl rfl ag40 (by intro _ h; first | exact h.cell (by repeat (first | exact Sel.head | apply Sel.tail)) (by rfl))) hS rfl rfl ?_)
          clear hf; intro a hf
          refine step_l (st_rd hf (Wn.none rfl) (rd_len hf rfl rfl Try.underlying40) hS rfl rfl ?_)
          clear hf; intro a hf
          refine step_l (st_rdB hf (Wn.none rfl) (rd_geq hf rfl rfl rfl) hS rfl rfl ?_ ?_)
          · clear hf; intro hc3 a hf
            first
            | (first | exact absurd hc3 (by omega) | exact absurd (by omega) hc3; done)
            | (
              refine done_l ?_
              refine t_normal ?_
              refine c_true hf rfl ?_
              refine c_seq ?_
              refine c_region ?_
              refine step_l (st_rd hf (Wn.none rfl) (rd_assign hf rfl rfl) hS rfl rfl ?_)
              clear hf; intro a hf
              refine done_l ?_
              refine t_normal ?_
              refine c_ret ?_
              refine t_ret ?_
              refine e_res1 hf.defers rfl (res_tmp hf rfl .nil) ?_
              exact ⟨rfl, hS.sub (by repeat (first | exact Sub.refl | exact Sub.none | exact Sub.behind | (apply Sub.cons; (focus ((repeat (first | exact Sel.head | apply Sel.tail)); done))) | apply Sub.skip))⟩
              )
          · clear hf; intro hc3 a hf
            first
            | (first | exact absurd hc3 (by omega) | exact absurd (by omega) hc3; done)
            | (
              refine done_l ?_
              refine t_normal ?_
              refine c_false hf rfl ?_
              refine c_skip ?_
              refine t_normal ?_
              refine c_seq ?_
              refine c_region ?_
              refine step_l (st_rd hf (Wn.none rfl) (rd_move hf rfl rfl) hS rfl rfl ?_)
              clear hf; intro a hf
              refine step_l (st_rd hf (Wn.none rfl) (rd_nilCheck hf rfl rfl) hS rfl rfl ?_)
              clear hf; intro a hf
              refine step_l (st_rd hf (Wn.none rfl) (rd_fieldAddrB hf rfl rfl fb63_4 rfl) hS rfl rfl ?_)
              clear hf; intro a hf
              refine step_l (st_rd hf (Wn.none rfl) (rd_load1 hf rfl rfl ag40 (by intro _ h; first | exact h.cell (by repeat (first | exact Sel.head | apply Sel.tail)) (by rfl))) hS rfl rfl ?_)
              clear hf; intro a hf
              refine step_l (st_rd hf (Wn.none rfl) (rd_move hf rfl rfl) hS rfl rfl ?_)
              clear hf; intro a hf
              refine step_l (st_rd hf (Wn.none rfl) ((by first | exact rd_indexAddrN1 hf rfl rfl rfl Try.underlying40 sz24 (by omega) | exact rd_indexAddr hf rfl rfl rfl Try.underlying40 sz24 (by first | decide | omega) (by omega))) hS rfl rfl ?_)
              clear hf; intro a hf
              refine step_l (st_rd hf (Wn.none rfl) (rd_load1 hf rfl rfl ag24 (by intro _ h; first | exact h.cell (by repeat (first | exact Sel.head | apply Sel.tail)) (by rfl))) hS rfl rfl ?_)
              clear hf; intro a hf
              refine step_l (st_rd hf (Wn.none rfl) (rd_assign hf rfl rfl) hS rfl rfl ?_)
              clear hf; intro a hf
              refine done_l ?_
              refine t_normal ?_
              refine c_ret ?_
              refine e_res1 hf.defers rfl (res_tmp hf rfl .nil) ?_
              exact ⟨rfl, hS.sub (by repeat (first | exact Sub.refl | exact Sub.none | exact Sub.behind | (apply Sub.cons; (focus ((repeat (first | exact Sel.head | apply Sel.tail)); done))) | apply Sub.skip))⟩
              )
          )
      )

theorem At0_c {σ : Type} (M : σ → HP) (f : σ → Nat → B32) (g : σ → Nat → σ) (s0 : σ) (p n fk : Nat) (us caps : List Value) (i : Nat) {W : World} {R : List HP} {w : World} (hS : Sat W (Blk p [.int .i64 (n : Nat), .func (.func fk) us.toArray caps.toArray, .int .u32 0, .int .i32 0, .int .u32 0, .int .i64 0, .slice none 0 0] 63 :: M s0 :: R) w) (hfb : fnB Try.prog fk = true) (hmk : ∀ (i : Nat) (l : List HP) (w : World), i < n → Sat W (M (mst g s0 i) :: l) w → (∀ w, Sat W l w → Sat W R w) → Calls Try.prog fk (us ++ [Value.int .i64 (i : Nat)] ++ caps).toArray w (Ret fun v w' => v = u32v (f (mst g s0 i) i) ∧ Sat W (M (mst g s0 (i + 1)) :: l) w')) (hn : n ≤ 4096) (hi : i < n) : Calls Try.prog 14 [.pointer (some ⟨p, 0, none⟩), .int .i64 (i : Nat)].toArray w (Ret fun v w' => v = u32v (f (mst g s0 i) i) ∧ ∃ q cap, Sat W (Blk p [.int .i64 (n : Nat), .func (.func fk) us.toArray caps.toArray, .int .u32 1, .int .i32 0, .int .u32 0, .int .i64 (n : Nat), .slice q n cap] 63 :: Rw 24 1 q n cap (u32s (tvals f g s0 n)) :: M (mst g s0 n) :: R) w') := by
  refine fn_start 33 Try.func14 rfl rfl rfl ?_
  intro a hf
  refine c_seq ?_
  refine c_region ?_
  refine step_l (st_rd hf (Wn.none rfl) (rd_assign hf rfl rfl) hS rfl rfl ?_)
  clear hf; intro a hf
  refine done_l ?_
  refine t_normal ?_
  refine c_seq ?_
  refine c_seq ?_
  refine c_region ?_
  refine step_l (st_rd hf (Wn.none rfl) (rd_move hf rfl rfl) hS rfl rfl ?_)
  clear hf; intro a hf
  refine step_l (st_rdB hf (Wn.none rfl) (rd_lss hf rfl rfl rfl) hS rfl rfl ?_ ?_)
  · clear hf; intro hc1 a hf
    first
    | (first | exact absurd hc1 (by omega) | exact absurd (by omega) hc1; done)
    | (
      refine step_l (st_rd hf (Wn.none rfl) (rd_move hf rfl rfl) hS rfl rfl ?_)
      clear hf; intro a hf
      refine step_l (st_skip hf (Wn.some hf rfl rfl rfl rfl) rfl rfl ?_)
      clear hf; intro a hf
      refine step_l (st_skip hf (Wn.some hf rfl rfl rfl rfl) rfl rfl ?_)
      clear hf; intro a hf
      refine step_l (st_skip hf (Wn.some hf rfl rfl rfl rfl) rfl rfl ?_)
      clear hf; intro a hf
      refine step_l (st_skip hf (Wn.some hf rfl rfl rfl rfl) rfl rfl ?_)
      clear hf; intro a hf
      refine step_l (st_rd hf (Wn.none rfl) (rd_pick_t hf rfl rfl rfl) hS rfl rfl ?_)
      clear hf; intro a hf
      refine done_l ?_
      refine t_normal ?_
      refine c_true hf rfl ?_
      refine c_seq ?_
      refine c_region ?_
      refine step_l (st_rd hf (Wn.none rfl) (rd_assign hf rfl rfl) hS rfl rfl ?_)
      clear hf; intro a hf
      refine done_l ?_
      refine t_normal ?_
      refine c_ret ?_
      refine t_ret ?_
      refine e_res1 hf.defers rfl (res_tmp hf rfl .nil) ?_
      exact ⟨rfl, _, cap, hS.sub (by repeat (first | exact Sub.refl | exact Sub.none | exact Sub.behind | (apply Sub.cons; (focus ((repeat (first | exact Sel.head | apply Sel.tail)); done))) | apply Sub.skip))⟩
      )
  · clear hf; intro hc1 a hf
    first
    | (first | exact absurd hc1 (by omega) | exact absurd (by omega) hc1; done)
    | (
      refine step_l (st_rd hf (Wn.none rfl) (rd_move hf rfl rfl) hS rfl rfl ?_)
      clear hf; intro a hf
      refine step_l (st_rd hf (Wn.some hf rfl rfl rfl rfl) (rd_move hf rfl rfl) hS rfl rfl ?_)
      clear hf; intro a hf
      refine step_l (st_rd hf (Wn.some hf rfl rfl rfl rfl) (rd_move hf rfl rfl) hS rfl rfl ?_)
      clear hf; intro a hf
      refine step_l (st_call hf (Wn.some hf rfl rfl rfl rfl) rfl rfl rfl fn13 (LLen_c _ _ _ _ (hS.sel (by repeat (first | exact Sel.head | apply Sel.tail)))) rfl rfl ?_)
      clear hf hS; rintro v a w ⟨rfl, hS⟩ hf
      refine step_l (st_rdB hf (Wn.some hf rfl rfl rfl rfl) (rd_geq hf rfl rfl rfl) hS rfl rfl ?_ ?_)
      · clear hf; intro hc2 a hf
        first
        | (first | exact absurd hc2 (by omega) | exact absurd (by omega) hc2; done)
        | (
          refine step_l (st_rd hf (Wn.none rfl) (rd_pick_f hf rfl rfl rfl) hS rfl rfl ?_)
          clear hf; intro a hf
          refine done_l ?_
          refine t_normal ?_
          refine c_true hf rfl ?_
          refine c_seq ?_
          refine c_region ?_
          refine step_l (st_rd hf (Wn.none rfl) (rd_assign hf rfl rfl) hS rfl rfl ?_)
          clear hf; intro a hf
          refine done_l ?_
          refine t_normal ?_
          refine c_ret ?_
          refine t_ret ?_
          refine e_res1 hf.defers rfl (res_tmp hf rfl .nil) ?_
          exact ⟨rfl, _, cap, hS.sub (by repeat (first | exact Sub.refl | exact Sub.none | exact Sub.behind | (apply Sub.cons; (focus ((repeat (first | exact Sel.head | apply Sel.tail)); done))) | apply Sub.skip))⟩
          )
      · clear hf; intro hc2 a hf
        first
        | (first | exact absurd hc2 (by omega) | exact absurd (by omega) hc2; done)
        | (
          refine step_l (st_rd hf (Wn.none rfl) (rd_pick_f hf rfl rfl rfl) hS rfl rfl ?_)
          clear hf; intro a hf
          refine done_l ?_
          refine t_normal ?_
          refine c_false hf rfl ?_
          refine c_skip ?_
          refine t_normal ?_
          refine c_seq ?_
          refine c_region ?_
          refine step_l (st_rd hf (Wn.none rfl) (rd_move hf rfl rfl) hS rfl rfl ?_)
          clear hf; intro a hf
          refine step_l (st_rd hf (Wn.none rfl) (rd_nilCheck hf rfl rfl) hS rfl rfl ?_)
          clear hf; intro a hf
          refine step_l (st_rd hf (Wn.none rfl) (rd_fieldAddrB hf rfl rfl fb63_2 rfl) hS rfl rfl ?_)
          clear hf; intro a hf
          refine step_l (st_rd hf (Wn.none rfl) (rd_move hf rfl rfl) hS rfl rfl ?_)
          clear hf; intro a hf
          refine step_l (st_rd hf (Wn.none rfl) (rd_makeFunc hf rfl rfl rfl) hS rfl rfl ?_)
          clear hf; intro a hf
          refine step_l (st_call hf (Wn.none rfl) rfl rfl rfl fn29 (doFirst_c M f g s0 p n fk us caps (hS.sels (.cons (by repeat (first | exact Sel.head | apply Sel.tail)) (.cons (by repeat (first | exact Sel.head | apply Sel.tail)) .nil))) hfb hmk hn) rfl rfl ?_)
          clear hf hS; rintro v a w ⟨rfl, ⟨q, cap, hS⟩⟩ hf; obtain ⟨adq, rfl⟩ := (hS.slOfRw (by repeat (first | exact Sel.head | apply Sel.tail)) : SlAt _ q n 1 _).some (by omega)
          refine done_l ?_
          refine t_normal ?_
          refine c_seq ?_
          refine c_seq ?_
          refine c_region ?_
          refine step_l (st_rd hf (Wn.none rfl) (rd_move hf rfl rfl) hS rfl rfl ?_)
          clear hf; intro a hf
          refine step_l (st_rd hf (Wn.none rfl) (rd_move hf rfl rfl) hS rfl rfl ?_)
          clear hf; intro a hf
          refine step_l (st_rd hf (Wn.none rfl) (rd_nilCheck hf rfl rfl) hS rfl rfl ?_)
          clear hf; intro a hf
          refine step_l (st_rd hf (Wn.none rfl) (rd_fieldAddrB hf rfl rfl fb63_4 rfl) hS rfl rfl ?_)
          clear hf; intro a hf
          refine step_l (st_rd hf (Wn.none rfl) (rd_load1 hf rfl rfl ag40 (by intro _ h; first | exact h.cell (by repeat (first | exact Sel.head | apply Sel.tail)) (by rfl))) hS rfl rfl ?_)
          clear hf; intro a hf
          refine step_l (st_rd hf (Wn.none rfl) (rd_len hf rfl rfl Try.underlying40) hS rfl rfl ?_)
          clear hf; intro a hf
          refine step_l (st_rdB hf (Wn.none rfl) (rd_geq hf rfl rfl rfl) hS rfl rfl ?_ ?_)
          · clear hf; intro hc3 a hf
            first
            | (first | exact absurd hc3 (by omega) | exact absurd (by omega) hc3; done)
            | (
              refine done_l ?_
              refine t_normal ?_
              refine c_true hf rfl ?_
              refine c_seq ?_
              refine c_region ?_
              refine step_l (st_rd hf (Wn.none rfl) (rd_assign hf rfl rfl) hS rfl rfl ?_)
              clear hf; intro a hf
              refine done_l ?_
              refine t_normal ?_
              refine c_ret ?_
              refine t_ret ?_
              refine e_res1 hf.defers rfl (res_tmp hf rfl .nil) ?_
              exact ⟨rfl, _, cap, hS.sub (by repeat (first | exact Sub.refl | exact Sub.none | exact Sub.behind | (apply Sub.cons; (focus ((repeat (first | exact Sel.head | apply Sel.tail)); done))) | apply Sub.skip))⟩
              )
          · clear hf; intro hc3 a hf
            first
            | (first | exact absurd hc3 (by omega) | exact absurd (by omega) hc3; done)
            | (
              refine done_l ?_
              refine t_normal ?_
              refine c_false hf rfl ?_
              refine c_skip ?_
              refine t_normal ?_
              refine c_seq ?_
              refine c_region ?_
              refine step_l (st_rd hf (Wn.none rfl) (rd_move hf rfl rfl) hS rfl rfl ?_)
              clear hf; intro a hf
              refine step_l (st_rd hf (Wn.none rfl) (rd_nilCheck hf rfl rfl) hS rfl rfl ?_)
              clear hf; intro a hf
              refine step_l (st_rd hf (Wn.none rfl) (rd_fieldAddrB hf rfl rfl fb63_4 rfl) hS rfl rfl ?_)
              clear hf; intro a hf
              refine step_l (st_rd hf (Wn.none rfl) (rd_load1 hf rfl rfl ag40 (by intro _ h; first | exact h.cell (by repeat (first | exact Sel.head | apply Sel.tail)) (by rfl))) hS rfl rfl ?_)
              clear hf; intro a hf
              refine step_l (st_rd hf (Wn.none rfl) (rd_move hf rfl rfl) hS rfl rfl ?_)
              clear hf; intro a hf
              refine step_l (st_rd hf (Wn.none rfl) ((by first | exact rd_indexAddrN1 hf rfl rfl rfl Try.underlying40 sz24 (by omega) | exact rd_indexAddr hf rfl rfl rfl Try.underlying40 sz24 (by first | decide | omega) (by omega))) hS rfl rfl ?_)
              clear hf; intro a hf
              refine step_l (st_rd hf (Wn.none rfl) (rd_load1 hf rfl rfl ag24 (by intro _ h; exact (h.slOfRw (by repeat (first | exact Sel.head | apply Sel.tail))).get (u32s_get (tvals_get f g s0 hi)))) hS rfl rfl ?_)
              clear hf; intro a hf
              refine step_l (st_rd hf (Wn.none rfl) (rd_assign hf rfl rfl) hS rfl rfl ?_)
              clear hf; intro a hf
              refine done_l ?_
              refine t_normal ?_
              refine c_ret ?_
              refine e_res1 hf.defers rfl (res_tmp hf rfl .nil) ?_
              exact ⟨rfl, _, cap, hS.sub (by repeat (first | exact Sub.refl | exact Sub.none | exact Sub.behind | (apply Sub.cons; (focus ((repeat (first | exact Sel.head | apply Sel.tail)); done))) | apply Sub.skip))⟩
              )
          )
      )

theorem At1_c (vals : List B32) (p n : Nat) (F : Value) (q : Option Addr) (cap i : Nat) (c : B32) {W : World} {R : List HP} {w : World} (hS : Sat W (Blk p [.int .i64 (n : Nat), F, .int .u32 1, .int .i32 0, .int .u32 0, .int .i64 (n : Nat), .slice q n cap] 63 :: Rw 24 1 q n cap (u32s vals) :: R) w) (hi : i < n) (hn : n ≤ 4096) (hc : vals[i]? = some c) : Calls Try.prog 14 [.pointer (some ⟨p, 0, none⟩), .int .i64 (i : Nat)].toArray w (Ret fun v w' => v = u32v c ∧ Sat W (Blk p [.int .i64 (n : Nat), F, .int .u32 1, .int .i32 0, .int .u32 0, .int .i64 (n : Nat), .slice q n cap] 63 :: Rw 24 1 q n cap (u32s vals) :: R) w') := by
  refine fn_start 33 Try.func14 rfl rfl rfl ?_
  intro a hf
  obtain ⟨adq, rfl⟩ := (hS.slOfRw (by repeat (first | exact Sel.head | apply Sel.tail)) : SlAt _ q n 1 _).some (by omega)
  refine c_seq ?_
  refine c_region ?_
  refine step_l (st_rd hf (Wn.none rfl) (rd_assign hf rfl rfl) hS rfl rfl ?_)
  clear hf; intro a hf
  refine done_l ?_
  refine t_normal ?_
  refine c_seq ?_
  refine c_seq ?_
  refine c_region ?_
  refine step_l (st_rd hf (Wn.none rfl) (rd_move hf rfl rfl) hS rfl rfl ?_)
  clear hf; intro a hf
  refine step_l (st_rdB hf (Wn.none rfl) (rd_lss hf rfl rfl rfl) hS rfl rfl ?_ ?_)
  · clear hf; intro hc1 a hf
    first
    | (first | exact absurd hc1 (by omega) | exact absurd (by omega) hc1; done)
    | (
      refine step_l (st_rd hf (Wn.none rfl) (rd_move hf rfl rfl) hS rfl rfl ?_)
      clear hf; intro a hf
      refine step_l (st_skip hf (Wn.some hf rfl rfl rfl rfl) rfl rfl ?_)
      clear hf; intro a hf
      refine step_l (st_skip hf (Wn.some hf rfl rfl rfl rfl) rfl rfl ?_)
      clear hf; intro a hf
      refine step_l (st_skip hf (Wn.some hf rfl rfl rfl rfl) rfl rfl ?_)
      clear hf; intro a hf
      refine step_l (st_skip hf (Wn.some hf rfl rfl rfl rfl) rfl rfl ?_)
      clear hf; intro a hf
      refine step_l (st_rd hf (Wn.none rfl) (rd_pick_t hf rfl rfl rfl) hS rfl rfl ?_)
      clear hf; intro a hf
      refine done_l ?_
      refine t_normal ?_
      refine c_true hf rfl ?_
      refine c_seq ?_
      refine c_region ?_
      refine step_l (st_rd hf (Wn.none rfl) (rd_assign hf rfl rfl) hS rfl rfl ?_)
      clear hf; intro a hf
      refine done_l ?_
      refine t_normal ?_
      refine c_ret ?_
      refine t_ret ?_
      refine e_res1 hf.defers rfl (res_tmp hf rfl .nil) ?_
      exact ⟨rfl, hS.sub (by repeat (first | exact Sub.refl | exact Sub.none | exact Sub.behind | (apply Sub.cons; (focus ((repeat (first | exact Sel.head | apply Sel.tail)); done))) | apply Sub.skip))⟩
      )
  · clear hf; intro hc1 a hf
    first
    | (first | exact absurd hc1 (by omega) | exact absurd (by omega) hc1; done)
    | (
      refine step_l (st_rd hf (Wn.none rfl) (rd_move hf rfl rfl) hS rfl rfl ?_)
      clear hf; intro a hf
      refine step_l (st_rd hf (Wn.some hf rfl rfl rfl rfl) (rd_move hf rfl rfl) hS rfl rfl ?_)
      clear hf; intro a hf
      refine step_l (st_rd hf (Wn.some hf rfl rfl rfl rfl) (rd_move hf rfl rfl) hS rfl rfl ?_)
      clear hf; intro a hf
      refine step_l (st_call hf (Wn.some hf rfl rfl rfl rfl) rfl rfl rfl fn13 (LLen_c _ _ _ _ (hS.sel (by repeat (first | exact Sel.head | apply Sel.tail)))) rfl rfl ?_)
      clear hf hS; rintro v a w ⟨rfl, hS⟩ hf
      refine step_l (st_rdB hf (Wn.some hf rfl rfl rfl rfl) (rd_geq hf rfl rfl rfl) hS rfl rfl ?_ ?_)
      · clear hf; intro hc2 a hf
        first
        | (first | exact absurd hc2 (by omega) | exact absurd (by omega) hc2; done)
        | (
          refine step_l (st_rd hf (Wn.none rfl) (rd_pick_f hf rfl rfl rfl) hS rfl rfl ?_)
          clear hf; intro a hf
          refine done_l ?_
          refine t_normal ?_
          refine c_true hf rfl ?_
          refine c_seq ?_
          refine c_region ?_
          refine step_l (st_rd hf (Wn.none rfl) (rd_assign hf rfl rfl) hS rfl rfl ?_)
          clear hf; intro a hf
          refine done_l ?_
          refine t_normal ?_
          refine c_ret ?_
          refine t_ret ?_
          refine e_res1 hf.defers rfl (res_tmp hf rfl .nil) ?_
          exact ⟨rfl, hS.sub (by repeat (first | exact Sub.refl | exact Sub.none | exact Sub.behind | (apply Sub.cons; (focus ((repeat (first | exact Sel.head | apply Sel.tail)); done))) | apply Sub.skip))⟩
          )
      · clear hf; intro hc2 a hf
        first
        | (first | exact absurd hc2 (by omega) | exact absurd (by omega) hc2; done)
        | (
          refine step_l (st_rd hf (Wn.none rfl) (rd_pick_f hf rfl rfl rfl) hS rfl rfl ?_)
          clear hf; intro a hf
          refine done_l ?_
          refine t_normal ?_
          refine c_false hf rfl ?_
          refine c_skip ?_
          refine t_normal ?_
          refine c_seq ?_
          refine c_region ?_
          refine step_l (st_rd hf (Wn.none rfl) (rd_move hf rfl rfl) hS rfl rfl ?_)
          clear hf; intro a hf
          refine step_l (st_rd hf (Wn.none rfl) (rd_nilCheck hf rfl rfl) hS rfl rfl ?_)
          clear hf; intro a hf
          refine step_l (st_rd hf (Wn.none rfl) (rd_fieldAddrB hf rfl rfl fb63_2 rfl) hS rfl rfl ?_)
          clear hf; intro a hf
          refine step_l (st_rd hf (Wn.none rfl) (rd_move hf rfl rfl) hS rfl rfl ?_)
          clear hf; intro a hf
          refine step_l (st_rd hf (Wn.none rfl) (rd_makeFunc hf rfl rfl rfl) hS rfl rfl ?_)
          clear hf; intro a hf
          refine step_l (st_call hf (Wn.none rfl) rfl rfl rfl fn29 (doDone_c _ _ _ _ _ 1 (hS.sel (by repeat (first | exact Sel.head | apply Sel.tail))) rfl (by decide)) rfl rfl ?_)
          clear hf hS; rintro v a w ⟨rfl, hS⟩ hf
          refine done_l ?_
          refine t_normal ?_
          refine c_seq ?_
          refine c_seq ?_
          refine c_region ?_
          refine step_l (st_rd hf (Wn.none rfl) (rd_move hf rfl rfl) hS rfl rfl ?_)
          clear hf; intro a hf
          refine step_l (st_rd hf (Wn.none rfl) (rd_move hf rfl rfl) hS rfl rfl ?_)
          clear hf; intro a hf
          refine step_l (st_rd hf (Wn.none rfl) (rd_nilCheck hf rfl rfl) hS rfl rfl ?_)
          clear hf; intro a hf
          refine step_l (st_rd hf (Wn.none rfl) (rd_fieldAddrB hf rfl rfl fb63_4 rfl) hS rfl rfl ?_)
          clear hf; intro a hf
          refine step_l (st_rd hf (Wn.none rfl) (rd_load1 hf rfl rfl ag40 (by intro _ h; first | exact h.cell (by repeat (first | exact Sel.head | apply Sel.tail)) (by rfl))) hS rfl rfl ?_)
          clear hf; intro a hf
          refine step_l (st_rd hf (Wn.none rfl) (rd_len hf rfl rfl Try.underlying40) hS rfl rfl ?_)
          clear hf; intro a hf
          refine step_l (st_rdB hf (Wn.none rfl) (rd_geq hf rfl rfl rfl) hS rfl rfl ?_ ?_)
          · clear hf; intro hc3 a hf
            first
            | (first | exact absurd hc3 (by omega) | exact absurd (by omega) hc3; done)
            | (
              refine done_l ?_
              refine t_normal ?_
              refine c_true hf rfl ?_
              refine c_seq ?_
              refine c_region ?_
              refine step_l (st_rd hf (Wn.none rfl) (rd_assign hf rfl rfl) hS rfl rfl ?_)
              clear hf; intro a hf
              refine done_l ?_
              refine t_normal ?_
              refine c_ret ?_
              refine t_ret ?_
              refine e_res1 hf.defers rfl (res_tmp hf rfl .nil) ?_
              exact ⟨rfl, hS.sub (by repeat (first | exact Sub.refl | exact Sub.none | exact Sub.behind | (apply Sub.cons; (focus ((repeat (first | exact Sel.head | apply Sel.tail)); done))) | apply Sub.skip))⟩
              )
          · clear hf; intro hc3 a hf
            first
            | (first | exact absurd hc3 (by omega) | exact absurd (by omega) hc3; done)
            | (
              refine done_l ?_
              refine t_normal ?_
              refine c_false hf rfl ?_
              refine c_skip ?_
              refine t_normal ?_
              refine c_seq ?_
              refine c_region ?_
              refine step_l (st_rd hf (Wn.none rfl) (rd_move hf rfl rfl) hS rfl rfl ?_)
              clear hf; intro a hf
              refine step_l (st_rd hf (Wn.none rfl) (rd_nilCheck hf rfl rfl) hS rfl rfl ?_)
              clear hf; intro a hf
              refine step_l (st_rd hf (Wn.none rfl) (rd_fieldAddrB hf rfl rfl fb63_4 rfl) hS rfl rfl ?_)
              clear hf; intro a hf
              refine step_l (st_rd hf (Wn.none rfl) (rd_load1 hf rfl rfl ag40 (by intro _ h; first | exact h.cell (by repeat (first | exact Sel.head | apply Sel.tail)) (by rfl))) hS rfl rfl ?_)
              clear hf; intro a hf
              refine step_l (st_rd hf (Wn.none rfl) (rd_move hf rfl rfl) hS rfl rfl ?_)
              clear hf; intro a hf
              refine step_l (st_rd hf (Wn.none rfl) ((by first | exact rd_indexAddrN1 hf rfl rfl rfl Try.underlying40 sz24 (by omega) | exact rd_indexAddr hf rfl rfl rfl Try.underlying40 sz24 (by first | decide | omega) (by omega))) hS rfl rfl ?_)
              clear hf; intro a hf
              refine step_l (st_rd hf (Wn.none rfl) (rd_load1 hf rfl rfl ag24 (by intro _ h; exact (h.slOfRw (by repeat (first | exact Sel.head | apply Sel.tail))).get (u32s_get hc))) hS rfl rfl ?_)
              clear hf; intro a hf
              refine step_l (st_rd hf (Wn.none rfl) (rd_assign hf rfl rfl) hS rfl rfl ?_)
              clear hf; intro a hf
              refine done_l ?_
              refine t_normal ?_
              refine c_ret ?_
              refine e_res1 hf.defers rfl (res_tmp hf rfl .nil) ?_
              exact ⟨rfl, hS.sub (by repeat (first | exact Sub.refl | exact Sub.none | exact Sub.behind | (apply Sub.cons; (focus ((repeat (first | exact Sel.head | apply Sel.tail)); done))) | apply Sub.skip))⟩
              )
          )
      )

theorem At_c {σ : Type} (M : σ → HP) (f : σ → Nat → B32) (g : σ → Nat → σ) (s0 : σ) (p n fk : Nat) (us caps : List Value) (i : Int) (d : Bool) {W : World} {R : List HP} {w : World} (hS : Sat W (TbP 63 24 p n (.func (.func fk) us.toArray caps.toArray) (tvals f g s0 n) d :: M (if d = true then mst g s0 n else s0) :: R) w) (hfb : fnB Try.prog fk = true) (hmk : ∀ (i : Nat) (l : List HP) (w : World), i < n → Sat W (M (mst g s0 i) :: l) w → (∀ w, Sat W l w → Sat W R w) → Calls Try.prog fk (us ++ [Value.int .i64 (i : Nat)] ++ caps).toArray w (Ret fun v w' => v = u32v (f (mst g s0 i) i) ∧ Sat W (M (mst g s0 (i + 1)) :: l) w')) (hn : n ≤ 4096) :
    Calls Try.prog 14 [.pointer (some ⟨p, 0, none⟩), .int .i64 i].toArray w (Ret fun v w' => v = u32v (tAt n (tvals f g s0 n) i) ∧ Sat W (TbP 63 24 p n (.func (.func fk) us.toArray caps.toArray) (tvals f g s0 n) (d || decide (inT n i)) :: M (if (d || decide (inT n i)) = true then mst g s0 n else s0) :: R) w') := by
  by_cases hi : inT n i
  · obtain ⟨j, rfl⟩ : ∃ j : Nat, i = j := ⟨i.toNat, by unfold inT at hi; omega⟩
    have hj : j < n := by unfold inT at hi; omega
    have hv : tAt n (tvals f g s0 n) (j : Int) = f (mst g s0 j) j := by unfold tAt; rw [if_pos hi, Int.toNat_natCast, List.getD_eq_getElem?_getD, tvals_get f g s0 hj]; rfl
    rw [decide_eq_true hi, Bool.or_true, hv]
    cases d with
    | false =>
      rw [tb_f] at hS
      refine (At0_c M f g s0 p n fk us caps j hS hfb hmk hn hj).mono fun e w' he => ?_
      cases e with
      | returned v => obtain ⟨h1, q, cap, h2⟩ := he; exact ⟨h1, tb_shut h2⟩
      | panicked c => exact he.elim
      | outgrown => exact he.elim
    | true =>
      obtain ⟨q, cap, hS⟩ := tb_open hS
      refine (At1_c (tvals f g s0 n) p n _ q cap j _ hS hj hn (tvals_get f g s0 hj)).mono fun e w' he => ?_
      cases e with
      | returned v => obtain ⟨h1, h2⟩ := he; exact ⟨h1, tb_shut h2⟩
      | panicked c => exact he.elim
      | outgrown => exact he.elim
  · rw [decide_eq_false hi, Bool.or_false, show tAt n (tvals f g s0 n) i = 0#32 from if_neg hi]
    cases d with
    | false =>
      rw [tb_f] at hS ⊢
      exact AtOut_c p n _ _ i hS hi
    | true =>
      obtain ⟨q, cap, hS⟩ := tb_open hS
      refine (AtOut_c p n _ _ i hS hi).mono fun e w' he => ?_
      cases e with
      | returned v => obtain ⟨h1, h2⟩ := he; exact ⟨h1, tb_shut h2⟩
      | panicked c => exact he.elim
      | outgrown => exact he.elim
theorem Len_c (p n : Nat) (F : Value) (vals : List B32) (d : Bool) {W : World} {R : List HP} {w : World} (hS : Sat W (TbP 63 24 p n F vals d :: R) w) : Calls Try.prog 13 [.pointer (some ⟨p, 0, none⟩)].toArray w (Ret fun v w' => v = .int .i64 (n : Nat) ∧ Sat W (TbP 63 24 p n F vals d :: R) w') := by
  cases d with
  | false => rw [tb_f] at hS ⊢; exact LLen_c p n _ _ hS
  | true =>
    obtain ⟨q, cap, hS⟩ := tb_open hS
    refine (LLen_c p n _ _ hS).mono fun e w' he => ?_
    cases e with
    | returned v => obtain ⟨h1, h2⟩ := he; exact ⟨h1, tb_shut h2⟩
    | panicked c => exact he.elim
    | outgrown => exact he.elim

theorem Made_c (p n : Nat) (F : Value) (vals : List B32) (d : Bool) {W : World} {R : List HP} {w : World} (hS : Sat W (TbP 63 24 p n F vals d :: R) w) : Calls Try.prog 18 [.pointer (some ⟨p, 0, none⟩)].toArray w (Ret fun v w' => v = .int .i64 ((if d = true then n else 0 : Nat) : Int) ∧ Sat W (TbP 63 24 p n F vals d :: R) w') := by
  cases d with
  | false => rw [tb_f] at hS ⊢; exact LMade_c p 63 _ 0 hS rfl
  | true =>
    obtain ⟨q, cap, hS⟩ := tb_open hS
    refine (LMade_c p 63 _ (n : Nat) hS rfl).mono fun e w' he => ?_
    cases e with
    | returned v => obtain ⟨h1, h2⟩ := he; exact ⟨h1, tb_shut h2⟩
    | panicked c => exact he.elim
    | outgrown => exact he.elim

theorem LNMade_c  {W : World} {R : List HP} {w : World} (hS : Sat W (R) w)  : Calls Try.prog 18 [.pointer none].toArray w (Ret fun v w' => v = .int .i64 0 ∧ Sat W R w') := by
  refine fn_start 9 Try.func18 rfl rfl rfl ?_
  intro a hf
  refine c_seq ?_
  refine c_region ?_
  refine step_l (st_rd hf (Wn.none rfl) (rd_assign hf rfl rfl) hS rfl rfl ?_)
  clear hf; intro a hf
  refine done_l ?_
  refine t_normal ?_
  refine c_seq ?_
  refine c_seq ?_
  refine c_region ?_
  refine step_l (st_rd hf (Wn.none rfl) (rd_move hf rfl rfl) hS rfl rfl ?_)
  clear hf; intro a hf
  refine step_l (st_rdb hf (Wn.none rfl) (rd_eqlNilP hf rfl rfl rfl Try.underlying22) hS rfl rfl ?_ ?_)
  · clear hf; intro hc1 a hf
    first
    | (first | exact Bool.noConfusion hc1 | exact absurd rfl hc1 | exact absurd hc1 (by omega) | exact absurd (by omega) hc1; done)
    | (
      refine done_l ?_
      refine t_normal ?_
      refine c_true hf rfl ?_
      refine c_seq ?_
      refine c_region ?_
      refine step_l (st_rd hf (Wn.none rfl) (rd_assign hf rfl rfl) hS rfl rfl ?_)
      clear hf; intro a hf
      refine done_l ?_
      refine t_normal ?_
      refine c_ret ?_
      refine t_ret ?_
      refine e_res1 hf.defers rfl (res_tmp hf rfl .nil) ?_
      exact ⟨rfl, hS.sub (by repeat (first | exact Sub.refl | exact Sub.none | exact Sub.behind | (apply Sub.cons; (focus ((repeat (first | exact Sel.head | apply Sel.tail)); done))) | apply Sub.skip))⟩
      )
  · clear hf; intro hc1 a hf
    first
    | (first | exact Bool.noConfusion hc1 | exact absurd rfl hc1 | exact absurd hc1 (by omega) | exact absurd (by omega) hc1; done)
    | (
      refine done_l ?_
      refine t_normal ?_
      refine c_false hf rfl ?_
      refine c_skip ?_
      refine t_normal ?_
      refine c_seq ?_
      refine c_region ?_
      refine step_l (st_rd hf (Wn.none rfl) (rd_move hf rfl rfl) hS rfl rfl ?_)
      clear hf; intro a hf
      refine step_l (st_rd hf (Wn.none rfl) (rd_nilCheck hf rfl rfl) hS rfl rfl ?_)
      clear hf; intro a hf
      refine step_l (st_rd hf (Wn.none rfl) (rd_fieldAddrB hf rfl rfl fb63_3 rfl) hS rfl rfl ?_)
      clear hf; intro a hf
      refine step_l (st_call hf (Wn.none rfl) rfl rfl rfl fn31 (AILoad_c _ _ _ _ _ (hS.sel (by repeat (first | exact Sel.head | apply Sel.tail))) (by rfl)) rfl rfl ?_)
      clear hf hS; rintro v a w ⟨rfl, hS⟩ hf
      refine step_l (st_rd hf (Wn.none rfl) (rd_assign hf rfl rfl) hS rfl rfl ?_)
      clear hf; intro a hf
      refine done_l ?_
      refine t_normal ?_
      refine c_ret ?_
      refine e_res1 hf.defers rfl (res_tmp hf rfl .nil) ?_
      exact ⟨rfl, hS.sub (by repeat (first | exact Sub.refl | exact Sub.none | exact Sub.behind | (apply Sub.cons; (focus ((repeat (first | exact Sel.head | apply Sel.tail)); done))) | apply Sub.skip))⟩
      )

theorem LNLen_c  {W : World} {R : List HP} {w : World} (hS : Sat W (R) w)  : Calls Try.prog 13 [.pointer none].toArray w (Ret fun v w' => v = .int .i64 0 ∧ Sat W R w') := by
  refine fn_start 9 Try.func13 rfl rfl rfl ?_
  intro a hf
  refine c_seq ?_
  refine c_region ?_
  refine step_l (st_rd hf (Wn.none rfl) (rd_assign hf rfl rfl) hS rfl rfl ?_)
  clear hf; intro a hf
  refine done_l ?_
  refine t_normal ?_
  refine c_seq ?_
  refine c_seq ?_
  refine c_region ?_
  refine step_l (st_rd hf (Wn.none rfl) (rd_move hf rfl rfl) hS rfl rfl ?_)
  clear hf; intro a hf
  refine step_l (st_rdb hf (Wn.none rfl) (rd_eqlNilP hf rfl rfl rfl Try.underlying22) hS rfl rfl ?_ ?_)
  · clear hf; intro hc1 a hf
    first
    | (first | exact Bool.noConfusion hc1 | exact absurd rfl hc1 | exact absurd hc1 (by omega) | exact absurd (by omega) hc1; done)
    | (
      refine done_l ?_
      refine t_normal ?_
      refine c_true hf rfl ?_
      refine c_seq ?_
      refine c_region ?_
      refine step_l (st_rd hf (Wn.none rfl) (rd_assign hf rfl rfl) hS rfl rfl ?_)
      clear hf; intro a hf
      refine done_l ?_
      refine t_normal ?_
      refine c_ret ?_
      refine t_ret ?_
      refine e_res1 hf.defers rfl (res_tmp hf rfl .nil) ?_
      exact ⟨rfl, hS.sub (by repeat (first | exact Sub.refl | exact Sub.none | exact Sub.behind | (apply Sub.cons; (focus ((repeat (first | exact Sel.head | apply Sel.tail)); done))) | apply Sub.skip))⟩
      )
  · clear hf; intro hc1 a hf
    first
    | (first | exact Bool.noConfusion hc1 | exact absurd rfl hc1 | exact absurd hc1 (by omega) | exact absurd (by omega) hc1; done)
    | (
      refine done_l ?_
      refine t_normal ?_
      refine c_false hf rfl ?_
      refine c_skip ?_
      refine t_normal ?_
      refine c_seq ?_
      refine c_region ?_
      refine step_l (st_rd hf (Wn.none rfl) (rd_move hf rfl rfl) hS rfl rfl ?_)
      clear hf; intro a hf
      refine step_l (st_rd hf (Wn.none rfl) (rd_nilCheck hf rfl rfl) hS rfl rfl ?_)
      clear hf; intro a hf
      refine step_l (st_rd hf (Wn.none rfl) (rd_fieldAddrB hf rfl rfl fb63_0 rfl) hS rfl rfl ?_)
      clear hf; intro a hf
      refine step_l (st_rd hf (Wn.none rfl) (rd_load1 hf rfl rfl ag3 (by intro _ h; first | exact h.cell (by repeat (first | exact Sel.head | apply Sel.tail)) (by rfl))) hS rfl rfl ?_)
      clear hf; intro a hf
      refine step_l (st_rd hf (Wn.none rfl) (rd_assign hf rfl rfl) hS rfl rfl ?_)
      clear hf; intro a hf
      refine done_l ?_
      refine t_normal ?_
      refine c_ret ?_
      refine e_res1 hf.defers rfl (res_tmp hf rfl .nil) ?_
      exact ⟨rfl, hS.sub (by repeat (first | exact Sub.refl | exact Sub.none | exact Sub.behind | (apply Sub.cons; (focus ((repeat (first | exact Sel.head | apply Sel.tail)); done))) | apply Sub.skip))⟩
      )

theorem LNAt_c (i : Int) {W : World} {R : List HP} {w : World} (hS : Sat W (R) w)  : Calls Try.prog 14 [.pointer none, .int .i64 i].toArray w (Ret fun v w' => v = u32v 0#32 ∧ Sat W R w') := by
  refine fn_start 33 Try.func14 rfl rfl rfl ?_
  intro a hf
  refine c_seq ?_
  refine c_region ?_
  refine step_l (st_rd hf (Wn.none rfl) (rd_assign hf rfl rfl) hS rfl rfl ?_)
  clear hf; intro a hf
  refine done_l ?_
  refine t_normal ?_
  refine c_seq ?_
  refine c_seq ?_
  refine c_region ?_
  refine step_l (st_rd hf (Wn.none rfl) (rd_move hf rfl rfl) hS rfl rfl ?_)
  clear hf; intro a hf
  refine step_l (st_rdB hf (Wn.none rfl) (rd_lss hf rfl rfl rfl) hS rfl rfl ?_ ?_)
  · clear hf; intro hc1 a hf
    first
    | (first | exact Bool.noConfusion hc1 | exact absurd rfl hc1 | exact absurd hc1 (by omega) | exact absurd (by omega) hc1; done)
    | (
      refine step_l (st_rd hf (Wn.none rfl) (rd_move hf rfl rfl) hS rfl rfl ?_)
      clear hf; intro a hf
      refine step_l (st_skip hf (Wn.some hf rfl rfl rfl rfl) rfl rfl ?_)
      clear hf; intro a hf
      refine step_l (st_skip hf (Wn.some hf rfl rfl rfl rfl) rfl rfl ?_)
      clear hf; intro a hf
      refine step_l (st_skip hf (Wn.some hf rfl rfl rfl rfl) rfl rfl ?_)
      clear hf; intro a hf
      refine step_l (st_skip hf (Wn.some hf rfl rfl rfl rfl) rfl rfl ?_)
      clear hf; intro a hf
      refine step_l (st_rd hf (Wn.none rfl) (rd_pick_t hf rfl rfl rfl) hS rfl rfl ?_)
      clear hf; intro a hf
      refine done_l ?_
      refine t_normal ?_
      refine c_true hf rfl ?_
      refine c_seq ?_
      refine c_region ?_
      refine step_l (st_rd hf (Wn.none rfl) (rd_assign hf rfl rfl) hS rfl rfl ?_)
      clear hf; intro a hf
      refine done_l ?_
      refine t_normal ?_
      refine c_ret ?_
      refine t_ret ?_
      refine e_res1 hf.defers rfl (res_tmp hf rfl .nil) ?_
      exact ⟨rfl, hS.sub (by repeat (first | exact Sub.refl | exact Sub.none | exact Sub.behind | (apply Sub.cons; (focus ((repeat (first | exact Sel.head | apply Sel.tail)); done))) | apply Sub.skip))⟩
      )
  · clear hf; intro hc1 a hf
    first
    | (first | exact Bool.noConfusion hc1 | exact absurd rfl hc1 | exact absurd hc1 (by omega) | exact absurd (by omega) hc1; done)
    | (
      refine step_l (st_rd hf (Wn.none rfl) (rd_move hf rfl rfl) hS rfl rfl ?_)
      clear hf; intro a hf
      refine step_l (st_rd hf (Wn.some hf rfl rfl rfl rfl) (rd_move hf rfl rfl) hS rfl rfl ?_)
      clear hf; intro a hf
      refine step_l (st_rd hf (Wn.some hf rfl rfl rfl rfl) (rd_move hf rfl rfl) hS rfl rfl ?_)
      clear hf; intro a hf
      refine step_l (st_call hf (Wn.some hf rfl rfl rfl rfl) rfl rfl rfl fn13 (LNLen_c hS) rfl rfl ?_)
      clear hf hS; rintro v a w ⟨rfl, hS⟩ hf
      refine step_l (st_rdB hf (Wn.some hf rfl rfl rfl rfl) (rd_geq hf rfl rfl rfl) hS rfl rfl ?_ ?_)
      · clear hf; intro hc2 a hf
        first
        | (first | exact Bool.noConfusion hc2 | exact absurd rfl hc2 | exact absurd hc2 (by omega) | exact absurd (by omega) hc2; done)
        | (
          refine step_l (st_rd hf (Wn.none rfl) (rd_pick_f hf rfl rfl rfl) hS rfl rfl ?_)
          clear hf; intro a hf
          refine done_l ?_
          refine t_normal ?_
          refine c_true hf rfl ?_
          refine c_seq ?_
          refine c_region ?_
          refine step_l (st_rd hf (Wn.none rfl) (rd_assign hf rfl rfl) hS rfl rfl ?_)
          clear hf; intro a hf
          refine done_l ?_
          refine t_normal ?_
          refine c_ret ?_
          refine t_ret ?_
          refine e_res1 hf.defers rfl (res_tmp hf rfl .nil) ?_
          exact ⟨rfl, hS.sub (by repeat (first | exact Sub.refl | exact Sub.none | exact Sub.behind | (apply Sub.cons; (focus ((repeat (first | exact Sel.head | apply Sel.tail)); done))) | apply Sub.skip))⟩
          )
      · clear hf; intro hc2 a hf
        first
        | (first | exact Bool.noConfusion hc2 | exact absurd rfl hc2 | exact absurd hc2 (by omega) | exact absurd (by omega) hc2; done)
        | (
          refine step_l (st_rd hf (Wn.none rfl) (rd_pick_f hf rfl rfl rfl) hS rfl rfl ?_)
          clear hf; intro a hf
          refine done_l ?_
          refine t_normal ?_
          refine c_false hf rfl ?_
          refine c_skip ?_
          refine t_normal ?_
          refine c_seq ?_
          refine c_region ?_
          refine step_l (st_rd hf (Wn.none rfl) (rd_move hf rfl rfl) hS rfl rfl ?_)
          clear hf; intro a hf
          refine step_l (st_rd hf (Wn.none rfl) (rd_nilCheck hf rfl rfl) hS rfl rfl ?_)
          clear hf; intro a hf
          refine step_l (st_rd hf (Wn.none rfl) (rd_fieldAddrB hf rfl rfl fb63_2 rfl) hS rfl rfl ?_)
          clear hf; intro a hf
          refine step_l (st_rd hf (Wn.none rfl) (rd_move hf rfl rfl) hS rfl rfl ?_)
          clear hf; intro a hf
          refine step_l (st_rd hf (Wn.none rfl) (rd_makeFunc hf rfl rfl rfl) hS rfl rfl ?_)
          clear hf; intro a hf
          refine step_l (st_call hf (Wn.none rfl) rfl rfl rfl fn29 hS rfl rfl ?_)
          clear hf hS; rintro v a w hS hf
          refine done_l ?_
          refine t_normal ?_
          refine c_seq ?_
          refine c_seq ?_
          refine c_region ?_
          refine step_l (st_rd hf (Wn.none rfl) (rd_move hf rfl rfl) hS rfl rfl ?_)
          clear hf; intro a hf
          refine step_l (st_rd hf (Wn.none rfl) (rd_move hf rfl rfl) hS rfl rfl ?_)
          clear hf; intro a hf
          refine step_l (st_rd hf (Wn.none rfl) (rd_nilCheck hf rfl rfl) hS rfl rfl ?_)
          clear hf; intro a hf
          refine step_l (st_rd hf (Wn.none rfl) (rd_fieldAddrB hf rfl rfl fb63_4 rfl) hS rfl rfl ?_)
          clear hf; intro a hf
          refine step_l (st_rd hf (Wn.none rfl) (rd_load1 hf rfl rfl ag40 (by intro _ h; first | exact h.cell (by repeat (first | exact Sel.head | apply Sel.tail)) (by rfl))) hS rfl rfl ?_)
          clear hf; intro a hf
          refine step_l (st_rd hf (Wn.none rfl) (rd_len hf rfl rfl Try.underlying40) hS rfl rfl ?_)
          clear hf; intro a hf
          refine step_l (st_rdB hf (Wn.none rfl) (rd_geq hf rfl rfl rfl) hS rfl rfl ?_ ?_)
          · clear hf; intro hc3 a hf
            first
            | (first | exact Bool.noConfusion hc3 | exact absurd rfl hc3 | exact absurd hc3 (by omega) | exact absurd (by omega) hc3; done)
            | (
              refine done_l ?_
              refine t_normal ?_
              refine c_true hf rfl ?_
              refine c_seq ?_
              refine c_region ?_
              refine step_l (st_rd hf (Wn.none rfl) (rd_assign hf rfl rfl) hS rfl rfl ?_)
              clear hf; intro a hf
              refine done_l ?_
              refine t_normal ?_
              refine c_ret ?_
              refine t_ret ?_
              refine e_res1 hf.defers rfl (res_tmp hf rfl .nil) ?_
              exact ⟨rfl, hS.sub (by repeat (first | exact Sub.refl | exact Sub.none | exact Sub.behind | (apply Sub.cons; (focus ((repeat (first | exact Sel.head | apply Sel.tail)); done))) | apply Sub.skip))⟩
              )
          · clear hf; intro hc3 a hf
            first
            | (first | exact Bool.noConfusion hc3 | exact absurd rfl hc3 | exact absurd hc3 (by omega) | exact absurd (by omega) hc3; done)
            | (
              refine done_l ?_
              refine t_normal ?_
              refine c_false hf rfl ?_
              refine c_skip ?_
              refine t_normal ?_
              refine c_seq ?_
              refine c_region ?_
              refine step_l (st_rd hf (Wn.none rfl) (rd_move hf rfl rfl) hS rfl rfl ?_)
              clear hf; intro a hf
              refine step_l (st_rd hf (Wn.none rfl) (rd_nilCheck hf rfl rfl) hS rfl rfl ?_)
              clear hf; intro a hf
              refine step_l (st_rd hf (Wn.none rfl) (rd_fieldAddrB hf rfl rfl fb63_4 rfl) hS rfl rfl ?_)
              clear hf; intro a hf
              refine step_l (st_rd hf (Wn.none rfl) (rd_load1 hf rfl rfl ag40 (by intro _ h; first | exact h.cell (by repeat (first | exact Sel.head | apply Sel.tail)) (by rfl))) hS rfl rfl ?_)
              clear hf; intro a hf
              refine step_l (st_rd hf (Wn.none rfl) (rd_move hf rfl rfl) hS rfl rfl ?_)
              clear hf; intro a hf
              refine step_l (st_rd hf (Wn.none rfl) ((by first | exact rd_indexAddrN1 hf rfl rfl rfl Try.underlying40 sz24 (by omega) | exact rd_indexAddr hf rfl rfl rfl Try.underlying40 sz24 (by first | decide | omega) (by omega))) hS rfl rfl ?_)
              clear hf; intro a hf
              refine step_l (st_rd hf (Wn.none rfl) (rd_load1 hf rfl rfl ag24 (by intro _ h; first | exact h.cell (by repeat (first | exact Sel.head | apply Sel.tail)) (by rfl))) hS rfl rfl ?_)
              clear hf; intro a hf
              refine step_l (st_rd hf (Wn.none rfl) (rd_assign hf rfl rfl) hS rfl rfl ?_)
              clear hf; intro a hf
              refine done_l ?_
              refine t_normal ?_
              refine c_ret ?_
              refine e_res1 hf.defers rfl (res_tmp hf rfl .nil) ?_
              exact ⟨rfl, hS.sub (by repeat (first | exact Sub.refl | exact Sub.none | exact Sub.behind | (apply Sub.cons; (focus ((repeat (first | exact Sel.head | apply Sel.tail)); done))) | apply Sub.skip))⟩
              )
          )
      )

theorem fillN_c (p n : Nat) (d st : Int) {W : World} {R : List HP} {w : World} (hS : Sat W (Blk p [.int .i64 (n : Nat), .nilFunc, .int .u32 d, .int .i32 st, .int .u32 0, .int .i64 0, .slice none 0 0] 63 :: R) w)  : Calls Try.prog 30 [.pointer (some ⟨p, 0, none⟩)].toArray w (Ret fun v w' => v = .tuple #[] ∧ Sat W (Blk p [.int .i64 (n : Nat), .nilFunc, .int .u32 d, .int .i32 st, .int .u32 0, .int .i64 0, .slice none 0 0] 63 :: R) w') := by
  refine fn_start 35 Try.func30 rfl rfl rfl ?_
  intro a hf
  refine c_seq ?_
  refine c_seq ?_
  refine c_region ?_
  refine step_l (st_rd hf (Wn.none rfl) (rd_move hf rfl rfl) hS rfl rfl ?_)
  clear hf; intro a hf
  refine step_l (st_rd hf (Wn.none rfl) (rd_nilCheck hf rfl rfl) hS rfl rfl ?_)
  clear hf; intro a hf
  refine step_l (st_rd hf (Wn.none rfl) (rd_fieldAddrB hf rfl rfl fb63_1 rfl) hS rfl rfl ?_)
  clear hf; intro a hf
  refine step_l (st_rd hf (Wn.none rfl) (rd_load1 hf rfl rfl ag25 (by intro _ h; first | exact h.cell (by repeat (first | exact Sel.head | apply Sel.tail)) (by rfl))) hS rfl rfl ?_)
  clear hf; intro a hf
  refine step_l (st_rdb hf (Wn.none rfl) ((by first | exact rd_eqlNilF hf rfl rfl rfl Try.underlying25 | exact rd_eqlNilF' hf rfl rfl rfl Try.underlying25)) hS rfl rfl ?_ ?_)
  · clear hf; intro hc1 a hf
    first
    | (first | exact Bool.noConfusion hc1 | exact absurd rfl hc1; done)
    | (
      refine done_l ?_
      refine t_normal ?_
      refine c_true hf rfl ?_
      refine c_ret ?_
      refine t_ret ?_
      refine e_none hf rfl ?_
      exact ⟨rfl, hS.sub (by repeat (first | exact Sub.refl | exact Sub.none | exact Sub.behind | (apply Sub.cons; (focus ((repeat (first | exact Sel.head | apply Sel.tail)); done))) | apply Sub.skip))⟩
      )
  · clear hf; intro hc1 a hf
    first
    | (first | exact Bool.noConfusion hc1 | exact absurd rfl hc1; done)
    | (
      refine done_l ?_
      refine t_normal ?_
      refine c_false hf rfl ?_
      refine c_skip ?_
      refine t_normal ?_
      refine c_seq ?_
      refine c_region ?_
      refine step_l (st_rd hf (Wn.none rfl) (rd_move hf rfl rfl) hS rfl rfl ?_)
      clear hf; intro a hf
      refine step_l (st_rd hf (Wn.none rfl) (rd_nilCheck hf rfl rfl) hS rfl rfl ?_)
      clear hf; intro a hf
      refine step_l (st_rd hf (Wn.none rfl) (rd_fieldAddrB hf rfl rfl fb63_0 rfl) hS rfl rfl ?_)
      clear hf; intro a hf
      refine step_l (st_rd hf (Wn.none rfl) (rd_load1 hf rfl rfl ag3 (by intro _ h; first | exact h.cell (by repeat (first | exact Sel.head | apply Sel.tail)) (by rfl))) hS rfl rfl ?_)
      clear hf; intro a hf
      refine step_l (st_rd hf (Wn.none rfl) (rd_move hf rfl rfl) hS rfl rfl ?_)
      clear hf; intro a hf
      refine done_l ?_
      refine t_normal ?_
      refine c_block ?_
      have hk0 := Keep.of hf [(2, 2), (12, 34)] (by repeat (first | exact Keep.nil | apply Keep.drop rfl | apply Keep.take rfl))
      refine c_loopK hk0 (α := Unit) (fun _u => [(12, .int .i64 0)]) (fun _u w => Sat W (R) w) (fun _u => 0) () ((hf.keep hk0).kb hf 12 rfl (by first | rfl | exact int_eq (by omega))) (hS.sub (by repeat (first | exact Sub.refl | exact Sub.none | exact Sub.behind | (apply Sub.cons; (focus ((repeat (first | exact Sel.head | apply Sel.tail)); done))) | apply Sub.skip))) ?_
      clear hf hS; rintro _u a w hf hS; (try dsimp only [List.cons_append, List.nil_append] at hf)
      refine c_seq ?_
      refine c_region ?_
      refine step_l (st_rdB hf (Wn.none rfl) (rd_lss hf rfl rfl rfl) hS rfl rfl ?_ ?_)
      · clear hf; intro hc2 a hf
        first
        | (first | exact Bool.noConfusion hc2 | exact absurd rfl hc2; done)
        | (
          refine done_l ?_
          refine t_normal ?_
          refine c_seq ?_
          refine c_true hf rfl ?_
          refine c_skip ?_
          refine t_normal ?_
          refine c_seq ?_
          refine c_block ?_
          refine c_seq ?_
          refine c_region ?_
          refine step_l (st_rd hf (Wn.none rfl) (rd_move hf rfl rfl) hS rfl rfl ?_)
          clear hf; intro a hf
          refine step_l (st_rd hf (Wn.none rfl) (rd_assign hf rfl rfl) hS rfl rfl ?_)
          clear hf; intro a hf
          refine done_l ?_
          refine t_normal ?_
          refine c_seq ?_
          refine any_begin (S := Sat W (R)) mixed (hS.drew.sub (by repeat (first | exact Sub.refl | exact Sub.none | exact Sub.behind | (apply Sub.cons; (focus ((repeat (first | exact Sel.head | apply Sel.tail)); done))) | apply Sub.skip))) ?_
          have hT : Sat W (R) _ := hS.drew.sub (by repeat (first | exact Sub.refl | exact Sub.none | exact Sub.behind | (apply Sub.cons; (focus ((repeat (first | exact Sel.head | apply Sel.tail)); done))) | apply Sub.skip))
          replace hS := hS.drew
          refine any_take (i := 0) hf rfl (by kernel_rfl) (by kernel_rfl) (by kernel_rfl) (fun _ _ _ h => h) (Wn.none rfl) (rd_move hf rfl rfl) hT rfl rfl ?_
          clear hf; intro a hf
          refine any_take (i := 1) hf rfl (by kernel_rfl) (by kernel_rfl) (by kernel_rfl) (fun _ _ _ h => h) (Wn.none rfl) (rd_move hf rfl rfl) hT rfl rfl ?_
          clear hf; intro a hf
          refine any_take (i := 2) hf rfl (by kernel_rfl) (by kernel_rfl) (by kernel_rfl) (fun _ _ _ h => h) (Wn.none rfl) (rd_nilCheck hf rfl rfl) hT rfl rfl ?_
          clear hf; intro a hf
          refine any_take (i := 3) hf rfl (by kernel_rfl) (by kernel_rfl) (by kernel_rfl) (fun _ _ _ h => h) (Wn.none rfl) (rd_fieldAddrB hf rfl rfl fb63_4 rfl) hT rfl rfl ?_
          clear hf; intro a hf
          refine any_take (i := 5) hf rfl (by kernel_rfl) (by kernel_rfl) (by kernel_rfl) (fun _ _ _ h => h) (Wn.none rfl) (rd_move hf rfl rfl) hT rfl rfl ?_
          clear hf; intro a hf
          refine any_take (i := 6) hf rfl (by kernel_rfl) (by kernel_rfl) (by kernel_rfl) (fun _ _ _ h => h) (Wn.none rfl) (rd_nilCheck hf rfl rfl) hT rfl rfl ?_
          clear hf; intro a hf
          refine any_take (i := 7) hf rfl (by kernel_rfl) (by kernel_rfl) (by kernel_rfl) (fun _ _ _ h => h) (Wn.none rfl) (rd_fieldAddrB hf rfl rfl fb63_1 rfl) hT rfl rfl ?_
          clear hf; intro a hf
          refine any_take (i := 9) hf rfl (by kernel_rfl) (by kernel_rfl) (by kernel_rfl) (fun _ _ _ h => h) (Wn.none rfl) (rd_move hf rfl rfl) hT rfl rfl ?_
          clear hf; intro a hf
          refine any_two (i := 4) (j := 8) rfl rfl (by kernel_rfl) ?_ ?_
          · skip
            refine st_rd hf (Wn.none rfl) (rd_load1 hf rfl rfl ag40 (by intro _ h; first | exact h.cell (by repeat (first | exact Sel.head | apply Sel.tail)) (by rfl))) hS rfl rfl ?_
            clear hf; intro a hf
            refine ⟨hT, ?_⟩
            refine any_one (i := 8) rfl (by kernel_rfl) (st_rd hf (Wn.none rfl) (rd_load1 hf rfl rfl ag25 (by intro _ h; first | exact h.cell (by repeat (first | exact Sel.head | apply Sel.tail)) (by rfl))) hS rfl rfl ?_)
            clear hf; intro a hf
            refine ⟨hT, ?_⟩
            refine any_one (i := 10) rfl (by kernel_rfl) (st_call hf (Wn.none rfl) rfl rfl rfl rfl hS rfl rfl ?_)
            clear hf hS; rintro v a w hS hf
            replace hT := hS.sub' hT (by repeat (first | exact Sub.refl | exact Sub.none | exact Sub.behind | (apply Sub.cons; (focus ((repeat (first | exact Sel.head | apply Sel.tail)); done))) | apply Sub.skip))
            refine ⟨hT, ?_⟩
            refine any_one (i := 11) rfl (by kernel_rfl) (st_buildSlice hf (Wn.none rfl) hS rfl rfl Try.underlying40 sz24 zr24 (by decide) bz24_1 rfl (.cons rfl (by first | rfl) (by rfl) (by repeat (first | exact Put.nil | apply Put.cons | apply Put.succ)) .nil) rfl rfl ?_)
            clear hf hS; intro b_3 a w hf hS
            replace hT := hS.sub' hT (by repeat (first | exact Sub.refl | exact Sub.none | exact Sub.behind | (apply Sub.cons; (focus ((repeat (first | exact Sel.head | apply Sel.tail)); done))) | apply Sub.skip))
            refine ⟨hT, ?_⟩
            refine any_one (i := 12) rfl (by kernel_rfl) (st_append hf (Wn.none rfl) rfl rfl rfl Try.underlying40 tyb24 (by rfl) (by decide) hS (by repeat (first | exact Sel.head | apply Sel.tail)) (by first | exact hS.slOfBlk (by repeat (first | exact Sel.head | apply Sel.tail)) (by rfl) | exact hS.slOfBlkPre (by repeat (first | exact Sel.head | apply Sel.tail)) (bvs_len1 _) | exact hS.slOfRw (by repeat (first | exact Sel.head | apply Sel.tail)) | exact SlAt.nil _ _ _) (by first | rfl | exact bvs_one _ | (simp [Value.oneCell']; done)) (by omega) rfl rfl ?_)
            clear hf hS; intro pA capA a w hf hS hnilA
            replace hT := hS.sub' hT (by repeat (first | exact Sub.refl | exact Sub.none | exact Sub.behind | (apply Sub.cons; (focus ((repeat (first | exact Sel.head | apply Sel.tail)); done))) | apply Sub.skip))
            refine ⟨hT, ?_⟩
            refine any_take (i := 13) hf rfl (by kernel_rfl) (by kernel_rfl) (by kernel_rfl) (fun _ _ _ h => h) (Wn.none rfl) (rd_nilCheck hf rfl rfl) hT rfl rfl ?_
            clear hf; intro a hf
            refine any_take (i := 14) hf rfl (by kernel_rfl) (by kernel_rfl) (by kernel_rfl) (fun _ _ _ h => h) (Wn.none rfl) (rd_fieldAddrB hf rfl rfl fb63_4 rfl) hT rfl rfl ?_
            clear hf; intro a hf
            refine any_one (i := 15) rfl (by kernel_rfl) (st_store hf (Wn.none rfl) hS rfl rfl rfl (by rfl) sz40 (by rfl) (by rfl) (by repeat (first | exact Sel.head | apply Sel.tail)) (by repeat (first | exact Put.nil | apply Put.cons | apply Put.succ)) rfl ?_)
            clear hf hS; intro a w hf hS
            replace hT := hS.sub' hT (by repeat (first | exact Sub.refl | exact Sub.none | exact Sub.behind | (apply Sub.cons; (focus ((repeat (first | exact Sel.head | apply Sel.tail)); done))) | apply Sub.skip))
            refine ⟨hT, ?_⟩
            refine any_done (by kernel_rfl) ?_
            refine t_normal ?_
            refine c_region ?_
            refine step_l (st_rd hf (Wn.none rfl) (rd_move hf rfl rfl) hS rfl rfl ?_)
            clear hf; intro a hf
            refine step_l (st_rd hf (Wn.none rfl) (rd_nilCheck hf rfl rfl) hS rfl rfl ?_)
            clear hf; intro a hf
            refine step_l (st_rd hf (Wn.none rfl) (rd_fieldAddrB hf rfl rfl fb63_3 rfl) hS rfl rfl ?_)
            clear hf; intro a hf
            refine step_l (st_call hf (Wn.none rfl) rfl rfl rfl fn34 hS rfl rfl ?_)
            clear hf hS; rintro v a w hS hf
            refine done_l ?_
            refine b_normal ?_
            refine t_normal ?_
            refine c_region ?_
            refine step_l (st_rd hf (Wn.none rfl) (rd_add hf rfl rfl rfl (by first | exact Go.IntWalk.i64_in _ (by omega) | exact rfl)) hS rfl rfl ?_)
            clear hf; intro a hf
            refine step_l (st_rd hf (Wn.none rfl) (rd_move hf rfl rfl) hS rfl rfl ?_)
            clear hf; intro a hf
            refine done_l ?_
            refine t_normal ⟨(), ((hf.back (by repeat (first | exact Behind.refl | refine Behind.skip rfl ?_)) hk0).kb hf 12 rfl (by first | rfl | exact int_eq (by omega))), hS.sub (by repeat (first | exact Sub.refl | exact Sub.none | exact Sub.behind | (apply Sub.cons; (focus ((repeat (first | exact Sel.head | apply Sel.tail)); done))) | apply Sub.skip)), by first | omega | (simp only []; omega)⟩
          · skip
            refine st_rd hf (Wn.none rfl) (rd_load1 hf rfl rfl ag25 (by intro _ h; first | exact h.cell (by repeat (first | exact Sel.head | apply Sel.tail)) (by rfl))) hS rfl rfl ?_
            clear hf; intro a hf
            refine ⟨hT, ?_⟩
            refine any_two (i := 4) (j := 10) rfl rfl (by kernel_rfl) ?_ ?_
            · skip
              refine st_rd hf (Wn.none rfl) (rd_load1 hf rfl rfl ag40 (by intro _ h; first | exact h.cell (by repeat (first | exact Sel.head | apply Sel.tail)) (by rfl))) hS rfl rfl ?_
              clear hf; intro a hf
              refine ⟨hT, ?_⟩
              refine any_one (i := 10) rfl (by kernel_rfl) (st_call hf (Wn.none rfl) rfl rfl rfl rfl hS rfl rfl ?_)
              clear hf hS; rintro v a w hS hf
              replace hT := hS.sub' hT (by repeat (first | exact Sub.refl | exact Sub.none | exact Sub.behind | (apply Sub.cons; (focus ((repeat (first | exact Sel.head | apply Sel.tail)); done))) | apply Sub.skip))
              refine ⟨hT, ?_⟩
              refine any_one (i := 11) rfl (by kernel_rfl) (st_buildSlice hf (Wn.none rfl) hS rfl rfl Try.underlying40 sz24 zr24 (by decide) bz24_1 rfl (.cons rfl (by first | rfl) (by rfl) (by repeat (first | exact Put.nil | apply Put.cons | apply Put.succ)) .nil) rfl rfl ?_)
              clear hf hS; intro b_5 a w hf hS
              replace hT := hS.sub' hT (by repeat (first | exact Sub.refl | exact Sub.none | exact Sub.behind | (apply Sub.cons; (focus ((repeat (first | exact Sel.head | apply Sel.tail)); done))) | apply Sub.skip))
              refine ⟨hT, ?_⟩
              refine any_one (i := 12) rfl (by kernel_rfl) (st_append hf (Wn.none rfl) rfl rfl rfl Try.underlying40 tyb24 (by rfl) (by decide) hS (by repeat (first | exact Sel.head | apply Sel.tail)) (by first | exact hS.slOfBlk (by repeat (first | exact Sel.head | apply Sel.tail)) (by rfl) | exact hS.slOfBlkPre (by repeat (first | exact Sel.head | apply Sel.tail)) (bvs_len1 _) | exact hS.slOfRw (by repeat (first | exact Sel.head | apply Sel.tail)) | exact SlAt.nil _ _ _) (by first | rfl | exact bvs_one _ | (simp [Value.oneCell']; done)) (by omega) rfl rfl ?_)
              clear hf hS; intro pA capA a w hf hS hnilA
              replace hT := hS.sub' hT (by repeat (first | exact Sub.refl | exact Sub.none | exact Sub.behind | (apply Sub.cons; (focus ((repeat (first | exact Sel.head | apply Sel.tail)); done))) | apply Sub.skip))
              refine ⟨hT, ?_⟩
              refine any_take (i := 13) hf rfl (by kernel_rfl) (by kernel_rfl) (by kernel_rfl) (fun _ _ _ h => h) (Wn.none rfl) (rd_nilCheck hf rfl rfl) hT rfl rfl ?_
              clear hf; intro a hf
              refine any_take (i := 14) hf rfl (by kernel_rfl) (by kernel_rfl) (by kernel_rfl) (fun _ _ _ h => h) (Wn.none rfl) (rd_fieldAddrB hf rfl rfl fb63_4 rfl) hT rfl rfl ?_
              clear hf; intro a hf
              refine any_one (i := 15) rfl (by kernel_rfl) (st_store hf (Wn.none rfl) hS rfl rfl rfl (by rfl) sz40 (by rfl) (by rfl) (by repeat (first | exact Sel.head | apply Sel.tail)) (by repeat (first | exact Put.nil | apply Put.cons | apply Put.succ)) rfl ?_)
              clear hf hS; intro a w hf hS
              replace hT := hS.sub' hT (by repeat (first | exact Sub.refl | exact Sub.none | exact Sub.behind | (apply Sub.cons; (focus ((repeat (first | exact Sel.head | apply Sel.tail)); done))) | apply Sub.skip))
              refine ⟨hT, ?_⟩
              refine any_done (by kernel_rfl) ?_
              refine t_normal ?_
              refine c_region ?_
              refine step_l (st_rd hf (Wn.none rfl) (rd_move hf rfl rfl) hS rfl rfl ?_)
              clear hf; intro a hf
              refine step_l (st_rd hf (Wn.none rfl) (rd_nilCheck hf rfl rfl) hS rfl rfl ?_)
              clear hf; intro a hf
              refine step_l (st_rd hf (Wn.none rfl) (rd_fieldAddrB hf rfl rfl fb63_3 rfl) hS rfl rfl ?_)
              clear hf; intro a hf
              refine step_l (st_call hf (Wn.none rfl) rfl rfl rfl fn34 hS rfl rfl ?_)
              clear hf hS; rintro v a w hS hf
              refine done_l ?_
              refine b_normal ?_
              refine t_normal ?_
              refine c_region ?_
              refine step_l (st_rd hf (Wn.none rfl) (rd_add hf rfl rfl rfl (by first | exact Go.IntWalk.i64_in _ (by omega) | exact rfl)) hS rfl rfl ?_)
              clear hf; intro a hf
              refine step_l (st_rd hf (Wn.none rfl) (rd_move hf rfl rfl) hS rfl rfl ?_)
              clear hf; intro a hf
              refine done_l ?_
              refine t_normal ⟨(), ((hf.back (by repeat (first | exact Behind.refl | refine Behind.skip rfl ?_)) hk0).kb hf 12 rfl (by first | rfl | exact int_eq (by omega))), hS.sub (by repeat (first | exact Sub.refl | exact Sub.none | exact Sub.behind | (apply Sub.cons; (focus ((repeat (first | exact Sel.head | apply Sel.tail)); done))) | apply Sub.skip)), by first | omega | (simp only []; omega)⟩
            · skip
              refine st_call hf (Wn.none rfl) rfl rfl rfl rfl hS rfl rfl ?_
              clear hf hS; rintro v a w hS hf
              replace hT := hS.sub' hT (by repeat (first | exact Sub.refl | exact Sub.none | exact Sub.behind | (apply Sub.cons; (focus ((repeat (first | exact Sel.head | apply Sel.tail)); done))) | apply Sub.skip))
              refine ⟨hT, ?_⟩
              refine any_two (i := 4) (j := 11) rfl rfl (by kernel_rfl) ?_ ?_
              · skip
                refine st_rd hf (Wn.none rfl) (rd_load1 hf rfl rfl ag40 (by intro _ h; first | exact h.cell (by repeat (first | exact Sel.head | apply Sel.tail)) (by rfl))) hS rfl rfl ?_
                clear hf; intro a hf
                refine ⟨hT, ?_⟩
                refine any_one (i := 11) rfl (by kernel_rfl) (st_buildSlice hf (Wn.none rfl) hS rfl rfl Try.underlying40 sz24 zr24 (by decide) bz24_1 rfl (.cons rfl (by first | rfl) (by rfl) (by repeat (first | exact Put.nil | apply Put.cons | apply Put.succ)) .nil) rfl rfl ?_)
                clear hf hS; intro b_7 a w hf hS
                replace hT := hS.sub' hT (by repeat (first | exact Sub.refl | exact Sub.none | exact Sub.behind | (apply Sub.cons; (focus ((repeat (first | exact Sel.head | apply Sel.tail)); done))) | apply Sub.skip))
                refine ⟨hT, ?_⟩
                refine any_one (i := 12) rfl (by kernel_rfl) (st_append hf (Wn.none rfl) rfl rfl rfl Try.underlying40 tyb24 (by rfl) (by decide) hS (by repeat (first | exact Sel.head | apply Sel.tail)) (by first | exact hS.slOfBlk (by repeat (first | exact Sel.head | apply Sel.tail)) (by rfl) | exact hS.slOfBlkPre (by repeat (first | exact Sel.head | apply Sel.tail)) (bvs_len1 _) | exact hS.slOfRw (by repeat (first | exact Sel.head | apply Sel.tail)) | exact SlAt.nil _ _ _) (by first | rfl | exact bvs_one _ | (simp [Value.oneCell']; done)) (by omega) rfl rfl ?_)
                clear hf hS; intro pA capA a w hf hS hnilA
                replace hT := hS.sub' hT (by repeat (first | exact Sub.refl | exact Sub.none | exact Sub.behind | (apply Sub.cons; (focus ((repeat (first | exact Sel.head | apply Sel.tail)); done))) | apply Sub.skip))
                refine ⟨hT, ?_⟩
                refine any_take (i := 13) hf rfl (by kernel_rfl) (by kernel_rfl) (by kernel_rfl) (fun _ _ _ h => h) (Wn.none rfl) (rd_nilCheck hf rfl rfl) hT rfl rfl ?_
                clear hf; intro a hf
                refine any_take (i := 14) hf rfl (by kernel_rfl) (by kernel_rfl) (by kernel_rfl) (fun _ _ _ h => h) (Wn.none rfl) (rd_fieldAddrB hf rfl rfl fb63_4 rfl) hT rfl rfl ?_
                clear hf; intro a hf
                refine any_one (i := 15) rfl (by kernel_rfl) (st_store hf (Wn.none rfl) hS rfl rfl rfl (by rfl) sz40 (by rfl) (by rfl) (by repeat (first | exact Sel.head | apply Sel.tail)) (by repeat (first | exact Put.nil | apply Put.cons | apply Put.succ)) rfl ?_)
                clear hf hS; intro a w hf hS
                replace hT := hS.sub' hT (by repeat (first | exact Sub.refl | exact Sub.none | exact Sub.behind | (apply Sub.cons; (focus ((repeat (first | exact Sel.head | apply Sel.tail)); done))) | apply Sub.skip))
                refine ⟨hT, ?_⟩
                refine any_done (by kernel_rfl) ?_
                refine t_normal ?_
                refine c_region ?_
                refine step_l (st_rd hf (Wn.none rfl) (rd_move hf rfl rfl) hS rfl rfl ?_)
                clear hf; intro a hf
                refine step_l (st_rd hf (Wn.none rfl) (rd_nilCheck hf rfl rfl) hS rfl rfl ?_)
                clear hf; intro a hf
                refine step_l (st_rd hf (Wn.none rfl) (rd_fieldAddrB hf rfl rfl fb63_3 rfl) hS rfl rfl ?_)
                clear hf; intro a hf
                refine step_l (st_call hf (Wn.none rfl) rfl rfl rfl fn34 hS rfl rfl ?_)
                clear hf hS; rintro v a w hS hf
                refine done_l ?_
                refine b_normal ?_
                refine t_normal ?_
                refine c_region ?_
                refine step_l (st_rd hf (Wn.none rfl) (rd_add hf rfl rfl rfl (by first | exact Go.IntWalk.i64_in _ (by omega) | exact rfl)) hS rfl rfl ?_)
                clear hf; intro a hf
                refine step_l (st_rd hf (Wn.none rfl) (rd_move hf rfl rfl) hS rfl rfl ?_)
                clear hf; intro a hf
                refine done_l ?_
                refine t_normal ⟨(), ((hf.back (by repeat (first | exact Behind.refl | refine Behind.skip rfl ?_)) hk0).kb hf 12 rfl (by first | rfl | exact int_eq (by omega))), hS.sub (by repeat (first | exact Sub.refl | exact Sub.none | exact Sub.behind | (apply Sub.cons; (focus ((repeat (first | exact Sel.head | apply Sel.tail)); done))) | apply Sub.skip)), by first | omega | (simp only []; omega)⟩
              · skip
                refine st_buildSlice hf (Wn.none rfl) hS rfl rfl Try.underlying40 sz24 zr24 (by decide) bz24_1 rfl (.cons rfl (by first | rfl) (by rfl) (by repeat (first | exact Put.nil | apply Put.cons | apply Put.succ)) .nil) rfl rfl ?_
                clear hf hS; intro b_9 a w hf hS
                replace hT := hS.sub' hT (by repeat (first | exact Sub.refl | exact Sub.none | exact Sub.behind | (apply Sub.cons; (focus ((repeat (first | exact Sel.head | apply Sel.tail)); done))) | apply Sub.skip))
                refine ⟨hT, ?_⟩
                refine any_one (i := 4) rfl (by kernel_rfl) (st_rd hf (Wn.none rfl) (rd_load1 hf rfl rfl ag40 (by intro _ h; first | exact h.cell (by repeat (first | exact Sel.head | apply Sel.tail)) (by rfl))) hS rfl rfl ?_)
                clear hf; intro a hf
                refine ⟨hT, ?_⟩
                refine any_one (i := 12) rfl (by kernel_rfl) (st_append hf (Wn.none rfl) rfl rfl rfl Try.underlying40 tyb24 (by rfl) (by decide) hS (by repeat (first | exact Sel.head | apply Sel.tail)) (by first | exact hS.slOfBlk (by repeat (first | exact Sel.head | apply Sel.tail)) (by rfl) | exact hS.slOfBlkPre (by repeat (first | exact Sel.head | apply Sel.tail)) (bvs_len1 _) | exact hS.slOfRw (by repeat (first | exact Sel.head | apply Sel.tail)) | exact SlAt.nil _ _ _) (by first | rfl | exact bvs_one _ | (simp [Value.oneCell']; done)) (by omega) rfl rfl ?_)
                clear hf hS; intro pA capA a w hf hS hnilA
                replace hT := hS.sub' hT (by repeat (first | exact Sub.refl | exact Sub.none | exact Sub.behind | (apply Sub.cons; (focus ((repeat (first | exact Sel.head | apply Sel.tail)); done))) | apply Sub.skip))
                refine ⟨hT, ?_⟩
                refine any_take (i := 13) hf rfl (by kernel_rfl) (by kernel_rfl) (by kernel_rfl) (fun _ _ _ h => h) (Wn.none rfl) (rd_nilCheck hf rfl rfl) hT rfl rfl ?_
                clear hf; intro a hf
                refine any_take (i := 14) hf rfl (by kernel_rfl) (by kernel_rfl) (by kernel_rfl) (fun _ _ _ h => h) (Wn.none rfl) (rd_fieldAddrB hf rfl rfl fb63_4 rfl) hT rfl rfl ?_
                clear hf; intro a hf
                refine any_one (i := 15) rfl (by kernel_rfl) (st_store hf (Wn.none rfl) hS rfl rfl rfl (by rfl) sz40 (by rfl) (by rfl) (by repeat (first | exact Sel.head | apply Sel.tail)) (by repeat (first | exact Put.nil | apply Put.cons | apply Put.succ)) rfl ?_)
                clear hf hS; intro a w hf hS
                replace hT := hS.sub' hT (by repeat (first | exact Sub.refl | exact Sub.none | exact Sub.behind | (apply Sub.cons; (focus ((repeat (first | exact Sel.head | apply Sel.tail)); done))) | apply Sub.skip))
                refine ⟨hT, ?_⟩
                refine any_done (by kernel_rfl) ?_
                refine t_normal ?_
                refine c_region ?_
                refine step_l (st_rd hf (Wn.none rfl) (rd_move hf rfl rfl) hS rfl rfl ?_)
                clear hf; intro a hf
                refine step_l (st_rd hf (Wn.none rfl) (rd_nilCheck hf rfl rfl) hS rfl rfl ?_)
                clear hf; intro a hf
                refine step_l (st_rd hf (Wn.none rfl) (rd_fieldAddrB hf rfl rfl fb63_3 rfl) hS rfl rfl ?_)
                clear hf; intro a hf
                refine step_l (st_call hf (Wn.none rfl) rfl rfl rfl fn34 hS rfl rfl ?_)
                clear hf hS; rintro v a w hS hf
                refine done_l ?_
                refine b_normal ?_
                refine t_normal ?_
                refine c_region ?_
                refine step_l (st_rd hf (Wn.none rfl) (rd_add hf rfl rfl rfl (by first | exact Go.IntWalk.i64_in _ (by omega) | exact rfl)) hS rfl rfl ?_)
                clear hf; intro a hf
                refine step_l (st_rd hf (Wn.none rfl) (rd_move hf rfl rfl) hS rfl rfl ?_)
                clear hf; intro a hf
                refine done_l ?_
                refine t_normal ⟨(), ((hf.back (by repeat (first | exact Behind.refl | refine Behind.skip rfl ?_)) hk0).kb hf 12 rfl (by first | rfl | exact int_eq (by omega))), hS.sub (by repeat (first | exact Sub.refl | exact Sub.none | exact Sub.behind | (apply Sub.cons; (focus ((repeat (first | exact Sel.head | apply Sel.tail)); done))) | apply Sub.skip)), by first | omega | (simp only []; omega)⟩
          )
      · clear hf; intro hc2 a hf
        first
        | (first | exact Bool.noConfusion hc2 | exact absurd rfl hc2; done)
        | (
          refine done_l ?_
          refine t_normal ?_
          refine c_seq ?_
          refine c_false hf rfl ?_
          refine c_exit ?_
          refine t_exit ?_
          refine t_exit ?_
          refine b_exit ?_
          refine e_none' hf rfl ?_
          exact ⟨rfl, hS.sub (by repeat (first | exact Sub.refl | exact Sub.none | exact Sub.behind | (apply Sub.cons; (focus ((repeat (first | exact Sel.head | apply Sel.tail)); done))) | apply Sub.skip))⟩
          )
      )

theorem doNil_c (p n : Nat) (d : Int) {W : World} {R : List HP} {w : World} (hS : Sat W (Blk p [.int .i64 (n : Nat), .nilFunc, .int .u32 d, .int .i32 0, .int .u32 0, .int .i64 0, .slice none 0 0] 63 :: R) w)  : Calls Try.prog 29 [.pointer (some ⟨p, 2, none⟩), .func (.func 30) [.pointer (some ⟨p, 0, none⟩)].toArray [].toArray].toArray w (Ret fun v w' => v = .tuple #[] ∧ ∃ d, Sat W (Blk p [.int .i64 (n : Nat), .nilFunc, .int .u32 d, .int .i32 0, .int .u32 0, .int .i64 0, .slice none 0 0] 63 :: R) w') := by
  refine fn_start 12 Try.func29 rfl rfl rfl ?_
  intro a hf
  refine c_seq ?_
  refine c_region ?_
  refine step_l (st_rd hf (Wn.none rfl) (rd_move hf rfl rfl) hS rfl rfl ?_)
  clear hf; intro a hf
  refine step_l (st_rd hf (Wn.none rfl) (rd_nilCheck hf rfl rfl) hS rfl rfl ?_)
  clear hf; intro a hf
  refine step_l (st_rd hf (Wn.none rfl) (rd_fieldAddrB hf rfl rfl fb58_1 rfl) hS rfl rfl ?_)
  clear hf; intro a hf
  refine step_l (st_call hf (Wn.none rfl) rfl rfl rfl fn32 (ABLoad_c _ _ _ _ _ (hS.sel (by repeat (first | exact Sel.head | apply Sel.tail))) (by rfl)) rfl rfl ?_)
  clear hf hS; rintro v a w ⟨rfl, hS⟩ hf
  first | refine split_dec (d := 7) hf rfl ?_ ?_ | refine split_bool (d := 7) hf rfl ?_ ?_
  · clear hf; intro hc1 hf
    refine step_l (st_rd hf (Wn.none rfl) (rd_not hf rfl rfl) hS rfl rfl ?_)
    clear hf; intro a hf
    refine done_l ?_
    refine t_normal ?_
    refine c_false hf rfl ?_
    refine c_skip ?_
    refine e_none' hf rfl ?_
    exact ⟨rfl, d, hS.sub (by repeat (first | exact Sub.refl | exact Sub.none | exact Sub.behind | (apply Sub.cons; (focus ((repeat (first | exact Sel.head | apply Sel.tail)); done))) | apply Sub.skip))⟩
  · clear hf; intro hc1 hf
    obtain rfl : d = 0 := Classical.not_not.1 hc1
    refine step_l (st_rd hf (Wn.none rfl) (rd_not hf rfl rfl) hS rfl rfl ?_)
    clear hf; intro a hf
    refine done_l ?_
    refine t_normal ?_
    refine c_true hf rfl ?_
    refine c_region ?_
    refine step_l (st_rd hf (Wn.none rfl) (rd_move hf rfl rfl) hS rfl rfl ?_)
    clear hf; intro a hf
    refine step_l (st_rd hf (Wn.none rfl) (rd_move hf rfl rfl) hS rfl rfl ?_)
    clear hf; intro a hf
    refine step_l (st_call hf (Wn.none rfl) rfl rfl rfl fn33 (o_slow (α := Unit) (cs' := fun x => [.int .i64 (n : Nat), .nilFunc, .int .u32 0, .int .i32 1, .int .u32 0, .int .i64 0, .slice none 0 0]) (R' := fun x => R) (hS.sel (by repeat (first | exact Sel.head | apply Sel.tail))) rfl rfl fn30 (fun w h => (fillN_c p n 0 1 h).mono (by intro e w' he; cases e with | returned v => (obtain ⟨h1, h2⟩ := he; exact ⟨h1, (), h2, ⟨_, rfl⟩, rfl⟩) | panicked c => exact he.elim | outgrown => exact he.elim))) rfl rfl ?_)
    clear hf hS; rintro v a w ⟨rfl, x, hS⟩ hf
    refine done_l ?_
    refine e_none' hf rfl ?_
    exact ⟨rfl, 1, hS.sub (by repeat (first | exact Sub.refl | exact Sub.none | exact Sub.behind | (apply Sub.cons; (focus ((repeat (first | exact Sel.head | apply Sel.tail)); done))) | apply Sub.skip))⟩

theorem AtNM_c (p n : Nat) (i d : Int) {W : World} {R : List HP} {w : World} (hS : Sat W (Blk p [.int .i64 (n : Nat), .nilFunc, .int .u32 d, .int .i32 0, .int .u32 0, .int .i64 0, .slice none 0 0] 63 :: R) w) (hn : n ≤ 4096) : Calls Try.prog 14 [.pointer (some ⟨p, 0, none⟩), .int .i64 i].toArray w (Ret fun v w' => v = u32v 0#32 ∧ ∃ d, Sat W (Blk p [.int .i64 (n : Nat), .nilFunc, .int .u32 d, .int .i32 0, .int .u32 0, .int .i64 0, .slice none 0 0] 63 :: R) w') := by
  refine fn_start 33 Try.func14 rfl rfl rfl ?_
  intro a hf
  refine c_seq ?_
  refine c_region ?_
  refine step_l (st_rd hf (Wn.none rfl) (rd_assign hf rfl rfl) hS rfl rfl ?_)
  clear hf; intro a hf
  refine done_l ?_
  refine t_normal ?_
  refine c_seq ?_
  refine c_seq ?_
  refine c_region ?_
  refine step_l (st_rd hf (Wn.none rfl) (rd_move hf rfl rfl) hS rfl rfl ?_)
  clear hf; intro a hf
  refine step_l (st_rdB hf (Wn.none rfl) (rd_lss hf rfl rfl rfl) hS rfl rfl ?_ ?_)
  · clear hf; intro hc1 a hf
    refine step_l (st_rd hf (Wn.none rfl) (rd_move hf rfl rfl) hS rfl rfl ?_)
    clear hf; intro a hf
    refine step_l (st_skip hf (Wn.some hf rfl rfl rfl rfl) rfl rfl ?_)
    clear hf; intro a hf
    refine step_l (st_skip hf (Wn.some hf rfl rfl rfl rfl) rfl rfl ?_)
    clear hf; intro a hf
    refine step_l (st_skip hf (Wn.some hf rfl rfl rfl rfl) rfl rfl ?_)
    clear hf; intro a hf
    refine step_l (st_skip hf (Wn.some hf rfl rfl rfl rfl) rfl rfl ?_)
    clear hf; intro a hf
    refine step_l (st_rd hf (Wn.none rfl) (rd_pick_t hf rfl rfl rfl) hS rfl rfl ?_)
    clear hf; intro a hf
    refine done_l ?_
    refine t_normal ?_
    refine c_true hf rfl ?_
    refine c_seq ?_
    refine c_region ?_
    refine step_l (st_rd hf (Wn.none rfl) (rd_assign hf rfl rfl) hS rfl rfl ?_)
    clear hf; intro a hf
    refine done_l ?_
    refine t_normal ?_
    refine c_ret ?_
    refine t_ret ?_
    refine e_res1 hf.defers rfl (res_tmp hf rfl .nil) ?_
    first | exact ⟨rfl, d2, hS.sub (by repeat (first | exact Sub.refl | exact Sub.none | exact Sub.behind | (apply Sub.cons; (focus ((repeat (first | exact Sel.head | apply Sel.tail)); done))) | apply Sub.skip))⟩ | exact ⟨rfl, d, hS.sub (by repeat (first | exact Sub.refl | exact Sub.none | exact Sub.behind | (apply Sub.cons; (focus ((repeat (first | exact Sel.head | apply Sel.tail)); done))) | apply Sub.skip))⟩
  · clear hf; intro hc1 a hf
    refine step_l (st_rd hf (Wn.none rfl) (rd_move hf rfl rfl) hS rfl rfl ?_)
    clear hf; intro a hf
    refine step_l (st_rd hf (Wn.some hf rfl rfl rfl rfl) (rd_move hf rfl rfl) hS rfl rfl ?_)
    clear hf; intro a hf
    refine step_l (st_rd hf (Wn.some hf rfl rfl rfl rfl) (rd_move hf rfl rfl) hS rfl rfl ?_)
    clear hf; intro a hf
    refine step_l (st_call hf (Wn.some hf rfl rfl rfl rfl) rfl rfl rfl fn13 (LLen_c _ _ _ _ (hS.sel (by repeat (first | exact Sel.head | apply Sel.tail)))) rfl rfl ?_)
    clear hf hS; rintro v a w ⟨rfl, hS⟩ hf
    refine step_l (st_rdB hf (Wn.some hf rfl rfl rfl rfl) (rd_geq hf rfl rfl rfl) hS rfl rfl ?_ ?_)
    · clear hf; intro hc2 a hf
      refine step_l (st_rd hf (Wn.none rfl) (rd_pick_f hf rfl rfl rfl) hS rfl rfl ?_)
      clear hf; intro a hf
      refine done_l ?_
      refine t_normal ?_
      refine c_true hf rfl ?_
      refine c_seq ?_
      refine c_region ?_
      refine step_l (st_rd hf (Wn.none rfl) (rd_assign hf rfl rfl) hS rfl rfl ?_)
      clear hf; intro a hf
      refine done_l ?_
      refine t_normal ?_
      refine c_ret ?_
      refine t_ret ?_
      refine e_res1 hf.defers rfl (res_tmp hf rfl .nil) ?_
      first | exact ⟨rfl, d2, hS.sub (by repeat (first | exact Sub.refl | exact Sub.none | exact Sub.behind | (apply Sub.cons; (focus ((repeat (first | exact Sel.head | apply Sel.tail)); done))) | apply Sub.skip))⟩ | exact ⟨rfl, d, hS.sub (by repeat (first | exact Sub.refl | exact Sub.none | exact Sub.behind | (apply Sub.cons; (focus ((repeat (first | exact Sel.head | apply Sel.tail)); done))) | apply Sub.skip))⟩
    · clear hf; intro hc2 a hf
      refine step_l (st_rd hf (Wn.none rfl) (rd_pick_f hf rfl rfl rfl) hS rfl rfl ?_)
      clear hf; intro a hf
      refine done_l ?_
      refine t_normal ?_
      refine c_false hf rfl ?_
      refine c_skip ?_
      refine t_normal ?_
      refine c_seq ?_
      refine c_region ?_
      refine step_l (st_rd hf (Wn.none rfl) (rd_move hf rfl rfl) hS rfl rfl ?_)
      clear hf; intro a hf
      refine step_l (st_rd hf (Wn.none rfl) (rd_nilCheck hf rfl rfl) hS rfl rfl ?_)
      clear hf; intro a hf
      refine step_l (st_rd hf (Wn.none rfl) (rd_fieldAddrB hf rfl rfl fb63_2 rfl) hS rfl rfl ?_)
      clear hf; intro a hf
      refine step_l (st_rd hf (Wn.none rfl) (rd_move hf rfl rfl) hS rfl rfl ?_)
      clear hf; intro a hf
      refine step_l (st_rd hf (Wn.none rfl) (rd_makeFunc hf rfl rfl rfl) hS rfl rfl ?_)
      clear hf; intro a hf
      refine step_l (st_call hf (Wn.none rfl) rfl rfl rfl fn29 (doNil_c _ _ _ (hS.sel (by repeat (first | exact Sel.head | apply Sel.tail)))) rfl rfl ?_)
      clear hf hS; rintro v a w ⟨rfl, ⟨d2, hS⟩⟩ hf
      refine done_l ?_
      refine t_normal ?_
      refine c_seq ?_
      refine c_seq ?_
      refine c_region ?_
      refine step_l (st_rd hf (Wn.none rfl) (rd_move hf rfl rfl) hS rfl rfl ?_)
      clear hf; intro a hf
      refine step_l (st_rd hf (Wn.none rfl) (rd_move hf rfl rfl) hS rfl rfl ?_)
      clear hf; intro a hf
      refine step_l (st_rd hf (Wn.none rfl) (rd_nilCheck hf rfl rfl) hS rfl rfl ?_)
      clear hf; intro a hf
      refine step_l (st_rd hf (Wn.none rfl) (rd_fieldAddrB hf rfl rfl fb63_4 rfl) hS rfl rfl ?_)
      clear hf; intro a hf
      refine step_l (st_rd hf (Wn.none rfl) (rd_load1 hf rfl rfl ag40 (by intro _ h; first | exact h.cell (by repeat (first | exact Sel.head | apply Sel.tail)) (by rfl))) hS rfl rfl ?_)
      clear hf; intro a hf
      refine step_l (st_rd hf (Wn.none rfl) (rd_len hf rfl rfl Try.underlying40) hS rfl rfl ?_)
      clear hf; intro a hf
      refine step_l (st_rdB hf (Wn.none rfl) (rd_geq hf rfl rfl rfl) hS rfl rfl ?_ ?_)
      · clear hf; intro hc3 a hf
        first
        | (first | exact absurd hc3 (by omega) | exact absurd (by omega) hc3; done)
        | (
          refine done_l ?_
          refine t_normal ?_
          refine c_true hf rfl ?_
          refine c_seq ?_
          refine c_region ?_
          refine step_l (st_rd hf (Wn.none rfl) (rd_assign hf rfl rfl) hS rfl rfl ?_)
          clear hf; intro a hf
          refine done_l ?_
          refine t_normal ?_
          refine c_ret ?_
          refine t_ret ?_
          refine e_res1 hf.defers rfl (res_tmp hf rfl .nil) ?_
          first | exact ⟨rfl, d2, hS.sub (by repeat (first | exact Sub.refl | exact Sub.none | exact Sub.behind | (apply Sub.cons; (focus ((repeat (first | exact Sel.head | apply Sel.tail)); done))) | apply Sub.skip))⟩ | exact ⟨rfl, d, hS.sub (by repeat (first | exact Sub.refl | exact Sub.none | exact Sub.behind | (apply Sub.cons; (focus ((repeat (first | exact Sel.head | apply Sel.tail)); done))) | apply Sub.skip))⟩
          )
      · clear hf; intro hc3 a hf
        first
        | (first | exact absurd hc3 (by omega) | exact absurd (by omega) hc3; done)
        | (
          refine done_l ?_
          refine t_normal ?_
          refine c_false hf rfl ?_
          refine c_skip ?_
          refine t_normal ?_
          refine c_seq ?_
          refine c_region ?_
          refine step_l (st_rd hf (Wn.none rfl) (rd_move hf rfl rfl) hS rfl rfl ?_)
          clear hf; intro a hf
          refine step_l (st_rd hf (Wn.none rfl) (rd_nilCheck hf rfl rfl) hS rfl rfl ?_)
          clear hf; intro a hf
          refine step_l (st_rd hf (Wn.none rfl) (rd_fieldAddrB hf rfl rfl fb63_4 rfl) hS rfl rfl ?_)
          clear hf; intro a hf
          refine step_l (st_rd hf (Wn.none rfl) (rd_load1 hf rfl rfl ag40 (by intro _ h; first | exact h.cell (by repeat (first | exact Sel.head | apply Sel.tail)) (by rfl))) hS rfl rfl ?_)
          clear hf; intro a hf
          refine step_l (st_rd hf (Wn.none rfl) (rd_move hf rfl rfl) hS rfl rfl ?_)
          clear hf; intro a hf
          refine step_l (st_rd hf (Wn.none rfl) ((by first | exact rd_indexAddrN1 hf rfl rfl rfl Try.underlying40 sz24 (by omega) | exact rd_indexAddr hf rfl rfl rfl Try.underlying40 sz24 (by first | decide | omega) (by omega))) hS rfl rfl ?_)
          clear hf; intro a hf
          refine step_l (st_rd hf (Wn.none rfl) (rd_load1 hf rfl rfl ag24 (by intro _ h; first | exact h.cell (by repeat (first | exact Sel.head | apply Sel.tail)) (by rfl))) hS rfl rfl ?_)
          clear hf; intro a hf
          refine step_l (st_rd hf (Wn.none rfl) (rd_assign hf rfl rfl) hS rfl rfl ?_)
          clear hf; intro a hf
          refine done_l ?_
          refine t_normal ?_
          refine c_ret ?_
          refine e_res1 hf.defers rfl (res_tmp hf rfl .nil) ?_
          first | exact ⟨rfl, d2, hS.sub (by repeat (first | exact Sub.refl | exact Sub.none | exact Sub.behind | (apply Sub.cons; (focus ((repeat (first | exact Sel.head | apply Sel.tail)); done))) | apply Sub.skip))⟩ | exact ⟨rfl, d, hS.sub (by repeat (first | exact Sub.refl | exact Sub.none | exact Sub.behind | (apply Sub.cons; (focus ((repeat (first | exact Sel.head | apply Sel.tail)); done))) | apply Sub.skip))⟩
          )

theorem entry_c (i : Nat) {W : World} {R : List HP} {w : World} (hS : Sat W (R) w)  : Calls Try.prog 28 [.int .i64 (i : Nat)].toArray w (Ret fun v w' => v = u32v (entB i) ∧ Sat W R w') := by
  refine fn_start 18 Try.func28 rfl rfl rfl ?_
  intro a hf
  refine c_seq ?_
  refine c_region ?_
  refine step_l (st_rd hf (Wn.none rfl) (rd_assign hf rfl rfl) hS rfl rfl ?_)
  clear hf; intro a hf
  refine done_l ?_
  refine t_normal ?_
  refine c_seq ?_
  refine c_region ?_
  refine step_l (st_rd hf (Wn.none rfl) (rd_move hf rfl rfl) hS rfl rfl ?_)
  clear hf; intro a hf
  refine step_l (st_rd hf (Wn.none rfl) (rd_convInt hf rfl rfl Try.underlying3 Try.underlying24 (n32_nat i)) hS rfl rfl ?_)
  clear hf; intro a hf
  refine step_l (st_rd hf (Wn.none rfl) (rd_assign hf rfl rfl) hS rfl rfl ?_)
  clear hf; intro a hf
  refine done_l ?_
  refine t_normal ?_
  refine c_seq ?_
  refine c_seq ?_
  refine c_region ?_
  refine step_l (st_rd hf (Wn.none rfl) (rd_move hf rfl rfl) hS rfl rfl ?_)
  clear hf; intro a hf
  refine done_l ?_
  refine t_normal ?_
  refine c_block ?_
  have hk0 := Keep.of hf [(3, 3), (6, 16)] (by repeat (first | exact Keep.nil | apply Keep.drop rfl | apply Keep.take rfl))
  refine c_loopK hk0 (α := Nat × B32) (fun ⟨k, c⟩ => [(3, u32v c), (6, .int .i64 (k : Nat))]) (fun ⟨k, c⟩ w => Sat W (R) w ∧ k ≤ 8 ∧ entB i = eSteps (8 - k) c) (fun ⟨k, c⟩ => 8 - k) (0, BitVec.ofNat 32 i) (((hf.keep hk0).kb hf 6 rfl (by first | rfl | exact int_eq (by omega))).kb hf 3 rfl (by first | rfl | exact int_eq (by omega))) ⟨hS.sub (by repeat (first | exact Sub.refl | exact Sub.none | exact Sub.behind | (apply Sub.cons; (focus ((repeat (first | exact Sel.head | apply Sel.tail)); done))) | apply Sub.skip)), ⟨by omega, rfl⟩⟩ ?_
  clear hf hS; rintro ⟨k, c⟩ a w hf ⟨hS, ⟨hk, hrec⟩⟩; (try dsimp only [List.cons_append, List.nil_append] at hf)
  refine c_seq ?_
  refine c_region ?_
  refine step_l (st_rdB hf (Wn.none rfl) (rd_lss hf rfl rfl rfl) hS rfl rfl ?_ ?_)
  · clear hf; intro hc1 a hf
    refine done_l ?_
    refine t_normal ?_
    refine c_seq ?_
    refine c_true hf rfl ?_
    refine c_skip ?_
    refine t_normal ?_
    refine c_seq ?_
    refine c_block ?_
    refine c_seq ?_
    refine c_region ?_
    refine step_l (st_rd hf (Wn.none rfl) (rd_move hf rfl rfl) hS rfl rfl ?_)
    clear hf; intro a hf
    refine step_l (st_rd hf (Wn.none rfl) (rd_and hf rfl rfl rfl (n32_andc _ 1#32 rfl)) hS rfl rfl ?_)
    clear hf; intro a hf
    refine step_l (st_rdB hf (Wn.none rfl) (rd_eql hf rfl rfl rfl) hS rfl rfl ?_ ?_)
    · clear hf; intro hc2 a hf
      have hb : c &&& 1#32 = 1#32 := (n32_eq (k := 1) (by decide)).1 hc2
      refine done_l ?_
      refine t_normal ?_
      refine c_true hf rfl ?_
      refine c_region ?_
      refine step_l (st_rd hf (Wn.none rfl) (rd_move hf rfl rfl) hS rfl rfl ?_)
      clear hf; intro a hf
      refine step_l (st_rd hf (Wn.none rfl) (rd_shr hf rfl rfl rfl (by first | decide | omega) (n32_shr _ 1 rfl (by decide))) hS rfl rfl ?_)
      clear hf; intro a hf
      refine step_l (st_rd hf (Wn.none rfl) (rd_xor hf rfl rfl rfl (n32_xorc _ 0xedb88320#32 rfl)) hS rfl rfl ?_)
      clear hf; intro a hf
      refine step_l (st_rd hf (Wn.none rfl) (rd_assign hf rfl rfl) hS rfl rfl ?_)
      clear hf; intro a hf
      refine done_l ?_
      refine b_normal ?_
      refine t_normal ?_
      refine c_region ?_
      refine step_l (st_rd hf (Wn.none rfl) (rd_add hf rfl rfl rfl (by first | exact Go.IntWalk.i64_in _ (by omega) | exact rfl)) hS rfl rfl ?_)
      clear hf; intro a hf
      refine step_l (st_rd hf (Wn.none rfl) (rd_move hf rfl rfl) hS rfl rfl ?_)
      clear hf; intro a hf
      refine done_l ?_
      refine t_normal ⟨(k + 1, (c >>> 1) ^^^ 0xedb88320#32), (((hf.back (by repeat (first | exact Behind.refl | refine Behind.skip rfl ?_)) hk0).kb hf 6 rfl (by first | rfl | exact int_eq (by omega))).kb hf 3 rfl (by first | rfl | exact int_eq (by omega))), ⟨hS.sub (by repeat (first | exact Sub.refl | exact Sub.none | exact Sub.behind | (apply Sub.cons; (focus ((repeat (first | exact Sel.head | apply Sel.tail)); done))) | apply Sub.skip)), ⟨by omega, by rw [hrec, eSteps_succ k c (by omega), show eStep c = _ from if_pos hb]⟩⟩, by first | omega | (simp only []; omega)⟩
    · clear hf; intro hc2 a hf
      have hb : ¬ c &&& 1#32 = 1#32 := fun h => hc2 ((n32_eq (k := 1) (by decide)).2 h)
      refine done_l ?_
      refine t_normal ?_
      refine c_false hf rfl ?_
      refine c_region ?_
      refine step_l (st_rd hf (Wn.none rfl) (rd_move hf rfl rfl) hS rfl rfl ?_)
      clear hf; intro a hf
      refine step_l (st_rd hf (Wn.none rfl) (rd_shr hf rfl rfl rfl (by first | decide | omega) (n32_shr _ 1 rfl (by decide))) hS rfl rfl ?_)
      clear hf; intro a hf
      refine step_l (st_rd hf (Wn.none rfl) (rd_assign hf rfl rfl) hS rfl rfl ?_)
      clear hf; intro a hf
      refine done_l ?_
      refine b_normal ?_
      refine t_normal ?_
      refine c_region ?_
      refine step_l (st_rd hf (Wn.none rfl) (rd_add hf rfl rfl rfl (by first | exact Go.IntWalk.i64_in _ (by omega) | exact rfl)) hS rfl rfl ?_)
      clear hf; intro a hf
      refine step_l (st_rd hf (Wn.none rfl) (rd_move hf rfl rfl) hS rfl rfl ?_)
      clear hf; intro a hf
      refine done_l ?_
      refine t_normal ⟨(k + 1, c >>> 1), (((hf.back (by repeat (first | exact Behind.refl | refine Behind.skip rfl ?_)) hk0).kb hf 6 rfl (by first | rfl | exact int_eq (by omega))).kb hf 3 rfl (by first | rfl | exact int_eq (by omega))), ⟨hS.sub (by repeat (first | exact Sub.refl | exact Sub.none | exact Sub.behind | (apply Sub.cons; (focus ((repeat (first | exact Sel.head | apply Sel.tail)); done))) | apply Sub.skip)), ⟨by omega, by rw [hrec, eSteps_succ k c (by omega), show eStep c = _ from if_neg hb]⟩⟩, by first | omega | (simp only []; omega)⟩
  · clear hf; intro hc1 a hf
    obtain rfl : k = 8 := by omega
    refine done_l ?_
    refine t_normal ?_
    refine c_seq ?_
    refine c_false hf rfl ?_
    refine c_exit ?_
    refine t_exit ?_
    refine t_exit ?_
    refine b_exit ?_
    refine t_normal ?_
    refine c_seq ?_
    refine c_region ?_
    refine step_l (st_rd hf (Wn.none rfl) (rd_move hf rfl rfl) hS rfl rfl ?_)
    clear hf; intro a hf
    refine step_l (st_rd hf (Wn.none rfl) (rd_assign hf rfl rfl) hS rfl rfl ?_)
    clear hf; intro a hf
    refine done_l ?_
    refine t_normal ?_
    refine c_ret ?_
    refine e_res1 hf.defers rfl (res_tmp hf rfl .nil) ?_
    rw [hrec]; exact ⟨rfl, hS.sub (by repeat (first | exact Sub.refl | exact Sub.none | exact Sub.behind | (apply Sub.cons; (focus ((repeat (first | exact Sel.head | apply Sel.tail)); done))) | apply Sub.skip))⟩

theorem Entry_c (i : Nat) {W : World} {R : List HP} {w : World} (hS : Sat W (R) w)  : Calls Try.prog 12 [.int .i64 (i : Nat)].toArray w (Ret fun v w' => v = u32v (entB i) ∧ Sat W R w') := by
  refine fn_start 18 Try.func12 rfl rfl rfl ?_
  intro a hf
  refine c_seq ?_
  refine c_region ?_
  refine step_l (st_rd hf (Wn.none rfl) (rd_assign hf rfl rfl) hS rfl rfl ?_)
  clear hf; intro a hf
  refine done_l ?_
  refine t_normal ?_
  refine c_seq ?_
  refine c_region ?_
  refine step_l (st_rd hf (Wn.none rfl) (rd_move hf rfl rfl) hS rfl rfl ?_)
  clear hf; intro a hf
  refine step_l (st_rd hf (Wn.none rfl) (rd_convInt hf rfl rfl Try.underlying3 Try.underlying24 (n32_nat i)) hS rfl rfl ?_)
  clear hf; intro a hf
  refine step_l (st_rd hf (Wn.none rfl) (rd_assign hf rfl rfl) hS rfl rfl ?_)
  clear hf; intro a hf
  refine done_l ?_
  refine t_normal ?_
  refine c_seq ?_
  refine c_seq ?_
  refine c_region ?_
  refine step_l (st_rd hf (Wn.none rfl) (rd_move hf rfl rfl) hS rfl rfl ?_)
  clear hf; intro a hf
  refine done_l ?_
  refine t_normal ?_
  refine c_block ?_
  have hk0 := Keep.of hf [(3, 3), (6, 16)] (by repeat (first | exact Keep.nil | apply Keep.drop rfl | apply Keep.take rfl))
  refine c_loopK hk0 (α := Nat × B32) (fun ⟨k, c⟩ => [(3, u32v c), (6, .int .i64 (k : Nat))]) (fun ⟨k, c⟩ w => Sat W (R) w ∧ k ≤ 8 ∧ entB i = eSteps (8 - k) c) (fun ⟨k, c⟩ => 8 - k) (0, BitVec.ofNat 32 i) (((hf.keep hk0).kb hf 6 rfl (by first | rfl | exact int_eq (by omega))).kb hf 3 rfl (by first | rfl | exact int_eq (by omega))) ⟨hS.sub (by repeat (first | exact Sub.refl | exact Sub.none | exact Sub.behind | (apply Sub.cons; (focus ((repeat (first | exact Sel.head | apply Sel.tail)); done))) | apply Sub.skip)), ⟨by omega, rfl⟩⟩ ?_
  clear hf hS; rintro ⟨k, c⟩ a w hf ⟨hS, ⟨hk, hrec⟩⟩; (try dsimp only [List.cons_append, List.nil_append] at hf)
  refine c_seq ?_
  refine c_region ?_
  refine step_l (st_rdB hf (Wn.none rfl) (rd_lss hf rfl rfl rfl) hS rfl rfl ?_ ?_)
  · clear hf; intro hc1 a hf
    refine done_l ?_
    refine t_normal ?_
    refine c_seq ?_
    refine c_true hf rfl ?_
    refine c_skip ?_
    refine t_normal ?_
    refine c_seq ?_
    refine c_block ?_
    refine c_seq ?_
    refine c_region ?_
    refine step_l (st_rd hf (Wn.none rfl) (rd_move hf rfl rfl) hS rfl rfl ?_)
    clear hf; intro a hf
    refine step_l (st_rd hf (Wn.none rfl) (rd_and hf rfl rfl rfl (n32_andc _ 1#32 rfl)) hS rfl rfl ?_)
    clear hf; intro a hf
    refine step_l (st_rdB hf (Wn.none rfl) (rd_eql hf rfl rfl rfl) hS rfl rfl ?_ ?_)
    · clear hf; intro hc2 a hf
      have hb : c &&& 1#32 = 1#32 := (n32_eq (k := 1) (by decide)).1 hc2
      refine done_l ?_
      refine t_normal ?_
      refine c_true hf rfl ?_
      refine c_region ?_
      refine step_l (st_rd hf (Wn.none rfl) (rd_move hf rfl rfl) hS rfl rfl ?_)
      clear hf; intro a hf
      refine step_l (st_rd hf (Wn.none rfl) (rd_shr hf rfl rfl rfl (by first | decide | omega) (n32_shr _ 1 rfl (by decide))) hS rfl rfl ?_)
      clear hf; intro a hf
      refine step_l (st_rd hf (Wn.none rfl) (rd_xor hf rfl rfl rfl (n32_xorc _ 0xedb88320#32 rfl)) hS rfl rfl ?_)
      clear hf; intro a hf
      refine step_l (st_rd hf (Wn.none rfl) (rd_assign hf rfl rfl) hS rfl rfl ?_)
      clear hf; intro a hf
      refine done_l ?_
      refine b_normal ?_
      refine t_normal ?_
      refine c_region ?_
      refine step_l (st_rd hf (Wn.none rfl) (rd_add hf rfl rfl rfl (by first | exact Go.IntWalk.i64_in _ (by omega) | exact rfl)) hS rfl rfl ?_)
      clear hf; intro a hf
      refine step_l (st_rd hf (Wn.none rfl) (rd_move hf rfl rfl) hS rfl rfl ?_)
      clear hf; intro a hf
      refine done_l ?_
      refine t_normal ⟨(k + 1, (c >>> 1) ^^^ 0xedb88320#32), (((hf.back (by repeat (first | exact Behind.refl | refine Behind.skip rfl ?_)) hk0).kb hf 6 rfl (by first | rfl | exact int_eq (by omega))).kb hf 3 rfl (by first | rfl | exact int_eq (by omega))), ⟨hS.sub (by repeat (first | exact Sub.refl | exact Sub.none | exact Sub.behind | (apply Sub.cons; (focus ((repeat (first | exact Sel.head | apply Sel.tail)); done))) | apply Sub.skip)), ⟨by omega, by rw [hrec, eSteps_succ k c (by omega), show eStep c = _ from if_pos hb]⟩⟩, by first | omega | (simp only []; omega)⟩
    · clear hf; intro hc2 a hf
      have hb : ¬ c &&& 1#32 = 1#32 := fun h => hc2 ((n32_eq (k := 1) (by decide)).2 h)
      refine done_l ?_
      refine t_normal ?_
      refine c_false hf rfl ?_
      refine c_region ?_
      refine step_l (st_rd hf (Wn.none rfl) (rd_move hf rfl rfl) hS rfl rfl ?_)
      clear hf; intro a hf
      refine step_l (st_rd hf (Wn.none rfl) (rd_shr hf rfl rfl rfl (by first | decide | omega) (n32_shr _ 1 rfl (by decide))) hS rfl rfl ?_)
      clear hf; intro a hf
      refine step_l (st_rd hf (Wn.none rfl) (rd_assign hf rfl rfl) hS rfl rfl ?_)
      clear hf; intro a hf
      refine done_l ?_
      refine b_normal ?_
      refine t_normal ?_
      refine c_region ?_
      refine step_l (st_rd hf (Wn.none rfl) (rd_add hf rfl rfl rfl (by first | exact Go.IntWalk.i64_in _ (by omega) | exact rfl)) hS rfl rfl ?_)
      clear hf; intro a hf
      refine step_l (st_rd hf (Wn.none rfl) (rd_move hf rfl rfl) hS rfl rfl ?_)
      clear hf; intro a hf
      refine done_l ?_
      refine t_normal ⟨(k + 1, c >>> 1), (((hf.back (by repeat (first | exact Behind.refl | refine Behind.skip rfl ?_)) hk0).kb hf 6 rfl (by first | rfl | exact int_eq (by omega))).kb hf 3 rfl (by first | rfl | exact int_eq (by omega))), ⟨hS.sub (by repeat (first | exact Sub.refl | exact Sub.none | exact Sub.behind | (apply Sub.cons; (focus ((repeat (first | exact Sel.head | apply Sel.tail)); done))) | apply Sub.skip)), ⟨by omega, by rw [hrec, eSteps_succ k c (by omega), show eStep c = _ from if_neg hb]⟩⟩, by first | omega | (simp only []; omega)⟩
  · clear hf; intro hc1 a hf
    obtain rfl : k = 8 := by omega
    refine done_l ?_
    refine t_normal ?_
    refine c_seq ?_
    refine c_false hf rfl ?_
    refine c_exit ?_
    refine t_exit ?_
    refine t_exit ?_
    refine b_exit ?_
    refine t_normal ?_
    refine c_seq ?_
    refine c_region ?_
    refine step_l (st_rd hf (Wn.none rfl) (rd_move hf rfl rfl) hS rfl rfl ?_)
    clear hf; intro a hf
    refine step_l (st_rd hf (Wn.none rfl) (rd_assign hf rfl rfl) hS rfl rfl ?_)
    clear hf; intro a hf
    refine done_l ?_
    refine t_normal ?_
    refine c_ret ?_
    refine e_res1 hf.defers rfl (res_tmp hf rfl .nil) ?_
    rw [hrec]; exact ⟨rfl, hS.sub (by repeat (first | exact Sub.refl | exact Sub.none | exact Sub.behind | (apply Sub.cons; (focus ((repeat (first | exact Sel.head | apply Sel.tail)); done))) | apply Sub.skip))⟩

theorem Poly_c  {W : World} {R : List HP} {w : World} (hS : Sat W (R) w)  : Calls Try.prog 11 [].toArray w (Ret fun v w' => ∃ p, v = .pointer (some ⟨p, 0, none⟩) ∧ Sat W (TbP 63 24 p 256 (.func (.func 28) #[] #[]) (tvals pf pg () 256) false :: R) w') := by
  refine fn_start 2 Try.func11 rfl rfl rfl ?_
  intro a hf
  refine c_seq ?_
  refine c_region ?_
  refine step_l (st_rd hf (Wn.none rfl) (rd_assign hf rfl rfl) hS rfl rfl ?_)
  clear hf; intro a hf
  refine done_l ?_
  refine t_normal ?_
  refine c_seq ?_
  refine c_region ?_
  refine step_l (st_call hf (Wn.none rfl) rfl rfl rfl fn16 (LNew_c _ _ (tvals pf pg () 256) 256 hS (by decide) rfl) rfl rfl ?_)
  clear hf hS; rintro v a w ⟨p, rfl, hS⟩ hf
  refine step_l (st_rd hf (Wn.none rfl) (rd_assign hf rfl rfl) hS rfl rfl ?_)
  clear hf; intro a hf
  refine done_l ?_
  refine t_normal ?_
  refine c_ret ?_
  refine e_res1 hf.defers rfl (res_tmp hf rfl .nil) ?_
  exact ⟨p, rfl, hS.sub (by repeat (first | exact Sub.refl | exact Sub.none | exact Sub.behind | (apply Sub.cons; (focus ((repeat (first | exact Sel.head | apply Sel.tail)); done))) | apply Sub.skip))⟩

theorem Sum_c {σ : Type} (M : σ → HP) (f : σ → Nat → B32) (g : σ → Nat → σ) (s0 : σ) (p n fk : Nat) (us caps : List Value) (d0 : Bool) (b : List UInt8) (qb : Option Addr) (nb cb : Nat) {W : World} {R : List HP} {w : World} (hS : Sat W (TbP 63 24 p n (.func (.func fk) us.toArray caps.toArray) (tvals f g s0 n) d0 :: M (if d0 = true then mst g s0 n else s0) :: R) w) (hfb : fnB Try.prog fk = true) (hmk : ∀ (i : Nat) (l : List HP) (w : World), i < n → Sat W (M (mst g s0 i) :: l) w → (∀ w, Sat W l w → Sat W R w) → Calls Try.prog fk (us ++ [Value.int .i64 (i : Nat)] ++ caps).toArray w (Ret fun v w' => v = u32v (f (mst g s0 i) i) ∧ Sat W (M (mst g s0 (i + 1)) :: l) w')) (hn : n ≤ 4096) (hnb : nb = b.length) (hb : b.length ≤ 140737488355328) (hvb : ∀ w, Sat W R w → SlAt w qb b.length 1 (bvs b)) : Calls Try.prog 23 [.pointer (some ⟨p, 0, none⟩), .slice qb nb cb].toArray w (Ret fun v w' => v = u32v (sumB (fun i : Nat => tAt n (tvals f g s0 n) (i : Int)) b) ∧ ∃ d, Sat W (TbP 63 24 p n (.func (.func fk) us.toArray caps.toArray) (tvals f g s0 n) d :: M (if d = true then mst g s0 n else s0) :: R) w') := by
  refine fn_start 28 Try.func23 rfl rfl rfl ?_
  intro a hf
  subst hnb
  refine c_seq ?_
  refine c_region ?_
  refine step_l (st_rd hf (Wn.none rfl) (rd_assign hf rfl rfl) hS rfl rfl ?_)
  clear hf; intro a hf
  refine done_l ?_
  refine t_normal ?_
  refine c_seq ?_
  refine c_region ?_
  refine step_l (st_rd hf (Wn.none rfl) (rd_assign hf rfl rfl) hS rfl rfl ?_)
  clear hf; intro a hf
  refine done_l ?_
  refine t_normal ?_
  refine c_seq ?_
  refine c_seq ?_
  refine c_region ?_
  refine step_l (st_rd hf (Wn.none rfl) (rd_move hf rfl rfl) hS rfl rfl ?_)
  clear hf; intro a hf
  refine step_l (st_rd hf (Wn.none rfl) (rd_len hf rfl rfl Try.underlying38) hS rfl rfl ?_)
  clear hf; intro a hf
  refine step_l (st_rd hf (Wn.none rfl) (rd_move hf rfl rfl) hS rfl rfl ?_)
  clear hf; intro a hf
  refine done_l ?_
  refine t_normal ?_
  refine c_block ?_
  have hk0 := Keep.of hf [(5, 5), (7, 7), (10, 25)] (by repeat (first | exact Keep.nil | apply Keep.drop rfl | apply Keep.take rfl))
  refine c_loopK hk0 (α := Nat × B32 × Bool) (fun ⟨k, c, d⟩ => [(5, u32v c), (10, .int .i64 (k : Nat))]) (fun ⟨k, c, d⟩ w => Sat W (TbP 63 24 p n (.func (.func fk) us.toArray caps.toArray) (tvals f g s0 n) d :: M (if d = true then mst g s0 n else s0) :: R) w ∧ k ≤ b.length ∧ sFold (fun i : Nat => tAt n (tvals f g s0 n) (i : Int)) 0xffffffff#32 b = sFold (fun i : Nat => tAt n (tvals f g s0 n) (i : Int)) c (b.drop k)) (fun ⟨k, c, d⟩ => b.length - k) (0, 0xffffffff#32, d0) (((hf.keep hk0).kb hf 10 rfl (by first | rfl | exact int_eq (by omega))).kb hf 5 rfl (by first | rfl | exact int_eq (by omega))) ⟨hS.sub (by repeat (first | exact Sub.refl | exact Sub.none | exact Sub.behind | (apply Sub.cons; (focus ((repeat (first | exact Sel.head | apply Sel.tail)); done))) | apply Sub.skip)), ⟨by omega, rfl⟩⟩ ?_
  clear hf hS; rintro ⟨k, c, d⟩ a w hf ⟨hS, ⟨hk, hrec⟩⟩; (try dsimp only [List.cons_append, List.nil_append] at hf)
  refine c_seq ?_
  refine c_region ?_
  refine step_l (st_rdB hf (Wn.none rfl) (rd_lss hf rfl rfl rfl) hS rfl rfl ?_ ?_)
  · clear hf; intro hc1 a hf
    obtain ⟨x, hget⟩ := get_of_lt (l := b) (k := k) (by omega) rfl; obtain ⟨adb, rfl⟩ := (hvb _ (hS.sub (by repeat (first | exact Sub.refl | exact Sub.none | exact Sub.behind | (apply Sub.cons; (focus ((repeat (first | exact Sel.head | apply Sel.tail)); done))) | apply Sub.skip)))).some (by omega)
    refine done_l ?_
    refine t_normal ?_
    refine c_seq ?_
    refine c_true hf rfl ?_
    refine c_skip ?_
    refine t_normal ?_
    refine c_seq ?_
    refine c_block ?_
    refine c_seq ?_
    refine c_region ?_
    refine step_l (st_rd hf (Wn.none rfl) ((by first | exact rd_indexAddrN1 hf rfl rfl rfl Try.underlying38 sz5 (by omega) | exact rd_indexAddr hf rfl rfl rfl Try.underlying38 sz5 (by first | decide | omega) (by omega))) hS rfl rfl ?_)
    clear hf; intro a hf
    refine step_l (st_rd hf (Wn.none rfl) (rd_load1 hf rfl rfl ag5 (by intro _ h; exact (hvb _ (h.sub (by repeat (first | exact Sub.refl | exact Sub.none | exact Sub.behind | (apply Sub.cons; (focus ((repeat (first | exact Sel.head | apply Sel.tail)); done))) | apply Sub.skip)))).get (bvs_get hget))) hS rfl rfl ?_)
    clear hf; intro a hf
    refine step_l (st_rd hf (Wn.none rfl) (rd_assign hf rfl rfl) hS rfl rfl ?_)
    clear hf; intro a hf
    refine done_l ?_
    refine t_normal ?_
    refine c_region ?_
    refine step_l (st_rd hf (Wn.none rfl) (rd_move hf rfl rfl) hS rfl rfl ?_)
    clear hf; intro a hf
    refine step_l (st_rd hf (Wn.none rfl) (rd_move hf rfl rfl) hS rfl rfl ?_)
    clear hf; intro a hf
    refine step_l (st_rd hf (Wn.none rfl) (rd_move hf rfl rfl) hS rfl rfl ?_)
    clear hf; intro a hf
    refine step_l (st_rd hf (Wn.none rfl) (rd_convInt hf rfl rfl Try.underlying5 Try.underlying24 (n32_conv8' _)) hS rfl rfl ?_)
    clear hf; intro a hf
    refine step_l (st_rd hf (Wn.none rfl) (rd_xor hf rfl rfl rfl (n32_xor _ _)) hS rfl rfl ?_)
    clear hf; intro a hf
    refine step_l (st_rd hf (Wn.none rfl) (rd_and hf rfl rfl rfl (n32_andc _ 0xff#32 rfl)) hS rfl rfl ?_)
    clear hf; intro a hf
    refine step_l (st_rd hf (Wn.none rfl) (rd_convInt hf rfl rfl Try.underlying24 Try.underlying3 (n64_of32 _)) hS rfl rfl ?_)
    clear hf; intro a hf
    refine step_l (st_call hf (Wn.none rfl) rfl rfl rfl fn14 (At_c M f g s0 p n fk us caps ((sIdx c x : Nat) : Int) d (hS.sels (.cons (by repeat (first | exact Sel.head | apply Sel.tail)) (.cons (by repeat (first | exact Sel.head | apply Sel.tail)) .nil))) hfb hmk hn) rfl rfl ?_)
    clear hf hS; rintro v a w ⟨rfl, hS⟩ hf
    refine step_l (st_rd hf (Wn.none rfl) (rd_move hf rfl rfl) hS rfl rfl ?_)
    clear hf; intro a hf
    refine step_l (st_rd hf (Wn.none rfl) (rd_shr hf rfl rfl rfl (by first | decide | omega) (n32_shr _ 8 rfl (by decide))) hS rfl rfl ?_)
    clear hf; intro a hf
    refine step_l (st_rd hf (Wn.none rfl) (rd_xor hf rfl rfl rfl (n32_xor _ _)) hS rfl rfl ?_)
    clear hf; intro a hf
    refine step_l (st_rd hf (Wn.none rfl) (rd_assign hf rfl rfl) hS rfl rfl ?_)
    clear hf; intro a hf
    refine done_l ?_
    refine b_normal ?_
    refine t_normal ?_
    refine c_region ?_
    refine step_l (st_rd hf (Wn.none rfl) (rd_add hf rfl rfl rfl (by first | exact Go.IntWalk.i64_in _ (by omega) | exact rfl)) hS rfl rfl ?_)
    clear hf; intro a hf
    refine step_l (st_rd hf (Wn.none rfl) (rd_move hf rfl rfl) hS rfl rfl ?_)
    clear hf; intro a hf
    refine done_l ?_
    refine t_normal ⟨(k + 1, sStep (fun i : Nat => tAt n (tvals f g s0 n) (i : Int)) c x, d || decide (inT n ((sIdx c x : Nat) : Int))), (((hf.back (by repeat (first | exact Behind.refl | refine Behind.skip rfl ?_)) hk0).kb hf 10 rfl (by first | rfl | exact int_eq (by omega))).kb hf 5 rfl (by first | rfl | exact int_eq (by omega))), ⟨hS.sub (by repeat (first | exact Sub.refl | exact Sub.none | exact Sub.behind | (apply Sub.cons; (focus ((repeat (first | exact Sel.head | apply Sel.tail)); done))) | apply Sub.skip)), ⟨by omega, by rw [hrec, drop_at hget]; rfl⟩⟩, by first | omega | (simp only []; omega)⟩
  · clear hf; intro hc1 a hf
    rw [List.drop_of_length_le (by omega)] at hrec
    refine done_l ?_
    refine t_normal ?_
    refine c_seq ?_
    refine c_false hf rfl ?_
    refine c_exit ?_
    refine t_exit ?_
    refine t_exit ?_
    refine b_exit ?_
    refine t_normal ?_
    refine c_seq ?_
    refine c_region ?_
    refine step_l (st_rd hf (Wn.none rfl) (rd_move hf rfl rfl) hS rfl rfl ?_)
    clear hf; intro a hf
    refine step_l (st_rd hf (Wn.none rfl) (rd_bitnot hf rfl rfl (n32_not _)) hS rfl rfl ?_)
    clear hf; intro a hf
    refine step_l (st_rd hf (Wn.none rfl) (rd_assign hf rfl rfl) hS rfl rfl ?_)
    clear hf; intro a hf
    refine done_l ?_
    refine t_normal ?_
    refine c_ret ?_
    refine e_res1 hf.defers rfl (res_tmp hf rfl .nil) ?_
    exact ⟨by unfold sumB; rw [hrec]; rfl, d, hS.sub (by repeat (first | exact Sub.refl | exact Sub.none | exact Sub.behind | (apply Sub.cons; (focus ((repeat (first | exact Sel.head | apply Sel.tail)); done))) | apply Sub.skip))⟩

theorem SumN_c (b : List UInt8) (qb : Option Addr) (nb cb : Nat) {W : World} {R : List HP} {w : World} (hS : Sat W (R) w) (hnb : nb = b.length) (hb : b.length ≤ 140737488355328) (hvb : ∀ w, Sat W R w → SlAt w qb b.length 1 (bvs b)) : Calls Try.prog 23 [.pointer none, .slice qb nb cb].toArray w (Ret fun v w' => v = u32v (sumB (fun _ => 0#32) b) ∧ Sat W R w') := by
  refine fn_start 28 Try.func23 rfl rfl rfl ?_
  intro a hf
  subst hnb
  refine c_seq ?_
  refine c_region ?_
  refine step_l (st_rd hf (Wn.none rfl) (rd_assign hf rfl rfl) hS rfl rfl ?_)
  clear hf; intro a hf
  refine done_l ?_
  refine t_normal ?_
  refine c_seq ?_
  refine c_region ?_
  refine step_l (st_rd hf (Wn.none rfl) (rd_assign hf rfl rfl) hS rfl rfl ?_)
  clear hf; intro a hf
  refine done_l ?_
  refine t_normal ?_
  refine c_seq ?_
  refine c_seq ?_
  refine c_region ?_
  refine step_l (st_rd hf (Wn.none rfl) (rd_move hf rfl rfl) hS rfl rfl ?_)
  clear hf; intro a hf
  refine step_l (st_rd hf (Wn.none rfl) (rd_len hf rfl rfl Try.underlying38) hS rfl rfl ?_)
  clear hf; intro a hf
  refine step_l (st_rd hf (Wn.none rfl) (rd_move hf rfl rfl) hS rfl rfl ?_)
  clear hf; intro a hf
  refine done_l ?_
  refine t_normal ?_
  refine c_block ?_
  have hk0 := Keep.of hf [(5, 5), (7, 7), (10, 25)] (by repeat (first | exact Keep.nil | apply Keep.drop rfl | apply Keep.take rfl))
  refine c_loopK hk0 (α := Nat × B32) (fun ⟨k, c⟩ => [(5, u32v c), (10, .int .i64 (k : Nat))]) (fun ⟨k, c⟩ w => Sat W (R) w ∧ k ≤ b.length ∧ sFold (fun _ => 0#32) 0xffffffff#32 b = sFold (fun _ => 0#32) c (b.drop k)) (fun ⟨k, c⟩ => b.length - k) (0, 0xffffffff#32) (((hf.keep hk0).kb hf 10 rfl (by first | rfl | exact int_eq (by omega))).kb hf 5 rfl (by first | rfl | exact int_eq (by omega))) ⟨hS.sub (by repeat (first | exact Sub.refl | exact Sub.none | exact Sub.behind | (apply Sub.cons; (focus ((repeat (first | exact Sel.head | apply Sel.tail)); done))) | apply Sub.skip)), ⟨by omega, rfl⟩⟩ ?_
  clear hf hS; rintro ⟨k, c⟩ a w hf ⟨hS, ⟨hk, hrec⟩⟩; (try dsimp only [List.cons_append, List.nil_append] at hf)
  refine c_seq ?_
  refine c_region ?_
  refine step_l (st_rdB hf (Wn.none rfl) (rd_lss hf rfl rfl rfl) hS rfl rfl ?_ ?_)
  · clear hf; intro hc1 a hf
    obtain ⟨x, hget⟩ := get_of_lt (l := b) (k := k) (by omega) rfl; obtain ⟨adb, rfl⟩ := (hvb _ (hS.sub (by repeat (first | exact Sub.refl | exact Sub.none | exact Sub.behind | (apply Sub.cons; (focus ((repeat (first | exact Sel.head | apply Sel.tail)); done))) | apply Sub.skip)))).some (by omega)
    refine done_l ?_
    refine t_normal ?_
    refine c_seq ?_
    refine c_true hf rfl ?_
    refine c_skip ?_
    refine t_normal ?_
    refine c_seq ?_
    refine c_block ?_
    refine c_seq ?_
    refine c_region ?_
    refine step_l (st_rd hf (Wn.none rfl) ((by first | exact rd_indexAddrN1 hf rfl rfl rfl Try.underlying38 sz5 (by omega) | exact rd_indexAddr hf rfl rfl rfl Try.underlying38 sz5 (by first | decide | omega) (by omega))) hS rfl rfl ?_)
    clear hf; intro a hf
    refine step_l (st_rd hf (Wn.none rfl) (rd_load1 hf rfl rfl ag5 (by intro _ h; exact (hvb _ (h.sub (by repeat (first | exact Sub.refl | exact Sub.none | exact Sub.behind | (apply Sub.cons; (focus ((repeat (first | exact Sel.head | apply Sel.tail)); done))) | apply Sub.skip)))).get (bvs_get hget))) hS rfl rfl ?_)
    clear hf; intro a hf
    refine step_l (st_rd hf (Wn.none rfl) (rd_assign hf rfl rfl) hS rfl rfl ?_)
    clear hf; intro a hf
    refine done_l ?_
    refine t_normal ?_
    refine c_region ?_
    refine step_l (st_rd hf (Wn.none rfl) (rd_move hf rfl rfl) hS rfl rfl ?_)
    clear hf; intro a hf
    refine step_l (st_rd hf (Wn.none rfl) (rd_move hf rfl rfl) hS rfl rfl ?_)
    clear hf; intro a hf
    refine step_l (st_rd hf (Wn.none rfl) (rd_move hf rfl rfl) hS rfl rfl ?_)
    clear hf; intro a hf
    refine step_l (st_rd hf (Wn.none rfl) (rd_convInt hf rfl rfl Try.underlying5 Try.underlying24 (n32_conv8' _)) hS rfl rfl ?_)
    clear hf; intro a hf
    refine step_l (st_rd hf (Wn.none rfl) (rd_xor hf rfl rfl rfl (n32_xor _ _)) hS rfl rfl ?_)
    clear hf; intro a hf
    refine step_l (st_rd hf (Wn.none rfl) (rd_and hf rfl rfl rfl (n32_andc _ 0xff#32 rfl)) hS rfl rfl ?_)
    clear hf; intro a hf
    refine step_l (st_rd hf (Wn.none rfl) (rd_convInt hf rfl rfl Try.underlying24 Try.underlying3 (n64_of32 _)) hS rfl rfl ?_)
    clear hf; intro a hf
    refine step_l (st_call hf (Wn.none rfl) rfl rfl rfl fn14 (LNAt_c _ hS) rfl rfl ?_)
    clear hf hS; rintro v a w ⟨rfl, hS⟩ hf
    refine step_l (st_rd hf (Wn.none rfl) (rd_move hf rfl rfl) hS rfl rfl ?_)
    clear hf; intro a hf
    refine step_l (st_rd hf (Wn.none rfl) (rd_shr hf rfl rfl rfl (by first | decide | omega) (n32_shr _ 8 rfl (by decide))) hS rfl rfl ?_)
    clear hf; intro a hf
    refine step_l (st_rd hf (Wn.none rfl) (rd_xor hf rfl rfl rfl (n32_xor _ _)) hS rfl rfl ?_)
    clear hf; intro a hf
    refine step_l (st_rd hf (Wn.none rfl) (rd_assign hf rfl rfl) hS rfl rfl ?_)
    clear hf; intro a hf
    refine done_l ?_
    refine b_normal ?_
    refine t_normal ?_
    refine c_region ?_
    refine step_l (st_rd hf (Wn.none rfl) (rd_add hf rfl rfl rfl (by first | exact Go.IntWalk.i64_in _ (by omega) | exact rfl)) hS rfl rfl ?_)
    clear hf; intro a hf
    refine step_l (st_rd hf (Wn.none rfl) (rd_move hf rfl rfl) hS rfl rfl ?_)
    clear hf; intro a hf
    refine done_l ?_
    refine t_normal ⟨(k + 1, sStep (fun _ => 0#32) c x), (((hf.back (by repeat (first | exact Behind.refl | refine Behind.skip rfl ?_)) hk0).kb hf 10 rfl (by first | rfl | exact int_eq (by omega))).kb hf 5 rfl (by first | rfl | exact int_eq (by omega))), ⟨hS.sub (by repeat (first | exact Sub.refl | exact Sub.none | exact Sub.behind | (apply Sub.cons; (focus ((repeat (first | exact Sel.head | apply Sel.tail)); done))) | apply Sub.skip)), ⟨by omega, by rw [hrec, drop_at hget]; rfl⟩⟩, by first | omega | (simp only []; omega)⟩
  · clear hf; intro hc1 a hf
    rw [List.drop_of_length_le (by omega)] at hrec
    refine done_l ?_
    refine t_normal ?_
    refine c_seq ?_
    refine c_false hf rfl ?_
    refine c_exit ?_
    refine t_exit ?_
    refine t_exit ?_
    refine b_exit ?_
    refine t_normal ?_
    refine c_seq ?_
    refine c_region ?_
    refine step_l (st_rd hf (Wn.none rfl) (rd_move hf rfl rfl) hS rfl rfl ?_)
    clear hf; intro a hf
    refine step_l (st_rd hf (Wn.none rfl) (rd_bitnot hf rfl rfl (n32_not _)) hS rfl rfl ?_)
    clear hf; intro a hf
    refine step_l (st_rd hf (Wn.none rfl) (rd_assign hf rfl rfl) hS rfl rfl ?_)
    clear hf; intro a hf
    refine done_l ?_
    refine t_normal ?_
    refine c_ret ?_
    refine e_res1 hf.defers rfl (res_tmp hf rfl .nil) ?_
    exact ⟨by unfold sumB; rw [hrec]; rfl, hS.sub (by repeat (first | exact Sub.refl | exact Sub.none | exact Sub.behind | (apply Sub.cons; (focus ((repeat (first | exact Sel.head | apply Sel.tail)); done))) | apply Sub.skip))⟩

theorem poly_mk (R : List HP) {W : World} : ∀ (i : Nat) (l : List HP) (w : World), i < 256 → Sat W ((fun _ : Unit => Fact True) (mst pg () i) :: l) w → (∀ w, Sat W l w → Sat W R w) → Calls Try.prog 28 ([] ++ [Value.int .i64 (i : Nat)] ++ []).toArray w (Ret fun v w' => v = u32v (pf (mst pg () i) i) ∧ Sat W ((fun _ : Unit => Fact True) (mst pg () (i + 1)) :: l) w') := fun i l w _ h _ => entry_c i h
theorem SumP_c (p : Nat) (d0 : Bool) (b : List UInt8) (qb : Option Addr) (nb cb : Nat) {W : World} {R : List HP} {w : World} (hS : Sat W (TbP 63 24 p 256 (.func (.func 28) #[] #[]) (tvals pf pg () 256) d0 :: R) w) (hnb : nb = b.length) (hb : b.length ≤ 140737488355328) (hvb : ∀ w, Sat W R w → SlAt w qb b.length 1 (bvs b)) : Calls Try.prog 23 [.pointer (some ⟨p, 0, none⟩), .slice qb nb cb].toArray w (Ret fun v w' => v = u32v (crcB b) ∧ ∃ d, Sat W (TbP 63 24 p 256 (.func (.func 28) #[] #[]) (tvals pf pg () 256) d :: R) w') := by
  have h0 : Sat W (TbP 63 24 p 256 (.func (.func 28) #[] #[]) (tvals pf pg () 256) d0 :: (fun _ : Unit => Fact True) (if d0 = true then mst pg () 256 else ()) :: R) w := (hS.fact trivial).sub (.cons (.tail .head) (.cons .head .refl))
  refine (Sum_c (fun _ : Unit => Fact True) pf pg () p 256 28 [] [] d0 b qb nb cb h0 fn28 (poly_mk R) (by decide) hnb hb hvb).mono fun e w' he => ?_
  cases e with
  | returned v => obtain ⟨h1, d, h2⟩ := he; exact ⟨by rw [h1, sum_poly], d, h2.sub (.cons .head (.skip .refl))⟩
  | panicked c => exact he.elim
  | outgrown => exact he.elim

theorem Mix_c (b : List UInt8) (qb : Option Addr) (nb cb : Nat) {W : World} {R : List HP} {w : World} (hS : Sat W (R) w) (hnb : nb = b.length) (hb : b.length ≤ 140737488355328) (hvb : ∀ w, Sat W R w → SlAt w qb b.length 1 (bvs b)) : Calls Try.prog 26 [.slice qb nb cb].toArray w (Ret fun v w' => v = u32v (mixB b) ∧ Sat W R w') := by
  refine fn_start 27 Try.func26 rfl rfl rfl ?_
  intro a hf
  subst hnb
  refine c_seq ?_
  refine c_region ?_
  refine step_l (st_rd hf (Wn.none rfl) (rd_assign hf rfl rfl) hS rfl rfl ?_)
  clear hf; intro a hf
  refine done_l ?_
  refine t_normal ?_
  refine c_seq ?_
  refine c_region ?_
  refine step_l (st_rd hf (Wn.none rfl) (rd_assign hf rfl rfl) hS rfl rfl ?_)
  clear hf; intro a hf
  refine done_l ?_
  refine t_normal ?_
  refine c_seq ?_
  refine c_seq ?_
  refine c_region ?_
  refine step_l (st_rd hf (Wn.none rfl) (rd_move hf rfl rfl) hS rfl rfl ?_)
  clear hf; intro a hf
  refine step_l (st_rd hf (Wn.none rfl) (rd_len hf rfl rfl Try.underlying38) hS rfl rfl ?_)
  clear hf; intro a hf
  refine step_l (st_rd hf (Wn.none rfl) (rd_move hf rfl rfl) hS rfl rfl ?_)
  clear hf; intro a hf
  refine done_l ?_
  refine t_normal ?_
  refine c_block ?_
  have hk0 := Keep.of hf [(3, 3), (5, 5), (8, 17)] (by repeat (first | exact Keep.nil | apply Keep.drop rfl | apply Keep.take rfl))
  refine c_loopK hk0 (α := Nat × B32) (fun ⟨k, c⟩ => [(3, u32v c), (8, .int .i64 (k : Nat))]) (fun ⟨k, c⟩ w => Sat W (R) w ∧ k ≤ b.length ∧ mFold 0x811c9dc5#32 b = mFold c (b.drop k)) (fun ⟨k, c⟩ => b.length - k) (0, 0x811c9dc5#32) (((hf.keep hk0).kb hf 8 rfl (by first | rfl | exact int_eq (by omega))).kb hf 3 rfl (by first | rfl | exact int_eq (by omega))) ⟨hS.sub (by repeat (first | exact Sub.refl | exact Sub.none | exact Sub.behind | (apply Sub.cons; (focus ((repeat (first | exact Sel.head | apply Sel.tail)); done))) | apply Sub.skip)), ⟨by omega, rfl⟩⟩ ?_
  clear hf hS; rintro ⟨k, c⟩ a w hf ⟨hS, ⟨hk, hrec⟩⟩; (try dsimp only [List.cons_append, List.nil_append] at hf)
  refine c_seq ?_
  refine c_region ?_
  refine step_l (st_rdB hf (Wn.none rfl) (rd_lss hf rfl rfl rfl) hS rfl rfl ?_ ?_)
  · clear hf; intro hc1 a hf
    obtain ⟨x, hget⟩ := get_of_lt (l := b) (k := k) (by omega) rfl; obtain ⟨adb, rfl⟩ := (hvb _ (hS.sub (by repeat (first | exact Sub.refl | exact Sub.none | exact Sub.behind | (apply Sub.cons; (focus ((repeat (first | exact Sel.head | apply Sel.tail)); done))) | apply Sub.skip)))).some (by omega)
    refine done_l ?_
    refine t_normal ?_
    refine c_seq ?_
    refine c_true hf rfl ?_
    refine c_skip ?_
    refine t_normal ?_
    refine c_seq ?_
    refine c_block ?_
    refine c_seq ?_
    refine c_region ?_
    refine step_l (st_rd hf (Wn.none rfl) ((by first | exact rd_indexAddrN1 hf rfl rfl rfl Try.underlying38 sz5 (by omega) | exact rd_indexAddr hf rfl rfl rfl Try.underlying38 sz5 (by first | decide | omega) (by omega))) hS rfl rfl ?_)
    clear hf; intro a hf
    refine step_l (st_rd hf (Wn.none rfl) (rd_load1 hf rfl rfl ag5 (by intro _ h; exact (hvb _ (h.sub (by repeat (first | exact Sub.refl | exact Sub.none | exact Sub.behind | (apply Sub.cons; (focus ((repeat (first | exact Sel.head | apply Sel.tail)); done))) | apply Sub.skip)))).get (bvs_get hget))) hS rfl rfl ?_)
    clear hf; intro a hf
    refine step_l (st_rd hf (Wn.none rfl) (rd_assign hf rfl rfl) hS rfl rfl ?_)
    clear hf; intro a hf
    refine done_l ?_
    refine t_normal ?_
    refine c_region ?_
    refine step_l (st_rd hf (Wn.none rfl) (rd_move hf rfl rfl) hS rfl rfl ?_)
    clear hf; intro a hf
    refine step_l (st_rd hf (Wn.none rfl) (rd_move hf rfl rfl) hS rfl rfl ?_)
    clear hf; intro a hf
    refine step_l (st_rd hf (Wn.none rfl) (rd_convInt hf rfl rfl Try.underlying5 Try.underlying24 (n32_conv8' _)) hS rfl rfl ?_)
    clear hf; intro a hf
    refine step_l (st_rd hf (Wn.none rfl) (rd_xor hf rfl rfl rfl (n32_xor _ _)) hS rfl rfl ?_)
    clear hf; intro a hf
    refine step_l (st_rd hf (Wn.none rfl) (rd_mul hf rfl rfl rfl (n32_mul _ 0x01000193#32 rfl)) hS rfl rfl ?_)
    clear hf; intro a hf
    refine step_l (st_rd hf (Wn.none rfl) (rd_assign hf rfl rfl) hS rfl rfl ?_)
    clear hf; intro a hf
    refine done_l ?_
    refine b_normal ?_
    refine t_normal ?_
    refine c_region ?_
    refine step_l (st_rd hf (Wn.none rfl) (rd_add hf rfl rfl rfl (by first | exact Go.IntWalk.i64_in _ (by omega) | exact rfl)) hS rfl rfl ?_)
    clear hf; intro a hf
    refine step_l (st_rd hf (Wn.none rfl) (rd_move hf rfl rfl) hS rfl rfl ?_)
    clear hf; intro a hf
    refine done_l ?_
    refine t_normal ⟨(k + 1, mStep c x), (((hf.back (by repeat (first | exact Behind.refl | refine Behind.skip rfl ?_)) hk0).kb hf 8 rfl (by first | rfl | exact int_eq (by omega))).kb hf 3 rfl (by first | rfl | exact int_eq (by omega))), ⟨hS.sub (by repeat (first | exact Sub.refl | exact Sub.none | exact Sub.behind | (apply Sub.cons; (focus ((repeat (first | exact Sel.head | apply Sel.tail)); done))) | apply Sub.skip)), ⟨by omega, by rw [hrec, drop_at hget]; rfl⟩⟩, by first | omega | (simp only []; omega)⟩
  · clear hf; intro hc1 a hf
    rw [List.drop_of_length_le (by omega)] at hrec
    refine done_l ?_
    refine t_normal ?_
    refine c_seq ?_
    refine c_false hf rfl ?_
    refine c_exit ?_
    refine t_exit ?_
    refine t_exit ?_
    refine b_exit ?_
    refine t_normal ?_
    refine c_seq ?_
    refine c_region ?_
    refine step_l (st_rd hf (Wn.none rfl) (rd_move hf rfl rfl) hS rfl rfl ?_)
    clear hf; intro a hf
    refine step_l (st_rd hf (Wn.none rfl) (rd_move hf rfl rfl) hS rfl rfl ?_)
    clear hf; intro a hf
    refine step_l (st_rd hf (Wn.none rfl) (rd_shr hf rfl rfl rfl (by first | decide | omega) (n32_shr _ 15 rfl (by decide))) hS rfl rfl ?_)
    clear hf; intro a hf
    refine step_l (st_rd hf (Wn.none rfl) (rd_xor hf rfl rfl rfl (n32_xor _ _)) hS rfl rfl ?_)
    clear hf; intro a hf
    refine step_l (st_rd hf (Wn.none rfl) (rd_mul hf rfl rfl rfl (n32_mul _ 0x85ebca6b#32 rfl)) hS rfl rfl ?_)
    clear hf; intro a hf
    refine step_l (st_rd hf (Wn.none rfl) (rd_assign hf rfl rfl) hS rfl rfl ?_)
    clear hf; intro a hf
    refine done_l ?_
    refine t_normal ?_
    refine c_seq ?_
    refine c_region ?_
    refine step_l (st_rd hf (Wn.none rfl) (rd_move hf rfl rfl) hS rfl rfl ?_)
    clear hf; intro a hf
    refine step_l (st_rd hf (Wn.none rfl) (rd_move hf rfl rfl) hS rfl rfl ?_)
    clear hf; intro a hf
    refine step_l (st_rd hf (Wn.none rfl) (rd_shr hf rfl rfl rfl (by first | decide | omega) (n32_shr _ 13 rfl (by decide))) hS rfl rfl ?_)
    clear hf; intro a hf
    refine step_l (st_rd hf (Wn.none rfl) (rd_xor hf rfl rfl rfl (n32_xor _ _)) hS rfl rfl ?_)
    clear hf; intro a hf
    refine step_l (st_rd hf (Wn.none rfl) (rd_assign hf rfl rfl) hS rfl rfl ?_)
    clear hf; intro a hf
    refine done_l ?_
    refine t_normal ?_
    refine c_ret ?_
    refine e_res1 hf.defers rfl (res_tmp hf rfl .nil) ?_
    exact ⟨by unfold mixB; rw [hrec]; rfl, hS.sub (by repeat (first | exact Sub.refl | exact Sub.none | exact Sub.behind | (apply Sub.cons; (focus ((repeat (first | exact Sel.head | apply Sel.tail)); done))) | apply Sub.skip))⟩

theorem RMix_c (b : List UInt8) (qb : Option Addr) (nb cb : Nat) {W : World} {R : List HP} {w : World} (hS : Sat W (R) w) (hnb : nb = b.length) (hb : b.length ≤ 140737488355328) (hvb : ∀ w, Sat W R w → SlAt w qb b.length 1 (bvs b)) : Calls Try.prog 27 [.slice qb nb cb].toArray w (Ret fun v w' => v = u32v (mixB b) ∧ Sat W R w') := by
  refine fn_start 28 Try.func27 rfl rfl rfl ?_
  intro a hf
  subst hnb
  refine c_seq ?_
  refine c_region ?_
  refine step_l (st_rd hf (Wn.none rfl) (rd_assign hf rfl rfl) hS rfl rfl ?_)
  clear hf; intro a hf
  refine done_l ?_
  refine t_normal ?_
  refine c_seq ?_
  refine c_region ?_
  refine step_l (st_rd hf (Wn.none rfl) (rd_assign hf rfl rfl) hS rfl rfl ?_)
  clear hf; intro a hf
  refine done_l ?_
  refine t_normal ?_
  refine c_seq ?_
  refine c_seq ?_
  refine c_region ?_
  refine step_l (st_rd hf (Wn.none rfl) (rd_move hf rfl rfl) hS rfl rfl ?_)
  clear hf; intro a hf
  refine step_l (st_rd hf (Wn.none rfl) (rd_len hf rfl rfl Try.underlying38) hS rfl rfl ?_)
  clear hf; intro a hf
  refine step_l (st_rd hf (Wn.none rfl) (rd_move hf rfl rfl) hS rfl rfl ?_)
  clear hf; intro a hf
  refine done_l ?_
  refine t_normal ?_
  refine c_block ?_
  have hk0 := Keep.of hf [(3, 3), (5, 5), (8, 17)] (by repeat (first | exact Keep.nil | apply Keep.drop rfl | apply Keep.take rfl))
  refine c_loopK hk0 (α := Nat × B32) (fun ⟨k, c⟩ => [(3, u32v c), (8, .int .i64 (k : Nat))]) (fun ⟨k, c⟩ w => Sat W (R) w ∧ k ≤ b.length ∧ mFold 0x811c9dc5#32 b = mFold c (b.drop k)) (fun ⟨k, c⟩ => b.length - k) (0, 0x811c9dc5#32) (((hf.keep hk0).kb hf 8 rfl (by first | rfl | exact int_eq (by omega))).kb hf 3 rfl (by first | rfl | exact int_eq (by omega))) ⟨hS.sub (by repeat (first | exact Sub.refl | exact Sub.none | exact Sub.behind | (apply Sub.cons; (focus ((repeat (first | exact Sel.head | apply Sel.tail)); done))) | apply Sub.skip)), ⟨by omega, rfl⟩⟩ ?_
  clear hf hS; rintro ⟨k, c⟩ a w hf ⟨hS, ⟨hk, hrec⟩⟩; (try dsimp only [List.cons_append, List.nil_append] at hf)
  refine c_seq ?_
  refine c_region ?_
  refine step_l (st_rdB hf (Wn.none rfl) (rd_lss hf rfl rfl rfl) hS rfl rfl ?_ ?_)
  · clear hf; intro hc1 a hf
    obtain ⟨x, hget⟩ := get_of_lt (l := b) (k := k) (by omega) rfl; obtain ⟨adb, rfl⟩ := (hvb _ (hS.sub (by repeat (first | exact Sub.refl | exact Sub.none | exact Sub.behind | (apply Sub.cons; (focus ((repeat (first | exact Sel.head | apply Sel.tail)); done))) | apply Sub.skip)))).some (by omega)
    refine done_l ?_
    refine t_normal ?_
    refine c_seq ?_
    refine c_true hf rfl ?_
    refine c_skip ?_
    refine t_normal ?_
    refine c_seq ?_
    refine c_block ?_
    refine c_seq ?_
    refine c_region ?_
    refine step_l (st_rd hf (Wn.none rfl) ((by first | exact rd_indexAddrN1 hf rfl rfl rfl Try.underlying38 sz5 (by omega) | exact rd_indexAddr hf rfl rfl rfl Try.underlying38 sz5 (by first | decide | omega) (by omega))) hS rfl rfl ?_)
    clear hf; intro a hf
    refine step_l (st_rd hf (Wn.none rfl) (rd_load1 hf rfl rfl ag5 (by intro _ h; exact (hvb _ (h.sub (by repeat (first | exact Sub.refl | exact Sub.none | exact Sub.behind | (apply Sub.cons; (focus ((repeat (first | exact Sel.head | apply Sel.tail)); done))) | apply Sub.skip)))).get (bvs_get hget))) hS rfl rfl ?_)
    clear hf; intro a hf
    refine step_l (st_rd hf (Wn.none rfl) (rd_assign hf rfl rfl) hS rfl rfl ?_)
    clear hf; intro a hf
    refine done_l ?_
    refine t_normal ?_
    refine c_region ?_
    refine step_l (st_rd hf (Wn.none rfl) (rd_move hf rfl rfl) hS rfl rfl ?_)
    clear hf; intro a hf
    refine step_l (st_rd hf (Wn.none rfl) (rd_move hf rfl rfl) hS rfl rfl ?_)
    clear hf; intro a hf
    refine step_l (st_rd hf (Wn.none rfl) (rd_convInt hf rfl rfl Try.underlying5 Try.underlying24 (n32_conv8' _)) hS rfl rfl ?_)
    clear hf; intro a hf
    refine step_l (st_rd hf (Wn.none rfl) (rd_xor hf rfl rfl rfl (n32_xor _ _)) hS rfl rfl ?_)
    clear hf; intro a hf
    refine step_l (st_rd hf (Wn.none rfl) (rd_mul hf rfl rfl rfl (n32_mul _ 0x01000193#32 rfl)) hS rfl rfl ?_)
    clear hf; intro a hf
    refine step_l (st_rd hf (Wn.none rfl) (rd_assign hf rfl rfl) hS rfl rfl ?_)
    clear hf; intro a hf
    refine done_l ?_
    refine b_normal ?_
    refine t_normal ?_
    refine c_region ?_
    refine step_l (st_rd hf (Wn.none rfl) (rd_add hf rfl rfl rfl (by first | exact Go.IntWalk.i64_in _ (by omega) | exact rfl)) hS rfl rfl ?_)
    clear hf; intro a hf
    refine step_l (st_rd hf (Wn.none rfl) (rd_move hf rfl rfl) hS rfl rfl ?_)
    clear hf; intro a hf
    refine done_l ?_
    refine t_normal ⟨(k + 1, mStep c x), (((hf.back (by repeat (first | exact Behind.refl | refine Behind.skip rfl ?_)) hk0).kb hf 8 rfl (by first | rfl | exact int_eq (by omega))).kb hf 3 rfl (by first | rfl | exact int_eq (by omega))), ⟨hS.sub (by repeat (first | exact Sub.refl | exact Sub.none | exact Sub.behind | (apply Sub.cons; (focus ((repeat (first | exact Sel.head | apply Sel.tail)); done))) | apply Sub.skip)), ⟨by omega, by rw [hrec, drop_at hget]; rfl⟩⟩, by first | omega | (simp only []; omega)⟩
  · clear hf; intro hc1 a hf
    rw [List.drop_of_length_le (by omega)] at hrec
    refine done_l ?_
    refine t_normal ?_
    refine c_seq ?_
    refine c_false hf rfl ?_
    refine c_exit ?_
    refine t_exit ?_
    refine t_exit ?_
    refine b_exit ?_
    refine t_normal ?_
    refine c_seq ?_
    refine c_region ?_
    refine step_l (st_rd hf (Wn.none rfl) (rd_move hf rfl rfl) hS rfl rfl ?_)
    clear hf; intro a hf
    refine step_l (st_rd hf (Wn.none rfl) (rd_move hf rfl rfl) hS rfl rfl ?_)
    clear hf; intro a hf
    refine step_l (st_rd hf (Wn.none rfl) (rd_shr hf rfl rfl rfl (by first | decide | omega) (n32_shr _ 15 rfl (by decide))) hS rfl rfl ?_)
    clear hf; intro a hf
    refine step_l (st_rd hf (Wn.none rfl) (rd_xor hf rfl rfl rfl (n32_xor _ _)) hS rfl rfl ?_)
    clear hf; intro a hf
    refine step_l (st_rd hf (Wn.none rfl) (rd_assign hf rfl rfl) hS rfl rfl ?_)
    clear hf; intro a hf
    refine done_l ?_
    refine t_normal ?_
    refine c_seq ?_
    refine c_region ?_
    refine step_l (st_rd hf (Wn.none rfl) (rd_move hf rfl rfl) hS rfl rfl ?_)
    clear hf; intro a hf
    refine step_l (st_rd hf (Wn.none rfl) (rd_mul hf rfl rfl rfl (n32_mul _ 0x85ebca6b#32 rfl)) hS rfl rfl ?_)
    clear hf; intro a hf
    refine step_l (st_rd hf (Wn.none rfl) (rd_assign hf rfl rfl) hS rfl rfl ?_)
    clear hf; intro a hf
    refine done_l ?_
    refine t_normal ?_
    refine c_seq ?_
    refine c_region ?_
    refine step_l (st_rd hf (Wn.none rfl) (rd_move hf rfl rfl) hS rfl rfl ?_)
    clear hf; intro a hf
    refine step_l (st_rd hf (Wn.none rfl) (rd_move hf rfl rfl) hS rfl rfl ?_)
    clear hf; intro a hf
    refine step_l (st_rd hf (Wn.none rfl) (rd_shr hf rfl rfl rfl (by first | decide | omega) (n32_shr _ 13 rfl (by decide))) hS rfl rfl ?_)
    clear hf; intro a hf
    refine step_l (st_rd hf (Wn.none rfl) (rd_xor hf rfl rfl rfl (n32_xor _ _)) hS rfl rfl ?_)
    clear hf; intro a hf
    refine step_l (st_rd hf (Wn.none rfl) (rd_assign hf rfl rfl) hS rfl rfl ?_)
    clear hf; intro a hf
    refine done_l ?_
    refine t_normal ?_
    refine c_ret ?_
    refine e_res1 hf.defers rfl (res_tmp hf rfl .nil) ?_
    exact ⟨by unfold mixB; rw [hrec]; rfl, hS.sub (by repeat (first | exact Sub.refl | exact Sub.none | exact Sub.behind | (apply Sub.cons; (focus ((repeat (first | exact Sel.head | apply Sel.tail)); done))) | apply Sub.skip))⟩

theorem AtP_c (p : Nat) (d0 : Bool) (i : Int) {W : World} {R : List HP} {w : World} (hS : Sat W (TbP 63 24 p 256 (.func (.func 28) #[] #[]) (tvals pf pg () 256) d0 :: R) w) : Calls Try.prog 14 [.pointer (some ⟨p, 0, none⟩), .int .i64 i].toArray w (Ret fun v w' => v = u32v (tAt 256 polyL i) ∧ Sat W (TbP 63 24 p 256 (.func (.func 28) #[] #[]) (tvals pf pg () 256) (d0 || decide (inT 256 i)) :: R) w') := by
  have h0 : Sat W (TbP 63 24 p 256 (.func (.func 28) #[] #[]) (tvals pf pg () 256) d0 :: (fun _ : Unit => Fact True) (if d0 = true then mst pg () 256 else ()) :: R) w := (hS.fact trivial).sub (.cons (.tail .head) (.cons .head .refl))
  refine (At_c (fun _ : Unit => Fact True) pf pg () p 256 28 [] [] i d0 h0 fn28 (poly_mk R) (by decide)).mono fun e w' he => ?_
  cases e with
  | returned v => obtain ⟨h1, h2⟩ := he; exact ⟨h1, h2.sub (.cons .head (.skip .refl))⟩
  | panicked c => exact he.elim
  | outgrown => exact he.elim

theorem RSum_c (vs : List B32) (qv : Option Addr) (nv cv : Nat) (b : List UInt8) (qb : Option Addr) (nb cb : Nat) {W : World} {R : List HP} {w : World} (hS : Sat W (R) w) (hnv : nv = vs.length) (hvv : ∀ w, Sat W R w → SlAt w qv vs.length 1 (u32s vs)) (hnb : nb = b.length) (hb : b.length ≤ 140737488355328) (hvb : ∀ w, Sat W R w → SlAt w qb b.length 1 (bvs b)) : Calls Try.prog 25 [.slice qv nv cv, .slice qb nb cb].toArray w (Ret fun v w' => v = u32v (sumB (fun i : Nat => vs.getD i 0#32) b) ∧ Sat W R w') := by
  refine fn_start 36 Try.func25 rfl rfl rfl ?_
  intro a hf
  subst hnb; subst hnv
  refine c_seq ?_
  refine c_region ?_
  refine step_l (st_rd hf (Wn.none rfl) (rd_assign hf rfl rfl) hS rfl rfl ?_)
  clear hf; intro a hf
  refine done_l ?_
  refine t_normal ?_
  refine c_seq ?_
  refine c_region ?_
  refine step_l (st_rd hf (Wn.none rfl) (rd_assign hf rfl rfl) hS rfl rfl ?_)
  clear hf; intro a hf
  refine done_l ?_
  refine t_normal ?_
  refine c_seq ?_
  refine c_seq ?_
  refine c_region ?_
  refine step_l (st_rd hf (Wn.none rfl) (rd_move hf rfl rfl) hS rfl rfl ?_)
  clear hf; intro a hf
  refine step_l (st_rd hf (Wn.none rfl) (rd_len hf rfl rfl Try.underlying38) hS rfl rfl ?_)
  clear hf; intro a hf
  refine step_l (st_rd hf (Wn.none rfl) (rd_move hf rfl rfl) hS rfl rfl ?_)
  clear hf; intro a hf
  refine done_l ?_
  refine t_normal ?_
  refine c_block ?_
  have hk0 := Keep.of hf [(5, 5), (7, 9), (12, 33)] (by repeat (first | exact Keep.nil | apply Keep.drop rfl | apply Keep.take rfl))
  refine c_loopK hk0 (α := Nat × B32) (fun ⟨k, c⟩ => [(5, u32v c), (12, .int .i64 (k : Nat))]) (fun ⟨k, c⟩ w => Sat W (R) w ∧ k ≤ b.length ∧ sFold (fun i : Nat => vs.getD i 0#32) 0xffffffff#32 b = sFold (fun i : Nat => vs.getD i 0#32) c (b.drop k)) (fun ⟨k, c⟩ => b.length - k) (0, 0xffffffff#32) (((hf.keep hk0).kb hf 12 rfl (by first | rfl | exact int_eq (by omega))).kb hf 5 rfl (by first | rfl | exact int_eq (by omega))) ⟨hS.sub (by repeat (first | exact Sub.refl | exact Sub.none | exact Sub.behind | (apply Sub.cons; (focus ((repeat (first | exact Sel.head | apply Sel.tail)); done))) | apply Sub.skip)), ⟨by omega, rfl⟩⟩ ?_
  clear hf hS; rintro ⟨k, c⟩ a w hf ⟨hS, ⟨hk, hrec⟩⟩; (try dsimp only [List.cons_append, List.nil_append] at hf)
  refine c_seq ?_
  refine c_region ?_
  refine step_l (st_rdB hf (Wn.none rfl) (rd_lss hf rfl rfl rfl) hS rfl rfl ?_ ?_)
  · clear hf; intro hc1 a hf
    obtain ⟨x, hget⟩ := get_of_lt (l := b) (k := k) (by omega) rfl; obtain ⟨adb, rfl⟩ := (hvb _ (hS.sub (by repeat (first | exact Sub.refl | exact Sub.none | exact Sub.behind | (apply Sub.cons; (focus ((repeat (first | exact Sel.head | apply Sel.tail)); done))) | apply Sub.skip)))).some (by omega); have hsi := sIdx_ref c x
    refine done_l ?_
    refine t_normal ?_
    refine c_seq ?_
    refine c_true hf rfl ?_
    refine c_skip ?_
    refine t_normal ?_
    refine c_seq ?_
    refine c_block ?_
    refine c_seq ?_
    refine c_region ?_
    refine step_l (st_rd hf (Wn.none rfl) ((by first | exact rd_indexAddrN1 hf rfl rfl rfl Try.underlying38 sz5 (by omega) | exact rd_indexAddr hf rfl rfl rfl Try.underlying38 sz5 (by first | decide | omega) (by omega))) hS rfl rfl ?_)
    clear hf; intro a hf
    refine step_l (st_rd hf (Wn.none rfl) (rd_load1 hf rfl rfl ag5 (by intro _ h; exact (hvb _ (h.sub (by repeat (first | exact Sub.refl | exact Sub.none | exact Sub.behind | (apply Sub.cons; (focus ((repeat (first | exact Sel.head | apply Sel.tail)); done))) | apply Sub.skip)))).get (bvs_get hget))) hS rfl rfl ?_)
    clear hf; intro a hf
    refine step_l (st_rd hf (Wn.none rfl) (rd_assign hf rfl rfl) hS rfl rfl ?_)
    clear hf; intro a hf
    refine done_l ?_
    refine t_normal ?_
    refine c_seq ?_
    refine c_region ?_
    refine step_l (st_rd hf (Wn.none rfl) (rd_assign hf rfl rfl) hS rfl rfl ?_)
    clear hf; intro a hf
    refine done_l ?_
    replace hf := hf.kb hf 8 rfl (show Value.int .u32 0 = u32v 0#32 from rfl)
    refine t_normal ?_
    refine c_seq ?_
    refine c_seq ?_
    refine c_region ?_
    refine step_l (st_rd hf (Wn.none rfl) (rd_move hf rfl rfl) hS rfl rfl ?_)
    clear hf; intro a hf
    refine step_l (st_rd hf (Wn.none rfl) (rd_convInt hf rfl rfl Try.underlying24 Try.underlying5 (n8_of32 _)) hS rfl rfl ?_)
    clear hf; intro a hf
    refine step_l (st_rd hf (Wn.none rfl) (rd_move hf rfl rfl) hS rfl rfl ?_)
    clear hf; intro a hf
    refine step_l (st_rd hf (Wn.none rfl) (rd_xor hf rfl rfl rfl (n8_xor _ _ rfl)) hS rfl rfl ?_)
    clear hf; intro a hf
    refine step_l (st_rd hf (Wn.none rfl) (rd_convInt hf rfl rfl Try.underlying5 Try.underlying3 (n64_conv8 _)) hS rfl rfl ?_)
    clear hf; intro a hf
    refine step_l (st_rd hf (Wn.none rfl) (rd_assign hf rfl rfl) hS rfl rfl ?_)
    clear hf; intro a hf
    refine done_l ?_
    refine t_normal ?_
    refine c_seq ?_
    refine c_region ?_
    refine step_l (st_rd hf (Wn.none rfl) (rd_move hf rfl rfl) hS rfl rfl ?_)
    clear hf; intro a hf
    refine step_l (st_rd hf (Wn.none rfl) (rd_move hf rfl rfl) hS rfl rfl ?_)
    clear hf; intro a hf
    refine step_l (st_rd hf (Wn.none rfl) (rd_len hf rfl rfl Try.underlying40) hS rfl rfl ?_)
    clear hf; intro a hf
    refine step_l (st_rdB hf (Wn.none rfl) (rd_lss hf rfl rfl rfl) hS rfl rfl ?_ ?_)
    · clear hf; intro hc2 a hf
      have hgv : vs[(UInt8.ofNat c.toNat ^^^ x).toNat]? = some (vs.getD (sIdx c x) 0#32) := by rw [hsi, List.getD_eq_getElem?_getD, List.getElem?_eq_getElem (by omega)]; rfl
      obtain ⟨adv, rfl⟩ := (hvv _ (hS.sub (by repeat (first | exact Sub.refl | exact Sub.none | exact Sub.behind | (apply Sub.cons; (focus ((repeat (first | exact Sel.head | apply Sel.tail)); done))) | apply Sub.skip)))).some (by omega)
      refine done_l ?_
      refine t_normal ?_
      refine c_true hf rfl ?_
      refine c_region ?_
      refine step_l (st_rd hf (Wn.none rfl) (rd_move hf rfl rfl) hS rfl rfl ?_)
      clear hf; intro a hf
      refine step_l (st_rd hf (Wn.none rfl) (rd_move hf rfl rfl) hS rfl rfl ?_)
      clear hf; intro a hf
      refine step_l (st_rd hf (Wn.none rfl) ((by first | exact rd_indexAddrN1 hf rfl rfl rfl Try.underlying40 sz24 (by omega) | exact rd_indexAddr hf rfl rfl rfl Try.underlying40 sz24 (by first | decide | omega) (by omega))) hS rfl rfl ?_)
      clear hf; intro a hf
      refine step_l (st_rd hf (Wn.none rfl) (rd_load1 hf rfl rfl ag24 (by intro _ h; exact (hvv _ (h.sub (by repeat (first | exact Sub.refl | exact Sub.none | exact Sub.behind | (apply Sub.cons; (focus ((repeat (first | exact Sel.head | apply Sel.tail)); done))) | apply Sub.skip)))).get (u32s_get hgv))) hS rfl rfl ?_)
      clear hf; intro a hf
      refine step_l (st_rd hf (Wn.none rfl) (rd_assign hf rfl rfl) hS rfl rfl ?_)
      clear hf; intro a hf
      refine done_l ?_
      refine t_normal ?_
      refine c_region ?_
      refine step_l (st_rd hf (Wn.none rfl) (rd_move hf rfl rfl) hS rfl rfl ?_)
      clear hf; intro a hf
      refine step_l (st_rd hf (Wn.none rfl) (rd_move hf rfl rfl) hS rfl rfl ?_)
      clear hf; intro a hf
      refine step_l (st_rd hf (Wn.none rfl) (rd_shr hf rfl rfl rfl (by first | decide | omega) (n32_shr _ 8 rfl (by decide))) hS rfl rfl ?_)
      clear hf; intro a hf
      refine step_l (st_rd hf (Wn.none rfl) (rd_xor hf rfl rfl rfl (n32_xor _ _)) hS rfl rfl ?_)
      clear hf; intro a hf
      refine step_l (st_rd hf (Wn.none rfl) (rd_assign hf rfl rfl) hS rfl rfl ?_)
      clear hf; intro a hf
      refine done_l ?_
      refine b_normal ?_
      refine t_normal ?_
      refine c_region ?_
      refine step_l (st_rd hf (Wn.none rfl) (rd_add hf rfl rfl rfl (by first | exact Go.IntWalk.i64_in _ (by omega) | exact rfl)) hS rfl rfl ?_)
      clear hf; intro a hf
      refine step_l (st_rd hf (Wn.none rfl) (rd_move hf rfl rfl) hS rfl rfl ?_)
      clear hf; intro a hf
      refine done_l ?_
      refine t_normal ⟨(k + 1, sStep (fun i : Nat => vs.getD i 0#32) c x), (((hf.back (by repeat (first | exact Behind.refl | refine Behind.skip rfl ?_)) hk0).kb hf 12 rfl (by first | rfl | exact int_eq (by omega))).kb hf 5 rfl (by rfl)), ⟨hS.sub (by repeat (first | exact Sub.refl | exact Sub.none | exact Sub.behind | (apply Sub.cons; (focus ((repeat (first | exact Sel.head | apply Sel.tail)); done))) | apply Sub.skip)), ⟨by omega, by rw [hrec, drop_at hget]; rfl⟩⟩, by first | omega | (simp only []; omega)⟩
    · clear hf; intro hc2 a hf
      have hgv : vs.getD (sIdx c x) 0#32 = 0#32 := by rw [List.getD_eq_getElem?_getD, List.getElem?_eq_none (by omega)]; rfl
      refine done_l ?_
      refine t_normal ?_
      refine c_false hf rfl ?_
      refine c_skip ?_
      refine t_normal ?_
      refine c_region ?_
      refine step_l (st_rd hf (Wn.none rfl) (rd_move hf rfl rfl) hS rfl rfl ?_)
      clear hf; intro a hf
      refine step_l (st_rd hf (Wn.none rfl) (rd_move hf rfl rfl) hS rfl rfl ?_)
      clear hf; intro a hf
      refine step_l (st_rd hf (Wn.none rfl) (rd_shr hf rfl rfl rfl (by first | decide | omega) (n32_shr _ 8 rfl (by decide))) hS rfl rfl ?_)
      clear hf; intro a hf
      refine step_l (st_rd hf (Wn.none rfl) (rd_xor hf rfl rfl rfl (n32_xor _ _)) hS rfl rfl ?_)
      clear hf; intro a hf
      refine step_l (st_rd hf (Wn.none rfl) (rd_assign hf rfl rfl) hS rfl rfl ?_)
      clear hf; intro a hf
      refine done_l ?_
      refine b_normal ?_
      refine t_normal ?_
      refine c_region ?_
      refine step_l (st_rd hf (Wn.none rfl) (rd_add hf rfl rfl rfl (by first | exact Go.IntWalk.i64_in _ (by omega) | exact rfl)) hS rfl rfl ?_)
      clear hf; intro a hf
      refine step_l (st_rd hf (Wn.none rfl) (rd_move hf rfl rfl) hS rfl rfl ?_)
      clear hf; intro a hf
      refine done_l ?_
      refine t_normal ⟨(k + 1, sStep (fun i : Nat => vs.getD i 0#32) c x), (((hf.back (by repeat (first | exact Behind.refl | refine Behind.skip rfl ?_)) hk0).kb hf 12 rfl (by first | rfl | exact int_eq (by omega))).kb hf 5 rfl (by (show u32v (0#32 ^^^ (c >>> 8)) = u32v (vs.getD (sIdx c x) 0#32 ^^^ (c >>> 8)); rw [hgv]))), ⟨hS.sub (by repeat (first | exact Sub.refl | exact Sub.none | exact Sub.behind | (apply Sub.cons; (focus ((repeat (first | exact Sel.head | apply Sel.tail)); done))) | apply Sub.skip)), ⟨by omega, by rw [hrec, drop_at hget]; rfl⟩⟩, by first | omega | (simp only []; omega)⟩
  · clear hf; intro hc1 a hf
    rw [List.drop_of_length_le (by omega)] at hrec
    refine done_l ?_
    refine t_normal ?_
    refine c_seq ?_
    refine c_false hf rfl ?_
    refine c_exit ?_
    refine t_exit ?_
    refine t_exit ?_
    refine b_exit ?_
    refine t_normal ?_
    refine c_seq ?_
    refine c_region ?_
    refine step_l (st_rd hf (Wn.none rfl) (rd_move hf rfl rfl) hS rfl rfl ?_)
    clear hf; intro a hf
    refine step_l (st_rd hf (Wn.none rfl) (rd_bitnot hf rfl rfl (n32_not _)) hS rfl rfl ?_)
    clear hf; intro a hf
    refine step_l (st_rd hf (Wn.none rfl) (rd_assign hf rfl rfl) hS rfl rfl ?_)
    clear hf; intro a hf
    refine done_l ?_
    refine t_normal ?_
    refine c_ret ?_
    refine e_res1 hf.defers rfl (res_tmp hf rfl .nil) ?_
    exact ⟨by unfold sumB; rw [hrec]; rfl, hS.sub (by repeat (first | exact Sub.refl | exact Sub.none | exact Sub.behind | (apply Sub.cons; (focus ((repeat (first | exact Sel.head | apply Sel.tail)); done))) | apply Sub.skip))⟩

theorem Crc_c (b : List UInt8) (qb : Option Addr) (nb cb : Nat) {W : World} {R : List HP} {w : World} (hS : Sat W (R) w) (hnb : nb = b.length) (hb : b.length ≤ 140737488355328) (hvb : ∀ w, Sat W R w → SlAt w qb b.length 1 (bvs b)) : Calls Try.prog 24 [.slice qb nb cb].toArray w (Ret fun v w' => v = u32v (crcB b) ∧ Sat W R w') := by
  refine fn_start 17 Try.func24 rfl rfl rfl ?_
  intro a hf
  refine c_seq ?_
  refine c_region ?_
  refine step_l (st_rd hf (Wn.none rfl) (rd_assign hf rfl rfl) hS rfl rfl ?_)
  clear hf; intro a hf
  refine done_l ?_
  refine t_normal ?_
  refine c_seq ?_
  refine c_region ?_
  refine step_l (st_rd hf (Wn.none rfl) (rd_assign hf rfl rfl) hS rfl rfl ?_)
  clear hf; intro a hf
  refine done_l ?_
  refine t_normal ?_
  refine c_seq ?_
  refine c_seq ?_
  refine c_region ?_
  refine step_l (st_rd hf (Wn.none rfl) (rd_move hf rfl rfl) hS rfl rfl ?_)
  clear hf; intro a hf
  refine done_l ?_
  refine t_normal ?_
  refine c_block ?_
  have hk0 := Keep.of hf [(3, 13)] (by repeat (first | exact Keep.nil | apply Keep.drop rfl | apply Keep.take rfl))
  refine c_loopK hk0 (α := Nat × Option Addr × Nat) (fun ⟨k, q, cap⟩ => [(3, .slice q k cap), (5, .int .i64 (k : Nat))]) (fun ⟨k, q, cap⟩ w => Sat W (Rw 24 1 q k cap (u32s ((List.range k).map entB)) :: R) w ∧ k ≤ 256) (fun ⟨k, q, cap⟩ => 256 - k) (0, none, 0) (((hf.keep hk0).kb hf 5 rfl (by first | rfl | exact int_eq (by omega))).kb hf 3 rfl (by first | rfl | exact int_eq (by omega))) ⟨(hS.rwNil 24 1).sub (by repeat (first | exact Sub.refl | exact Sub.none | exact Sub.behind | (apply Sub.cons; (focus ((repeat (first | exact Sel.head | apply Sel.tail)); done))) | apply Sub.skip)), by omega⟩ ?_
  clear hf hS; rintro ⟨k, q, cap⟩ a w hf ⟨hS, hk⟩; (try dsimp only [List.cons_append, List.nil_append] at hf)
  refine c_seq ?_
  refine c_region ?_
  refine step_l (st_rdB hf (Wn.none rfl) (rd_lss hf rfl rfl rfl) hS rfl rfl ?_ ?_)
  · clear hf; intro hc1 a hf
    refine done_l ?_
    refine t_normal ?_
    refine c_seq ?_
    refine c_true hf rfl ?_
    refine c_skip ?_
    refine t_normal ?_
    refine c_seq ?_
    refine c_block ?_
    refine c_seq ?_
    refine c_region ?_
    refine step_l (st_rd hf (Wn.none rfl) (rd_move hf rfl rfl) hS rfl rfl ?_)
    clear hf; intro a hf
    refine step_l (st_rd hf (Wn.none rfl) (rd_assign hf rfl rfl) hS rfl rfl ?_)
    clear hf; intro a hf
    refine done_l ?_
    refine t_normal ?_
    refine c_region ?_
    refine step_l (st_rd hf (Wn.none rfl) (rd_move hf rfl rfl) hS rfl rfl ?_)
    clear hf; intro a hf
    refine step_l (st_rd hf (Wn.none rfl) (rd_move hf rfl rfl) hS rfl rfl ?_)
    clear hf; intro a hf
    refine step_l (st_call hf (Wn.none rfl) rfl rfl rfl fn12 (Entry_c _ hS) rfl rfl ?_)
    clear hf hS; rintro v a w ⟨rfl, hS⟩ hf
    refine step_l (st_buildSlice hf (Wn.none rfl) hS rfl rfl Try.underlying40 sz24 zr24 (by decide) bz24_1 rfl (.cons rfl (by first | rfl) (by rfl) (by repeat (first | exact Put.nil | apply Put.cons | apply Put.succ)) .nil) rfl rfl ?_)
    clear hf hS; intro b_2 a w hf hS
    refine step_l (st_append hf (Wn.none rfl) rfl rfl rfl Try.underlying40 tyb24 (by rfl) (by decide) hS (by repeat (first | exact Sel.head | apply Sel.tail)) (by first | exact hS.slOfBlk (by repeat (first | exact Sel.head | apply Sel.tail)) (by rfl) | exact hS.slOfBlkPre (by repeat (first | exact Sel.head | apply Sel.tail)) (bvs_len1 _) | exact hS.slOfRw (by repeat (first | exact Sel.head | apply Sel.tail)) | exact SlAt.nil _ _ _) (by first | rfl | exact bvs_one _ | (simp [Value.oneCell']; done)) (by omega) rfl rfl ?_)
    clear hf hS; intro pA capA a w hf hS hnilA
    refine step_l (st_rd hf (Wn.none rfl) (rd_assign hf rfl rfl) hS rfl rfl ?_)
    clear hf; intro a hf
    refine done_l ?_
    refine b_normal ?_
    refine t_normal ?_
    refine c_region ?_
    refine step_l (st_rd hf (Wn.none rfl) (rd_add hf rfl rfl rfl (by first | exact Go.IntWalk.i64_in _ (by omega) | exact rfl)) hS rfl rfl ?_)
    clear hf; intro a hf
    refine step_l (st_rd hf (Wn.none rfl) (rd_move hf rfl rfl) hS rfl rfl ?_)
    clear hf; intro a hf
    refine done_l ?_
    refine t_normal ⟨(k + 1, pA, capA), (((hf.back (by repeat (first | exact Behind.refl | refine Behind.skip rfl ?_)) hk0).kb hf 5 rfl (by first | rfl | exact int_eq (by omega))).kb hf 3 rfl (by first | rfl | exact int_eq (by omega))), ⟨((hS.sel (by repeat (first | exact Sel.head | apply Sel.tail)) : Sat W (Rw 24 1 pA (k + 1) capA _ :: _) _).rwCast (xs' := u32s ((List.range (k + 1)).map entB)) (by rw [List.range_succ]; simp [u32s]) rfl).sub (by repeat (first | exact Sub.refl | exact Sub.none | exact Sub.behind | (apply Sub.cons; (focus ((repeat (first | exact Sel.head | apply Sel.tail)); done))) | apply Sub.skip)), by omega⟩, by first | omega | (simp only []; omega)⟩
  · clear hf; intro hc1 a hf
    obtain rfl : k = 256 := by omega
    refine done_l ?_
    refine t_normal ?_
    refine c_seq ?_
    refine c_false hf rfl ?_
    refine c_exit ?_
    refine t_exit ?_
    refine t_exit ?_
    refine b_exit ?_
    refine t_normal ?_
    refine c_seq ?_
    refine c_region ?_
    refine step_l (st_rd hf (Wn.none rfl) (rd_move hf rfl rfl) hS rfl rfl ?_)
    clear hf; intro a hf
    refine step_l (st_rd hf (Wn.none rfl) (rd_move hf rfl rfl) hS rfl rfl ?_)
    clear hf; intro a hf
    refine step_l (st_call hf (Wn.none rfl) rfl rfl rfl fn25 (RSum_c polyL _ _ _ b _ _ _ hS (by simp [polyL]) (fun _ h => by rw [polyL_len]; exact h.slOfRw (by repeat (first | exact Sel.head | apply Sel.tail))) hnb hb (fun _ h => hvb _ (h.sub (by repeat (first | exact Sub.refl | exact Sub.none | exact Sub.behind | (apply Sub.cons; (focus ((repeat (first | exact Sel.head | apply Sel.tail)); done))) | apply Sub.skip))))) rfl rfl ?_)
    clear hf hS; rintro v a w ⟨rfl, hS⟩ hf
    refine step_l (st_rd hf (Wn.none rfl) (rd_assign hf rfl rfl) hS rfl rfl ?_)
    clear hf; intro a hf
    refine done_l ?_
    refine t_normal ?_
    refine c_ret ?_
    refine e_res1 hf.defers rfl (res_tmp hf rfl .nil) ?_
    exact ⟨rfl, hS.sub (by repeat (first | exact Sub.refl | exact Sub.none | exact Sub.behind | (apply Sub.cons; (focus ((repeat (first | exact Sel.head | apply Sel.tail)); done))) | apply Sub.skip))⟩

end Go.Proofs.Ytmjfmcgpmlfnbaa
