/-
  The statement MemberChain, walked.
  Conditions: none.
-/
import Derived.Test.YtgmbhbnhfmfidaaMem
import Derived.Test.YtgmbhbnhfmfidaaOp1
import Derived.Test.YtgmbhbnhfmfidaaFl1
namespace Go.Proofs.Ytgmbhbnhfmfidaa
open Go Go.Sl
set_option linter.unusedVariables false
set_option linter.unusedSimpArgs false
theorem bz23_1 : ((Array.range (1 * 2)).map (fun j => ((.agg #[.int .i64 0, .int .i64 0] : Value)).cells[j % ((.agg #[.int .i64 0, .int .i64 0] : Value)).cells.size]!)) = ([.int .i64 0, .int .i64 0] : List Value).toArray := by kernel_rfl
theorem tyb23 : TyB Try.prog 23 (.agg #[.int .i64 0, .int .i64 0]) 2 16 := by unfold TyB; kernel_rfl
abbrev Mb := Int × Int × Unit
def memC (x : Mb) : List Value := [.int .i64 x.1, .int .i64 x.2.1]
theorem memC_len (x : Mb) : (memC x).length = 2 := rfl
theorem mem_one (L : List Mb) : (L.flatMap memC).all (·.oneCell') = true := by
  rw [List.all_eq_true]; intro v hv; obtain ⟨x, _, hx⟩ := List.mem_flatMap.1 hv
  simp [memC] at hx; rcases hx with rfl | rfl <;> rfl
def accL (l : List Mb) (k : Nat) : List Mb := (l.take (min k 30)).filter fun x => decide (mayP x.1 x.2.1)
theorem accL_len (l : List Mb) (k : Nat) : (accL l k).length ≤ 30 := by
  have h1 := List.length_filter_le (fun x : Mb => decide (mayP x.1 x.2.1)) (l.take (min k 30)); rw [List.length_take] at h1; unfold accL; omega
theorem acc_ge {l : List Mb} {k : Nat} (h : 30 ≤ k) : accL l (k + 1) = accL l k := by unfold accL; rw [show min (k + 1) 30 = min k 30 from by omega]
theorem acc_yes {l : List Mb} {k : Nat} {x : Mb} (hg : l[k]? = some x) (h : k < 30) (hm : mayP x.1 x.2.1) : accL l (k + 1) = accL l k ++ [x] := by
  unfold accL; rw [show min (k + 1) 30 = k + 1 from by omega, show min k 30 = k from by omega, take_succ_get hg, List.filter_append]; simp [hm]
theorem acc_no {l : List Mb} {k : Nat} {x : Mb} (hg : l[k]? = some x) (hm : ¬ mayP x.1 x.2.1) : accL l (k + 1) = accL l k := by
  by_cases h : k < 30
  · unfold accL; rw [show min (k + 1) 30 = k + 1 from by omega, show min k 30 = k from by omega, take_succ_get hg, List.filter_append]; simp [hm]
  · exact acc_ge (by omega)
def joinM (x y : Mb) : Mb := (joinS x.1 x.2.1 y.1 y.2.1, joinI x.1 x.2.1 y.1 y.2.1, ())
def leM (x y : Mb) : Prop := leqP x.1 x.2.1 y.1 y.2.1
theorem leM_refl (x : Mb) : leM x x := by unfold leM leqP joinS joinI; omega
theorem leM_trans {x y z : Mb} (h1 : leM x y) (h2 : leM y z) : leM x z := by unfold leM leqP joinS joinI at *; omega
theorem leM_anti {x y : Mb} (h1 : leM x y) (h2 : leM y x) : x.1 = y.1 ∧ x.2.1 = y.2.1 := by unfold leM leqP joinS joinI at *; omega
theorem leM_l (x y : Mb) : leM x (joinM x y) := by unfold leM leqP joinM joinS joinI; dsimp only; omega
theorem leM_r (x y : Mb) : leM y (joinM x y) := by unfold leM leqP joinM joinS joinI; dsimp only; omega
theorem join_or (x y : Mb) : joinM x y = x ∨ joinM x y = y := by
  obtain ⟨s, i, _⟩ := x; obtain ⟨t, j, _⟩ := y
  unfold joinM joinS joinI
  simp only [Prod.mk.injEq, and_true]
  omega
theorem join_mem {L : List Mb} {x y : Mb} (h1 : x ∈ L) (h2 : y ∈ L) : joinM x y ∈ L := by rcases join_or x y with h | h <;> rw [h] <;> assumption
theorem u64modM (n : Int) {m : Nat} (hm : 0 < m) : (IntKind.u64.wrap n).tmod ((m : Nat) : Int) = (((n % 18446744073709551616).toNat % m : Nat) : Int) := by
  have h : IntKind.u64.wrap n = n % 18446744073709551616 := by rw [IntKind.wrap_u64]
  rw [h]
  have h0 : 0 ≤ n % 18446744073709551616 := Int.emod_nonneg _ (by omega)
  rw [Int.tmod_eq_emod_of_nonneg h0, Int.natCast_emod, Int.toNat_of_nonneg h0]
theorem tmodM (i t : Nat) (m : Nat) : ((i : Int) + (t : Int)).tmod (m : Int) = (((i + t) % m : Nat) : Int) := by
  rw [Int.tmod_eq_emod_of_nonneg (by omega)]; push_cast; rfl
theorem step_max {L : List Mb} {k : Nat} {x u : Mb} (f : Nat → Nat) (hu : L[f k]? = some u) (hx : ∀ (j : Nat) z, j < k → L[f j]? = some z → leM z x) (j : Nat) (z : Mb) (hj : j < k + 1) (hz : L[f j]? = some z) : leM z (joinM x u) := by
  rcases Nat.lt_or_ge j k with h | h
  · exact leM_trans (hx j z h hz) (leM_l _ _)
  · obtain rfl : j = k := by omega
    rw [hu] at hz; cases hz; exact leM_r _ _
theorem step_in {L : List Mb} {k : Nat} {x z : Mb} {b : Bool} (hz : L[k]? = some z) (hb : ∀ (j : Nat) z, j < k → L[j]? = some z → (z.1 = x.1 ∧ z.2.1 = x.2.1) → b = true) (h0 : b = false) (hne : ¬ (z.1 = x.1 ∧ z.2.1 = x.2.1)) (j : Nat) (y : Mb) (hj : j < k + 1) (hy : L[j]? = some y) (he : y.1 = x.1 ∧ y.2.1 = x.2.1) : false = true := by
  rcases Nat.lt_or_ge j k with h | h
  · rw [← h0]; exact hb j y h hy he
  · obtain rfl : j = k := by omega
    rw [hz] at hy; cases hy; exact absurd he hne
/-- of two greatest that stand for all, each is the other -/
theorem same_max {L : List Mb} {a b : Mb} {t : Nat} (ha : a ∈ L) (hb : b ∈ L) (h1 : ∀ (j : Nat) y, j < L.length → L[j]? = some y → leM y a) (h2 : ∀ (j : Nat) y, j < L.length → L[(j + t) % L.length]? = some y → leM y b) : a.1 = b.1 ∧ a.2.1 = b.2.1 := by
  obtain ⟨i, hi⟩ := List.mem_iff_getElem?.1 hb
  obtain ⟨k, hk⟩ := List.mem_iff_getElem?.1 ha
  have hkl := (List.getElem?_eq_some_iff.1 hk).1
  have e : ∃ j, j < L.length ∧ (j + t) % L.length = k := by
    refine ⟨(k + L.length - t % L.length) % L.length, Nat.mod_lt _ (by omega), ?_⟩
    have ht := Nat.mod_lt t (show 0 < L.length by omega)
    rw [Nat.add_mod, Nat.mod_mod]
    have : (k + L.length - t % L.length) % L.length + t % L.length = k ∨ (k + L.length - t % L.length) % L.length + t % L.length = k + L.length := by
      rcases Nat.lt_or_ge (k + L.length - t % L.length) L.length with h | h
      · rw [Nat.mod_eq_of_lt h]; omega
      · rw [Nat.mod_eq_sub_mod h, Nat.mod_eq_of_lt (by omega)]; omega
    rcases this with h | h
    · rw [h, Nat.mod_eq_of_lt hkl]
    · rw [h, Nat.add_mod_right, Nat.mod_eq_of_lt hkl]
  obtain ⟨j, hj, hjk⟩ := e
  exact leM_anti (h2 j a hj (by rw [hjk]; exact hk)) (h1 i b (List.getElem?_eq_some_iff.1 hi).1 hi)

def fl_4_11_0 : List Flt := [⟨7, 8, 23, [.int .i64 0, .int .i64 0]⟩, ⟨8, 9, 23, [.int .i64 0, .int .i64 0]⟩]
set_option maxHeartbeats 4000000 in
theorem MemberChain_c (l : List Mb) (ql : Option Addr) (capl : Nat) (turn : Int) {W : World} {R : List HP} {w : World} (hS : Sat W R w) (hvl : ∀ w, Sat W R w → SlAt w ql l.length 2 (l.flatMap memC)) (hby : l.length ≤ 140737488351232) : Calls Try.prog 4 [.slice ql l.length capl, .int .i64 turn].toArray w (Ret fun v w' => v = .bool true ∧ Sat W R w') := by
  refine fn_start 99 Try.func4 rfl rfl rfl ?_
  intro a hf
  refine c_seq ?_
  refine c_region ?_
  refine step_l (st_rd hf (Wn.none rfl) (rd_assign hf rfl rfl) hS rfl rfl ?_)
  clear hf; intro a hf
  refine done_l ?_
  refine t_normal ?_
  refine c_seq ?_
  refine c_region ?_
  refine step_l (st_rd hf (Wn.none rfl) (rd_assign hf rfl rfl) hS rfl rfl ?_)
  clear hf; intro a hf
  refine done_l ?_
  refine t_normal ?_
  refine c_seq ?_
  refine c_seq ?_
  refine c_region ?_
  refine step_l (st_rd hf (Wn.none rfl) (rd_move hf rfl rfl) hS rfl rfl ?_)
  clear hf; intro a hf
  refine step_l (st_rd hf (Wn.none rfl) (rd_len hf rfl rfl Try.underlying29) hS rfl rfl ?_)
  clear hf; intro a hf
  refine step_l (st_rd hf (Wn.none rfl) (rd_move hf rfl rfl) hS rfl rfl ?_)
  clear hf; intro a hf
  refine done_l ?_
  refine t_normal ?_
  refine c_block ?_
  refine c_loop (α := Nat × Option Addr × Nat × Nat) (fun ⟨k, p, len, cap⟩ a w => Fits 99 a [(1, .int .i64 turn), (5, .slice p len cap), (14, .slice ql l.length capl), (15, .int .i64 (l.length : Nat)), (16, .int .i64 (k : Nat))] ∧ Sat W (Rw 23 2 p len cap ((accL l k).flatMap memC) :: R) w ∧ k ≤ l.length ∧ len = (accL l k).length) (fun ⟨k, p, len, cap⟩ => l.length - k) (0, none, 0, 0) ?_ ?_
  · exact ⟨(((((hf.k0.kb hf 16 rfl (by rfl)).kb hf 15 rfl (by rfl)).kb hf 14 rfl (by rfl)).kb hf 5 rfl (by rfl)).kb hf 1 rfl (by rfl)), (hS.rwNil 23 2).sub (by repeat (first | exact Sub.refl | exact Sub.none | exact Sub.behind | (apply Sub.cons; (focus ((repeat (first | exact Sel.head | apply Sel.tail)); done))) | apply Sub.skip)), ⟨Nat.zero_le _, rfl⟩⟩
  · clear hf hS; rintro ⟨k, p, len, cap⟩ a w ⟨hf, hS, ⟨hk, hlen⟩⟩
    have hacc := accL_len l k
    refine c_seq ?_
    refine c_region ?_
    refine step_l (st_rdB hf (Wn.none rfl) (rd_lss hf rfl rfl rfl) hS rfl rfl ?_ ?_)
    · clear hf; intro hc1 a hf
      obtain ⟨x, hget⟩ := get_of_lt (l := l) (k := k) (by omega) rfl; obtain ⟨adl, rfl⟩ := (hvl _ (hS.sub (by repeat (first | exact Sub.refl | exact Sub.none | exact Sub.behind | (apply Sub.cons; (focus ((repeat (first | exact Sel.head | apply Sel.tail)); done))) | apply Sub.skip)))).some (by omega)
      first
      | (first | exact Bool.noConfusion hc1 | exact absurd hzx hc1 | exact Bool.noConfusion (hbt.symm.trans hc1) | exact absurd (And.intro hs1 hs2) hc1 | exact absurd hc1 (by omega); done)
      | (
        refine done_l ?_
        refine t_normal ?_
        refine c_seq ?_
        refine c_true hf rfl ?_
        refine c_skip ?_
        refine t_normal ?_
        refine c_seq ?_
        refine c_block ?_
        refine c_seq ?_
        refine c_region ?_
        refine step_l (st_rd hf (Wn.none rfl) (rd_move hf rfl rfl) hS rfl rfl ?_)
        clear hf; intro a hf
        refine step_l (st_rd hf (Wn.none rfl) ((by first | exact rd_indexAddrN hf rfl rfl rfl Try.underlying29 sz23 (by omega) | exact rd_indexAddr hf rfl rfl rfl Try.underlying29 sz23 (by first | decide | omega) (by omega))) hS rfl rfl ?_)
        clear hf; intro a hf
        refine step_l (st_rd hf (Wn.none rfl) (rd_loadN hf rfl rfl ag23 sz23 (by intro _ h; exact (hvl _ (h.sub (by repeat (first | exact Sub.refl | exact Sub.none | exact Sub.behind | (apply Sub.cons; (focus ((repeat (first | exact Sel.head | apply Sel.tail)); done))) | apply Sub.skip)))).elem memC_len hget)) hS rfl rfl ?_)
        clear hf; intro a hf
        refine step_l (st_alloc hf (Wn.none rfl) hS rfl zr23 (by rfl) rfl rfl ?_)
        clear hf hS; intro b_m a w hf hS
        refine step_l (st_rd hf (Wn.none rfl) (rd_assign hf rfl rfl) hS rfl rfl ?_)
        clear hf; intro a hf
        refine step_l (st_store hf (Wn.none rfl) hS rfl rfl rfl (by rfl) sz23 (by rfl) (by rfl) (by repeat (first | exact Sel.head | apply Sel.tail)) (by repeat (first | exact Put.nil | apply Put.cons | apply Put.succ)) rfl ?_)
        clear hf hS; intro a w hf hS
        refine done_l ?_
        refine t_normal ?_
        refine c_seq ?_
        refine c_region ?_
        refine step_l (st_rd hf (Wn.none rfl) (rd_move hf rfl rfl) hS rfl rfl ?_)
        clear hf; intro a hf
        refine step_l (st_rdB hf (Wn.none rfl) (rd_lss hf rfl rfl rfl) hS rfl rfl ?_ ?_)
        · clear hf; intro hc3 a hf
          first
          | (first | exact Bool.noConfusion hc3 | exact absurd hzx hc3 | exact Bool.noConfusion (hbt.symm.trans hc3) | exact absurd (And.intro hs1 hs2) hc3 | exact absurd hc3 (by omega); done)
          | (
            refine step_l (st_rd hf (Wn.none rfl) (rd_move hf rfl rfl) hS rfl rfl ?_)
            clear hf; intro a hf
            refine step_l (st_rd hf (Wn.some hf rfl rfl rfl rfl) (rd_loadN hf rfl rfl ag23 sz23 (by intro _ h; exact loadN_of h (by repeat (first | exact Sel.head | apply Sel.tail)) (by repeat (first | exact Seg.nil | apply Seg.cons | apply Seg.succ)) )) hS rfl rfl ?_)
            clear hf; intro a hf
            refine step_l (st_call hf (Wn.some hf rfl rfl rfl rfl) rfl rfl rfl fn14 (May_c _ _ hS) rfl rfl ?_)
            clear hf hS; rintro v a w ⟨rfl, hS⟩ hf
            first | refine split_dec (d := 25) hf rfl ?_ ?_ | refine split_bool (d := 25) hf rfl ?_ ?_
            · clear hf; intro hc4 hf
              first
              | (first | exact Bool.noConfusion hc4 | exact absurd hzx hc4 | exact Bool.noConfusion (hbt.symm.trans hc4) | exact absurd (And.intro hs1 hs2) hc4 | exact absurd hc4 (by omega); done)
              | (
                refine step_l (st_rd hf (Wn.none rfl) (rd_pick_t hf rfl rfl rfl) hS rfl rfl ?_)
                clear hf; intro a hf
                refine done_l ?_
                refine t_normal ?_
                refine c_true hf rfl ?_
                refine c_region ?_
                refine step_l (st_rd hf (Wn.none rfl) (rd_move hf rfl rfl) hS rfl rfl ?_)
                clear hf; intro a hf
                refine step_l (st_rd hf (Wn.none rfl) (rd_loadN hf rfl rfl ag23 sz23 (by intro _ h; exact loadN_of h (by repeat (first | exact Sel.head | apply Sel.tail)) (by repeat (first | exact Seg.nil | apply Seg.cons | apply Seg.succ)) )) hS rfl rfl ?_)
                clear hf; intro a hf
                refine step_l (st_buildSlice hf (Wn.none rfl) hS rfl rfl Try.underlying29 sz23 zr23 (by decide) bz23_1 rfl (.cons rfl (by rfl) (by rfl) (by repeat (first | exact Put.nil | apply Put.cons | apply Put.succ)) .nil) rfl rfl ?_)
                clear hf hS; intro b_5 a w hf hS
                refine step_l (st_append hf (Wn.none rfl) rfl rfl rfl Try.underlying29 tyb23 (by rfl) (by decide) hS (by repeat (first | exact Sel.head | apply Sel.tail)) (by first | exact hS.slOfBlk (by repeat (first | exact Sel.head | apply Sel.tail)) (by rfl) | exact hS.slOfBlkPre (by repeat (first | exact Sel.head | apply Sel.tail)) (bvs_len1 _) | exact hS.slOfRw (by repeat (first | exact Sel.head | apply Sel.tail)) | exact SlAt.nil _ _ _) (by first | rfl | exact bvs_one _ | (simp [Value.oneCell']; done)) (by omega) rfl rfl ?_)
                clear hf hS; intro pA capA a w hf hS hnilA
                refine step_l (st_rd hf (Wn.none rfl) (rd_assign hf rfl rfl) hS rfl rfl ?_)
                clear hf; intro a hf
                refine done_l ?_
                refine b_normal ?_
                refine t_normal ?_
                refine c_region ?_
                refine step_l (st_rd hf (Wn.none rfl) (rd_add hf rfl rfl rfl (by first | exact Go.IntWalk.i64_in _ (by omega) | exact rfl)) hS rfl rfl ?_)
                clear hf; intro a hf
                refine step_l (st_rd hf (Wn.none rfl) (rd_move hf rfl rfl) hS rfl rfl ?_)
                clear hf; intro a hf
                refine done_l ?_
                refine t_normal ⟨(k + 1, pA, len + 1, capA), ⟨(((((hf.k0.kb hf 16 rfl (by first | rfl | exact int_eq (by omega))).kb hf 15 rfl (by rfl)).kb hf 14 rfl (by rfl)).kb hf 5 rfl (by rfl)).kb hf 1 rfl (by rfl)), (hS.rwCast (xs' := (accL l (k + 1)).flatMap memC) (by rw [acc_yes hget (by omega) (by assumption), List.flatMap_append]; rfl) rfl).sub (by repeat (first | exact Sub.refl | exact Sub.none | exact Sub.behind | (apply Sub.cons; (focus ((repeat (first | exact Sel.head | apply Sel.tail)); done))) | apply Sub.skip)), ⟨by omega, by rw [acc_yes hget (by omega) (by assumption)]; simp [hlen]⟩⟩, by first | omega | (simp only []; omega)⟩
                )
            · clear hf; intro hc4 hf
              first
              | (first | exact Bool.noConfusion hc4 | exact absurd hzx hc4 | exact Bool.noConfusion (hbt.symm.trans hc4) | exact absurd (And.intro hs1 hs2) hc4 | exact absurd hc4 (by omega); done)
              | (
                refine step_l (st_rd hf (Wn.none rfl) (rd_pick_t hf rfl rfl rfl) hS rfl rfl ?_)
                clear hf; intro a hf
                refine done_l ?_
                refine t_normal ?_
                refine c_false hf rfl ?_
                refine c_skip ?_
                refine b_normal ?_
                refine t_normal ?_
                refine c_region ?_
                refine step_l (st_rd hf (Wn.none rfl) (rd_add hf rfl rfl rfl (by first | exact Go.IntWalk.i64_in _ (by omega) | exact rfl)) hS rfl rfl ?_)
                clear hf; intro a hf
                refine step_l (st_rd hf (Wn.none rfl) (rd_move hf rfl rfl) hS rfl rfl ?_)
                clear hf; intro a hf
                refine done_l ?_
                refine t_normal ⟨(k + 1, p, len, cap), ⟨(((((hf.k0.kb hf 16 rfl (by first | rfl | exact int_eq (by omega))).kb hf 15 rfl (by rfl)).kb hf 14 rfl (by rfl)).kb hf 5 rfl (by rfl)).kb hf 1 rfl (by rfl)), (by rw [acc_no hget (by assumption)]; exact hS.sub (by repeat (first | exact Sub.refl | exact Sub.none | exact Sub.behind | (apply Sub.cons; (focus ((repeat (first | exact Sel.head | apply Sel.tail)); done))) | apply Sub.skip))), ⟨by omega, by rw [acc_no hget (by assumption)]; exact hlen⟩⟩, by first | omega | (simp only []; omega)⟩
                )
            )
        · clear hf; intro hc3 a hf
          first
          | (first | exact Bool.noConfusion hc3 | exact absurd hzx hc3 | exact Bool.noConfusion (hbt.symm.trans hc3) | exact absurd (And.intro hs1 hs2) hc3 | exact absurd hc3 (by omega); done)
          | (
            refine step_l (st_rd hf (Wn.none rfl) (rd_move hf rfl rfl) hS rfl rfl ?_)
            clear hf; intro a hf
            refine step_l (st_skip hf (Wn.some hf rfl rfl rfl rfl) rfl rfl ?_)
            clear hf; intro a hf
            refine step_l (st_skip hf (Wn.some hf rfl rfl rfl rfl) rfl rfl ?_)
            clear hf; intro a hf
            refine step_l (st_rd hf (Wn.none rfl) (rd_pick_f hf rfl rfl rfl) hS rfl rfl ?_)
            clear hf; intro a hf
            refine done_l ?_
            refine t_normal ?_
            refine c_false hf rfl ?_
            refine c_skip ?_
            refine b_normal ?_
            refine t_normal ?_
            refine c_region ?_
            refine step_l (st_rd hf (Wn.none rfl) (rd_add hf rfl rfl rfl (by first | exact Go.IntWalk.i64_in _ (by omega) | exact rfl)) hS rfl rfl ?_)
            clear hf; intro a hf
            refine step_l (st_rd hf (Wn.none rfl) (rd_move hf rfl rfl) hS rfl rfl ?_)
            clear hf; intro a hf
            refine done_l ?_
            refine t_normal ⟨(k + 1, p, len, cap), ⟨(((((hf.k0.kb hf 16 rfl (by first | rfl | exact int_eq (by omega))).kb hf 15 rfl (by rfl)).kb hf 14 rfl (by rfl)).kb hf 5 rfl (by rfl)).kb hf 1 rfl (by rfl)), (by rw [acc_ge (by omega)]; exact hS.sub (by repeat (first | exact Sub.refl | exact Sub.none | exact Sub.behind | (apply Sub.cons; (focus ((repeat (first | exact Sel.head | apply Sel.tail)); done))) | apply Sub.skip))), ⟨by omega, by rw [acc_ge (by omega)]; exact hlen⟩⟩, by first | omega | (simp only []; omega)⟩
            )
        )
    · clear hf; intro hc1 a hf
      first
      | (first | exact Bool.noConfusion hc1 | exact absurd hzx hc1 | exact Bool.noConfusion (hbt.symm.trans hc1) | exact absurd (And.intro hs1 hs2) hc1 | exact absurd hc1 (by omega); done)
      | (
        refine done_l ?_
        refine t_normal ?_
        refine c_seq ?_
        refine c_false hf rfl ?_
        refine c_exit ?_
        refine t_exit ?_
        refine t_exit ?_
        refine b_exit ?_
        refine t_normal ?_
        refine c_seq ?_
        refine c_seq ?_
        refine c_region ?_
        refine step_l (st_rd hf (Wn.none rfl) (rd_move hf rfl rfl) hS rfl rfl ?_)
        clear hf; intro a hf
        refine step_l (st_rd hf (Wn.none rfl) (rd_len hf rfl rfl Try.underlying29) hS rfl rfl ?_)
        clear hf; intro a hf
        refine step_l (st_rdB hf (Wn.none rfl) (rd_eql hf rfl rfl rfl) hS rfl rfl ?_ ?_)
        · clear hf; intro hc7 a hf
          first
          | (first | exact Bool.noConfusion hc7 | exact absurd hzx hc7 | exact Bool.noConfusion (hbt.symm.trans hc7) | exact absurd (And.intro hs1 hs2) hc7 | exact absurd hc7 (by omega); done)
          | (
            refine done_l ?_
            refine t_normal ?_
            refine c_true hf rfl ?_
            refine c_seq ?_
            refine c_region ?_
            refine step_l (st_call hf (Wn.none rfl) rfl rfl rfl fn15 (awake_c hS) rfl rfl ?_)
            clear hf hS; rintro v a w ⟨rfl, hS⟩ hf
            refine step_l (st_rd hf (Wn.none rfl) (rd_assign hf rfl rfl) hS rfl rfl ?_)
            clear hf; intro a hf
            refine done_l ?_
            refine t_normal ?_
            refine c_ret ?_
            refine t_ret ?_
            refine e_res1 hf.defers rfl (res_tmp hf rfl .nil) ?_
            exact ⟨rfl, hS.sub (by repeat (first | exact Sub.refl | exact Sub.none | exact Sub.behind | (apply Sub.cons; (focus ((repeat (first | exact Sel.head | apply Sel.tail)); done))) | apply Sub.skip))⟩
            )
        · clear hf; intro hc7 a hf
          have hkl : k = l.length := by omega
          subst hkl
          have hlt := accL_len l l.length
          obtain ⟨A, hA⟩ : ∃ A, A = accL l l.length := ⟨_, rfl⟩
          rw [← hA] at hlen hlt hS
          subst hlen
          have hpos : 0 < A.length := by omega
          obtain ⟨ad, rfl⟩ := (hS.slOfRw (by repeat (first | exact Sel.head | apply Sel.tail))).some (by omega)
          obtain ⟨t, ht⟩ : ∃ t, t = (turn % 18446744073709551616).toNat % A.length := ⟨_, rfl⟩
          have htl : t < A.length := by rw [ht]; exact Nat.mod_lt _ hpos
          obtain ⟨x0, hx0⟩ := get_of_lt (l := A) (k := 0) (by omega) rfl
          obtain ⟨y0, hy0⟩ := get_of_lt (l := A) (k := t) (by omega) rfl
          first
          | (first | exact Bool.noConfusion hc7 | exact absurd hzx hc7 | exact Bool.noConfusion (hbt.symm.trans hc7) | exact absurd (And.intro hs1 hs2) hc7 | exact absurd hc7 (by omega); done)
          | (
            refine done_l ?_
            refine t_normal ?_
            refine c_false hf rfl ?_
            refine c_skip ?_
            refine t_normal ?_
            refine c_seq ?_
            refine c_region ?_
            refine step_l (st_rd hf (Wn.none rfl) (rd_move hf rfl rfl) hS rfl rfl ?_)
            clear hf; intro a hf
            refine step_l (st_rd hf (Wn.none rfl) (rd_convInt hf rfl rfl Try.underlying3 Try.underlying30 rfl) hS rfl rfl ?_)
            clear hf; intro a hf
            refine step_l (st_rd hf (Wn.none rfl) (rd_move hf rfl rfl) hS rfl rfl ?_)
            clear hf; intro a hf
            refine step_l (st_rd hf (Wn.none rfl) (rd_len hf rfl rfl Try.underlying29) hS rfl rfl ?_)
            clear hf; intro a hf
            refine step_l (st_rd hf (Wn.none rfl) (rd_convInt hf rfl rfl Try.underlying3 Try.underlying30 (Go.IntWalk.u64_in _ (by omega))) hS rfl rfl ?_)
            clear hf; intro a hf
            refine step_l (st_rd hf (Wn.none rfl) (rd_rem hf rfl rfl rfl (by first | decide | omega) ((u64modM turn (by omega)).trans (congrArg (fun z : Nat => (z : Int)) ht.symm))) hS rfl rfl ?_)
            clear hf; intro a hf
            refine step_l (st_rd hf (Wn.none rfl) (rd_convInt hf rfl rfl Try.underlying30 Try.underlying3 (Go.IntWalk.i64_in _ (by omega))) hS rfl rfl ?_)
            clear hf; intro a hf
            refine step_l (st_rd hf (Wn.none rfl) (rd_assign hf rfl rfl) hS rfl rfl ?_)
            clear hf; intro a hf
            refine done_l ?_
            refine t_normal ?_
            refine c_seq ?_
            refine any_begin (S := Sat W (Rw 23 2 (some ad) A.length cap (A.flatMap memC) :: R)) mixed (hS.drew.sub (by repeat (first | exact Sub.refl | exact Sub.none | exact Sub.behind | (apply Sub.cons; (focus ((repeat (first | exact Sel.head | apply Sel.tail)); done))) | apply Sub.skip))) ?_
            have hT : Sat W (Rw 23 2 (some ad) A.length cap (A.flatMap memC) :: R) _ := hS.drew.sub (by repeat (first | exact Sub.refl | exact Sub.none | exact Sub.behind | (apply Sub.cons; (focus ((repeat (first | exact Sel.head | apply Sel.tail)); done))) | apply Sub.skip))
            replace hS := hS.drew
            refine any_take (i := 0) hf rfl (by kernel_rfl) (by kernel_rfl) (by kernel_rfl) (fun _ _ _ h => h) (Wn.none rfl) (rd_move hf rfl rfl) hT rfl rfl ?_
            clear hf; intro a hf
            refine any_take (i := 1) hf rfl (by kernel_rfl) (by kernel_rfl) (by kernel_rfl) (fun _ _ _ h => h) (Wn.none rfl) ((by first | exact rd_indexAddrN hf rfl rfl rfl Try.underlying29 sz23 (by omega) | exact rd_indexAddr hf rfl rfl rfl Try.underlying29 sz23 (by first | decide | omega) (by omega))) hT rfl rfl ?_
            clear hf; intro a hf
            refine any_take (i := 2) hf rfl (by kernel_rfl) (by kernel_rfl) (by kernel_rfl) (fun _ _ _ h => h) (Wn.none rfl) (rd_loadN hf rfl rfl ag23 sz23 (by intro _ h; exact (h.slOfRw (by repeat (first | exact Sel.head | apply Sel.tail))).elem memC_len hx0)) hT rfl rfl ?_
            clear hf; intro a hf
            refine any_take (i := 3) hf rfl (by kernel_rfl) (by kernel_rfl) (by kernel_rfl) (fun _ _ _ h => h) (Wn.none rfl) (rd_move hf rfl rfl) hT rfl rfl ?_
            clear hf; intro a hf
            refine any_take (i := 4) hf rfl (by kernel_rfl) (by kernel_rfl) (by kernel_rfl) (fun _ _ _ h => h) (Wn.none rfl) (rd_move hf rfl rfl) hT rfl rfl ?_
            clear hf; intro a hf
            refine any_take (i := 5) hf rfl (by kernel_rfl) (by kernel_rfl) (by kernel_rfl) (fun _ _ _ h => h) (Wn.none rfl) ((by first | exact rd_indexAddrN hf rfl rfl rfl Try.underlying29 sz23 (by omega) | exact rd_indexAddr hf rfl rfl rfl Try.underlying29 sz23 (by first | decide | omega) (by omega))) hT rfl rfl ?_
            clear hf; intro a hf
            refine any_take (i := 6) hf rfl (by kernel_rfl) (by kernel_rfl) (by kernel_rfl) (fun _ _ _ h => h) (Wn.none rfl) (rd_loadN hf rfl rfl ag23 sz23 (by intro _ h; exact (h.slOfRw (by repeat (first | exact Sel.head | apply Sel.tail))).elem memC_len hy0)) hT rfl rfl ?_
            clear hf; intro a hf
            refine float_only (fs := fl_4_11_0) (F := 1) (Rs := R) (by unfold fl_4_11_0; exact (.cons rfl rfl rfl zr23 (by rfl) rfl rfl (.cons rfl rfl rfl zr23 (by rfl) rfl rfl .nil))) (by decide) (by rfl) (by kernel_rfl) rfl hf hS (by repeat (first | exact Pre.nil | apply Pre.cons)) (fun os w h => h.sub (by repeat (first | exact Sub.refl | exact Sub.none | exact Sub.behind | (apply Sub.cons; (focus ((repeat (first | exact Sel.head | apply Sel.tail)); done))) | apply Sub.skip))) ?_
            clear hf hS hT; intro bs a w hb hf hS; obtain ⟨b_a, b_b, rfl⟩ := len_2 hb; clear hb; simp only [fl_4_11_0, fslots, fpcs, List.map_cons, List.map_nil, List.cons_append, List.nil_append] at hf hS
            have hT : Sat W (Rw 23 2 (some ad) A.length cap (A.flatMap memC) :: R) _ := hS.sub (by repeat (first | exact Sub.refl | exact Sub.none | exact Sub.behind | (apply Sub.cons; (focus ((repeat (first | exact Sel.head | apply Sel.tail)); done))) | apply Sub.skip))
            refine any_one (i := 9) rfl (by kernel_rfl) (st_store hf (Wn.none rfl) hS rfl rfl rfl (by rfl) sz23 (by rfl) (by rfl) (by repeat (first | exact Sel.head | apply Sel.tail)) (by repeat (first | exact Put.nil | apply Put.cons | apply Put.succ)) rfl ?_)
            clear hf hS; intro a w hf hS
            replace hT := hS.sub' hT (by repeat (first | exact Sub.refl | exact Sub.none | exact Sub.behind | (apply Sub.cons; (focus ((repeat (first | exact Sel.head | apply Sel.tail)); done))) | apply Sub.skip))
            refine ⟨hT, ?_⟩
            refine any_one (i := 10) rfl (by kernel_rfl) (st_store hf (Wn.none rfl) hS rfl rfl rfl (by rfl) sz23 (by rfl) (by rfl) (by repeat (first | exact Sel.head | apply Sel.tail)) (by repeat (first | exact Put.nil | apply Put.cons | apply Put.succ)) rfl ?_)
            clear hf hS; intro a w hf hS
            replace hT := hS.sub' hT (by repeat (first | exact Sub.refl | exact Sub.none | exact Sub.behind | (apply Sub.cons; (focus ((repeat (first | exact Sel.head | apply Sel.tail)); done))) | apply Sub.skip))
            refine ⟨hT, ?_⟩
            refine any_done (by kernel_rfl) ?_
            refine t_normal ?_
            refine c_seq ?_
            refine c_seq ?_
            refine c_region ?_
            refine step_l (st_rd hf (Wn.none rfl) (rd_move hf rfl rfl) hS rfl rfl ?_)
            clear hf; intro a hf
            refine step_l (st_rd hf (Wn.none rfl) (rd_len hf rfl rfl Try.underlying29) hS rfl rfl ?_)
            clear hf; intro a hf
            refine step_l (st_rd hf (Wn.none rfl) (rd_move hf rfl rfl) hS rfl rfl ?_)
            clear hf; intro a hf
            refine done_l ?_
            refine t_normal ?_
            refine c_block ?_
            refine c_loop (α := Nat × Mb × Mb) (fun ⟨k, x, y⟩ a w => Fits 99 a [(1, .int .i64 (t : Nat)), (5, .slice (some ad) A.length cap), (8, .pointer (some ⟨b_a, 0, none⟩)), (9, .pointer (some ⟨b_b, 0, none⟩)), (51, .int .i64 (A.length : Nat)), (52, .int .i64 (k : Nat))] ∧ Sat W (Rw 23 2 (some ad) A.length cap (A.flatMap memC) :: Blk b_a [.int .i64 x.1, .int .i64 x.2.1] 23 :: Blk b_b [.int .i64 y.1, .int .i64 y.2.1] 23 :: R) w ∧ k ≤ A.length ∧ x ∈ A ∧ y ∈ A ∧ (∀ (j : Nat) z, j < k → A[j]? = some z → leM z x) ∧ (∀ (j : Nat) z, j < k → A[(j + t) % A.length]? = some z → leM z y)) (fun ⟨k, x, y⟩ => A.length - k) (0, x0, y0) ?_ ?_
            · exact ⟨((((((hf.k0.kb hf 52 rfl (by rfl)).kb hf 51 rfl (by rfl)).kb hf 9 rfl (by rfl)).kb hf 8 rfl (by rfl)).kb hf 5 rfl (by rfl)).kb hf 1 rfl (by rfl)), hS.sub (by repeat (first | exact Sub.refl | exact Sub.none | exact Sub.behind | (apply Sub.cons; (focus ((repeat (first | exact Sel.head | apply Sel.tail)); done))) | apply Sub.skip)), ⟨Nat.zero_le _, List.mem_of_getElem? hx0, List.mem_of_getElem? hy0, fun j z h => absurd h (by omega), fun j z h => absurd h (by omega)⟩⟩
            · clear hf hS; rintro ⟨k, x, y⟩ a w ⟨hf, hS, ⟨hk, hxm, hym, hx, hy⟩⟩
              refine c_seq ?_
              refine c_region ?_
              refine step_l (st_rdB hf (Wn.none rfl) (rd_lss hf rfl rfl rfl) hS rfl rfl ?_ ?_)
              · clear hf; intro hc10 a hf
                obtain ⟨u, hu⟩ := get_of_lt (l := A) (k := k) (by omega) rfl
                have hmt := Nat.mod_lt (k + t) hpos
                obtain ⟨v, hv⟩ := get_of_lt (l := A) (k := (k + t) % A.length) (by omega) rfl
                first
                | (first | exact Bool.noConfusion hc10 | exact absurd hzx hc10 | exact Bool.noConfusion (hbt.symm.trans hc10) | exact absurd (And.intro hs1 hs2) hc10 | exact absurd hc10 (by omega); done)
                | (
                  refine done_l ?_
                  refine t_normal ?_
                  refine c_seq ?_
                  refine c_true hf rfl ?_
                  refine c_skip ?_
                  refine t_normal ?_
                  refine c_seq ?_
                  refine c_block ?_
                  refine c_seq ?_
                  refine c_region ?_
                  refine step_l (st_rd hf (Wn.none rfl) (rd_move hf rfl rfl) hS rfl rfl ?_)
                  clear hf; intro a hf
                  refine step_l (st_rd hf (Wn.none rfl) (rd_assign hf rfl rfl) hS rfl rfl ?_)
                  clear hf; intro a hf
                  refine done_l ?_
                  refine t_normal ?_
                  refine c_seq ?_
                  refine any_begin (S := Sat W (Rw 23 2 (some ad) A.length cap (A.flatMap memC) :: R)) mixed (hS.drew.sub (by repeat (first | exact Sub.refl | exact Sub.none | exact Sub.behind | (apply Sub.cons; (focus ((repeat (first | exact Sel.head | apply Sel.tail)); done))) | apply Sub.skip))) ?_
                  have hT : Sat W (Rw 23 2 (some ad) A.length cap (A.flatMap memC) :: R) _ := hS.drew.sub (by repeat (first | exact Sub.refl | exact Sub.none | exact Sub.behind | (apply Sub.cons; (focus ((repeat (first | exact Sel.head | apply Sel.tail)); done))) | apply Sub.skip))
                  replace hS := hS.drew
                  refine any_take (i := 1) hf rfl (by kernel_rfl) (by kernel_rfl) (by kernel_rfl) (fun _ _ _ h => h) (Wn.none rfl) (rd_move hf rfl rfl) hT rfl rfl ?_
                  clear hf; intro a hf
                  refine any_take (i := 2) hf rfl (by kernel_rfl) (by kernel_rfl) (by kernel_rfl) (fun _ _ _ h => h) (Wn.none rfl) (rd_move hf rfl rfl) hT rfl rfl ?_
                  clear hf; intro a hf
                  refine any_take (i := 3) hf rfl (by kernel_rfl) (by kernel_rfl) (by kernel_rfl) (fun _ _ _ h => h) (Wn.none rfl) ((by first | exact rd_indexAddrN hf rfl rfl rfl Try.underlying29 sz23 (by omega) | exact rd_indexAddr hf rfl rfl rfl Try.underlying29 sz23 (by first | decide | omega) (by omega))) hT rfl rfl ?_
                  clear hf; intro a hf
                  refine any_take (i := 4) hf rfl (by kernel_rfl) (by kernel_rfl) (by kernel_rfl) (fun _ _ _ h => h) (Wn.none rfl) (rd_loadN hf rfl rfl ag23 sz23 (by intro _ h; exact (h.slOfRw (by repeat (first | exact Sel.head | apply Sel.tail))).elem memC_len hu)) hT rfl rfl ?_
                  clear hf; intro a hf
                  refine any_one (i := 0) rfl (by kernel_rfl) (st_rd hf (Wn.none rfl) (rd_loadN hf rfl rfl ag23 sz23 (by intro _ h; exact loadN_of h (by repeat (first | exact Sel.head | apply Sel.tail)) (by repeat (first | exact Seg.nil | apply Seg.cons | apply Seg.succ)) )) hS rfl rfl ?_)
                  clear hf; intro a hf
                  refine ⟨hT, ?_⟩
                  refine any_one (i := 5) rfl (by kernel_rfl) (st_call hf (Wn.none rfl) rfl rfl rfl fn16 (Join_c _ _ _ _ hS) rfl rfl ?_)
                  clear hf hS; rintro v a w ⟨rfl, hS⟩ hf
                  replace hT := hS.sub' hT (by repeat (first | exact Sub.refl | exact Sub.none | exact Sub.behind | (apply Sub.cons; (focus ((repeat (first | exact Sel.head | apply Sel.tail)); done))) | apply Sub.skip))
                  refine ⟨hT, ?_⟩
                  refine any_one (i := 6) rfl (by kernel_rfl) (st_store hf (Wn.none rfl) hS rfl rfl rfl (by rfl) sz23 (by rfl) (by rfl) (by repeat (first | exact Sel.head | apply Sel.tail)) (by repeat (first | exact Put.nil | apply Put.cons | apply Put.succ)) rfl ?_)
                  clear hf hS; intro a w hf hS
                  replace hT := hS.sub' hT (by repeat (first | exact Sub.refl | exact Sub.none | exact Sub.behind | (apply Sub.cons; (focus ((repeat (first | exact Sel.head | apply Sel.tail)); done))) | apply Sub.skip))
                  refine ⟨hT, ?_⟩
                  refine any_done (by kernel_rfl) ?_
                  refine t_normal ?_
                  refine any_begin (S := Sat W (Rw 23 2 (some ad) A.length cap (A.flatMap memC) :: R)) mixed (hS.drew.sub (by repeat (first | exact Sub.refl | exact Sub.none | exact Sub.behind | (apply Sub.cons; (focus ((repeat (first | exact Sel.head | apply Sel.tail)); done))) | apply Sub.skip))) ?_
                  have hT : Sat W (Rw 23 2 (some ad) A.length cap (A.flatMap memC) :: R) _ := hS.drew.sub (by repeat (first | exact Sub.refl | exact Sub.none | exact Sub.behind | (apply Sub.cons; (focus ((repeat (first | exact Sel.head | apply Sel.tail)); done))) | apply Sub.skip))
                  replace hS := hS.drew
                  refine any_take (i := 1) hf rfl (by kernel_rfl) (by kernel_rfl) (by kernel_rfl) (fun _ _ _ h => h) (Wn.none rfl) (rd_move hf rfl rfl) hT rfl rfl ?_
                  clear hf; intro a hf
                  refine any_take (i := 2) hf rfl (by kernel_rfl) (by kernel_rfl) (by kernel_rfl) (fun _ _ _ h => h) (Wn.none rfl) (rd_move hf rfl rfl) hT rfl rfl ?_
                  clear hf; intro a hf
                  refine any_take (i := 3) hf rfl (by kernel_rfl) (by kernel_rfl) (by kernel_rfl) (fun _ _ _ h => h) (Wn.none rfl) (rd_move hf rfl rfl) hT rfl rfl ?_
                  clear hf; intro a hf
                  refine any_take (i := 4) hf rfl (by kernel_rfl) (by kernel_rfl) (by kernel_rfl) (fun _ _ _ h => h) (Wn.none rfl) (rd_add hf rfl rfl rfl (by first | exact Go.IntWalk.i64_in _ (by omega) | exact rfl)) hT rfl rfl ?_
                  clear hf; intro a hf
                  refine any_take (i := 5) hf rfl (by kernel_rfl) (by kernel_rfl) (by kernel_rfl) (fun _ _ _ h => h) (Wn.none rfl) (rd_move hf rfl rfl) hT rfl rfl ?_
                  clear hf; intro a hf
                  refine any_take (i := 6) hf rfl (by kernel_rfl) (by kernel_rfl) (by kernel_rfl) (fun _ _ _ h => h) (Wn.none rfl) (rd_len hf rfl rfl Try.underlying29) hT rfl rfl ?_
                  clear hf; intro a hf
                  refine any_take (i := 7) hf rfl (by kernel_rfl) (by kernel_rfl) (by kernel_rfl) (fun _ _ _ h => h) (Wn.none rfl) (rd_rem hf rfl rfl rfl (by first | decide | omega) (tmodM _ _ _)) hT rfl rfl ?_
                  clear hf; intro a hf
                  refine any_take (i := 8) hf rfl (by kernel_rfl) (by kernel_rfl) (by kernel_rfl) (fun _ _ _ h => h) (Wn.none rfl) ((by first | exact rd_indexAddrN hf rfl rfl rfl Try.underlying29 sz23 (by omega) | exact rd_indexAddr hf rfl rfl rfl Try.underlying29 sz23 (by first | decide | omega) (by omega))) hT rfl rfl ?_
                  clear hf; intro a hf
                  refine any_take (i := 9) hf rfl (by kernel_rfl) (by kernel_rfl) (by kernel_rfl) (fun _ _ _ h => h) (Wn.none rfl) (rd_loadN hf rfl rfl ag23 sz23 (by intro _ h; exact (h.slOfRw (by repeat (first | exact Sel.head | apply Sel.tail))).elem memC_len hv)) hT rfl rfl ?_
                  clear hf; intro a hf
                  refine any_one (i := 0) rfl (by kernel_rfl) (st_rd hf (Wn.none rfl) (rd_loadN hf rfl rfl ag23 sz23 (by intro _ h; exact loadN_of h (by repeat (first | exact Sel.head | apply Sel.tail)) (by repeat (first | exact Seg.nil | apply Seg.cons | apply Seg.succ)) )) hS rfl rfl ?_)
                  clear hf; intro a hf
                  refine ⟨hT, ?_⟩
                  refine any_one (i := 10) rfl (by kernel_rfl) (st_call hf (Wn.none rfl) rfl rfl rfl fn16 (Join_c _ _ _ _ hS) rfl rfl ?_)
                  clear hf hS; rintro v a w ⟨rfl, hS⟩ hf
                  replace hT := hS.sub' hT (by repeat (first | exact Sub.refl | exact Sub.none | exact Sub.behind | (apply Sub.cons; (focus ((repeat (first | exact Sel.head | apply Sel.tail)); done))) | apply Sub.skip))
                  refine ⟨hT, ?_⟩
                  refine any_one (i := 11) rfl (by kernel_rfl) (st_store hf (Wn.none rfl) hS rfl rfl rfl (by rfl) sz23 (by rfl) (by rfl) (by repeat (first | exact Sel.head | apply Sel.tail)) (by repeat (first | exact Put.nil | apply Put.cons | apply Put.succ)) rfl ?_)
                  clear hf hS; intro a w hf hS
                  replace hT := hS.sub' hT (by repeat (first | exact Sub.refl | exact Sub.none | exact Sub.behind | (apply Sub.cons; (focus ((repeat (first | exact Sel.head | apply Sel.tail)); done))) | apply Sub.skip))
                  refine ⟨hT, ?_⟩
                  refine any_done (by kernel_rfl) ?_
                  refine b_normal ?_
                  refine t_normal ?_
                  refine c_region ?_
                  refine step_l (st_rd hf (Wn.none rfl) (rd_add hf rfl rfl rfl (by first | exact Go.IntWalk.i64_in _ (by omega) | exact rfl)) hS rfl rfl ?_)
                  clear hf; intro a hf
                  refine step_l (st_rd hf (Wn.none rfl) (rd_move hf rfl rfl) hS rfl rfl ?_)
                  clear hf; intro a hf
                  refine done_l ?_
                  refine t_normal ⟨(k + 1, joinM x u, joinM y v), ⟨((((((hf.k0.kb hf 52 rfl (by first | rfl | exact int_eq (by omega))).kb hf 51 rfl (by rfl)).kb hf 9 rfl (by rfl)).kb hf 8 rfl (by rfl)).kb hf 5 rfl (by rfl)).kb hf 1 rfl (by rfl)), hS.sub (by repeat (first | exact Sub.refl | exact Sub.none | exact Sub.behind | (apply Sub.cons; (focus ((repeat (first | exact Sel.head | apply Sel.tail)); done))) | apply Sub.skip)), ⟨by omega, join_mem hxm (List.mem_of_getElem? hu), join_mem hym (List.mem_of_getElem? hv), step_max id hu hx, step_max (fun j => (j + t) % A.length) hv hy⟩⟩, by first | omega | (simp only []; omega)⟩
                  )
              · clear hf; intro hc10 a hf
                have hkA : k = A.length := by omega
                subst hkA
                obtain ⟨hs1, hs2⟩ := same_max hxm hym hx hy
                first
                | (first | exact Bool.noConfusion hc10 | exact absurd hzx hc10 | exact Bool.noConfusion (hbt.symm.trans hc10) | exact absurd (And.intro hs1 hs2) hc10 | exact absurd hc10 (by omega); done)
                | (
                  refine done_l ?_
                  refine t_normal ?_
                  refine c_seq ?_
                  refine c_false hf rfl ?_
                  refine c_exit ?_
                  refine t_exit ?_
                  refine t_exit ?_
                  refine b_exit ?_
                  refine t_normal ?_
                  refine c_seq ?_
                  refine c_region ?_
                  refine step_l (st_rd hf (Wn.none rfl) (rd_assign hf rfl rfl) hS rfl rfl ?_)
                  clear hf; intro a hf
                  refine done_l ?_
                  refine t_normal ?_
                  refine c_seq ?_
                  refine c_seq ?_
                  refine c_region ?_
                  refine step_l (st_rd hf (Wn.none rfl) (rd_move hf rfl rfl) hS rfl rfl ?_)
                  clear hf; intro a hf
                  refine step_l (st_rd hf (Wn.none rfl) (rd_len hf rfl rfl Try.underlying29) hS rfl rfl ?_)
                  clear hf; intro a hf
                  refine step_l (st_rd hf (Wn.none rfl) (rd_move hf rfl rfl) hS rfl rfl ?_)
                  clear hf; intro a hf
                  refine done_l ?_
                  refine t_normal ?_
                  refine c_block ?_
                  refine c_loop (α := Nat × Bool) (fun ⟨k, b⟩ a w => Fits 99 a [(8, .pointer (some ⟨b_a, 0, none⟩)), (9, .pointer (some ⟨b_b, 0, none⟩)), (11, .bool b), (73, .slice (some ad) A.length cap), (74, .int .i64 (A.length : Nat)), (75, .int .i64 (k : Nat))] ∧ Sat W (Rw 23 2 (some ad) A.length cap (A.flatMap memC) :: Blk b_a [.int .i64 x.1, .int .i64 x.2.1] 23 :: Blk b_b [.int .i64 y.1, .int .i64 y.2.1] 23 :: R) w ∧ k ≤ A.length ∧ (∀ (j : Nat) z, j < k → A[j]? = some z → (z.1 = x.1 ∧ z.2.1 = x.2.1) → b = true)) (fun ⟨k, b⟩ => A.length - k) (0, false) ?_ ?_
                  · exact ⟨((((((hf.k0.kb hf 75 rfl (by rfl)).kb hf 74 rfl (by rfl)).kb hf 73 rfl (by rfl)).kb hf 11 rfl (by rfl)).kb hf 9 rfl (by rfl)).kb hf 8 rfl (by rfl)), hS.sub (by repeat (first | exact Sub.refl | exact Sub.none | exact Sub.behind | (apply Sub.cons; (focus ((repeat (first | exact Sel.head | apply Sel.tail)); done))) | apply Sub.skip)), ⟨Nat.zero_le _, fun j z h => absurd h (by omega)⟩⟩
                  · clear hf hS; rintro ⟨k, b⟩ a w ⟨hf, hS, ⟨hk3, hb⟩⟩
                    refine c_seq ?_
                    refine c_region ?_
                    refine step_l (st_rdB hf (Wn.none rfl) (rd_lss hf rfl rfl rfl) hS rfl rfl ?_ ?_)
                    · clear hf; intro hc11 a hf
                      obtain ⟨z, hz3⟩ := get_of_lt (l := A) (k := k) (by omega) rfl
                      have hzx := hx k z (by omega) hz3
                      first
                      | (first | exact Bool.noConfusion hc11 | exact absurd hzx hc11 | exact Bool.noConfusion (hbt.symm.trans hc11) | exact absurd (And.intro hs1 hs2) hc11 | exact absurd hc11 (by omega); done)
                      | (
                        refine done_l ?_
                        refine t_normal ?_
                        refine c_seq ?_
                        refine c_true hf rfl ?_
                        refine c_skip ?_
                        refine t_normal ?_
                        refine c_seq ?_
                        refine c_block ?_
                        refine c_seq ?_
                        refine c_region ?_
                        refine step_l (st_rd hf (Wn.none rfl) ((by first | exact rd_indexAddrN hf rfl rfl rfl Try.underlying29 sz23 (by omega) | exact rd_indexAddr hf rfl rfl rfl Try.underlying29 sz23 (by first | decide | omega) (by omega))) hS rfl rfl ?_)
                        clear hf; intro a hf
                        refine step_l (st_rd hf (Wn.none rfl) (rd_loadN hf rfl rfl ag23 sz23 (by intro _ h; exact (h.slOfRw (by repeat (first | exact Sel.head | apply Sel.tail))).elem memC_len hz3)) hS rfl rfl ?_)
                        clear hf; intro a hf
                        refine step_l (st_alloc hf (Wn.none rfl) hS rfl zr23 (by rfl) rfl rfl ?_)
                        clear hf hS; intro b_z a w hf hS
                        refine step_l (st_store hf (Wn.none rfl) hS rfl rfl rfl (by rfl) sz23 (by rfl) (by rfl) (by repeat (first | exact Sel.head | apply Sel.tail)) (by repeat (first | exact Put.nil | apply Put.cons | apply Put.succ)) rfl ?_)
                        clear hf hS; intro a w hf hS
                        refine done_l ?_
                        refine t_normal ?_
                        refine c_seq ?_
                        refine c_seq ?_
                        refine c_region ?_
                        refine step_l (st_rd hf (Wn.none rfl) (rd_loadN hf rfl rfl ag23 sz23 (by intro _ h; exact loadN_of h (by repeat (first | exact Sel.head | apply Sel.tail)) (by repeat (first | exact Seg.nil | apply Seg.cons | apply Seg.succ)) )) hS rfl rfl ?_)
                        clear hf; intro a hf
                        refine step_l (st_rd hf (Wn.none rfl) (rd_loadN hf rfl rfl ag23 sz23 (by intro _ h; exact loadN_of h (by repeat (first | exact Sel.head | apply Sel.tail)) (by repeat (first | exact Seg.nil | apply Seg.cons | apply Seg.succ)) )) hS rfl rfl ?_)
                        clear hf; intro a hf
                        refine step_l (st_call hf (Wn.none rfl) rfl rfl rfl fn17 (Leq_c _ _ _ _ hS) rfl rfl ?_)
                        clear hf hS; rintro v a w ⟨rfl, hS⟩ hf
                        first | refine split_dec (d := 81) hf rfl ?_ ?_ | refine split_bool (d := 81) hf rfl ?_ ?_
                        · clear hf; intro hc13 hf
                          first
                          | (first | exact Bool.noConfusion hc13 | exact absurd hzx hc13 | exact Bool.noConfusion (hbt.symm.trans hc13) | exact absurd (And.intro hs1 hs2) hc13 | exact absurd hc13 (by omega); done)
                          | (
                            refine step_l (st_rd hf (Wn.none rfl) (rd_not hf rfl rfl) hS rfl rfl ?_)
                            clear hf; intro a hf
                            refine done_l ?_
                            refine t_normal ?_
                            refine c_false hf rfl ?_
                            refine c_skip ?_
                            refine t_normal ?_
                            refine c_region ?_
                            refine step_l (st_rdb hf (Wn.none rfl) (rd_move hf rfl rfl) hS rfl rfl ?_ ?_)
                            · clear hf; intro hc14 a hf
                              first
                              | (first | exact Bool.noConfusion hc14 | exact absurd hzx hc14 | exact Bool.noConfusion (hbt.symm.trans hc14) | exact absurd (And.intro hs1 hs2) hc14 | exact absurd hc14 (by omega); done)
                              | (
                                refine step_l (st_rd hf (Wn.none rfl) (rd_move hf rfl rfl) hS rfl rfl ?_)
                                clear hf; intro a hf
                                refine step_l (st_skip hf (Wn.some hf rfl rfl rfl rfl) rfl rfl ?_)
                                clear hf; intro a hf
                                refine step_l (st_skip hf (Wn.some hf rfl rfl rfl rfl) rfl rfl ?_)
                                clear hf; intro a hf
                                refine step_l (st_skip hf (Wn.some hf rfl rfl rfl rfl) rfl rfl ?_)
                                clear hf; intro a hf
                                refine step_l (st_rd hf (Wn.none rfl) (rd_pick_t hf rfl rfl rfl) hS rfl rfl ?_)
                                clear hf; intro a hf
                                refine step_l (st_rd hf (Wn.none rfl) (rd_assign hf rfl rfl) hS rfl rfl ?_)
                                clear hf; intro a hf
                                refine done_l ?_
                                refine b_normal ?_
                                refine t_normal ?_
                                refine c_region ?_
                                refine step_l (st_rd hf (Wn.none rfl) (rd_add hf rfl rfl rfl (by first | exact Go.IntWalk.i64_in _ (by omega) | exact rfl)) hS rfl rfl ?_)
                                clear hf; intro a hf
                                refine step_l (st_rd hf (Wn.none rfl) (rd_move hf rfl rfl) hS rfl rfl ?_)
                                clear hf; intro a hf
                                refine done_l ?_
                                refine t_normal ⟨(k + 1, true), ⟨((((((hf.k0.kb hf 75 rfl (by first | rfl | exact int_eq (by omega))).kb hf 74 rfl (by rfl)).kb hf 73 rfl (by rfl)).kb hf 11 rfl (by rfl)).kb hf 9 rfl (by rfl)).kb hf 8 rfl (by rfl)), hS.sub (by repeat (first | exact Sub.refl | exact Sub.none | exact Sub.behind | (apply Sub.cons; (focus ((repeat (first | exact Sel.head | apply Sel.tail)); done))) | apply Sub.skip)), ⟨by omega, fun _ _ _ _ _ => rfl⟩⟩, by first | omega | (simp only []; omega)⟩
                                )
                            · clear hf; intro hc14 a hf
                              first
                              | (first | exact Bool.noConfusion hc14 | exact absurd hzx hc14 | exact Bool.noConfusion (hbt.symm.trans hc14) | exact absurd (And.intro hs1 hs2) hc14 | exact absurd hc14 (by omega); done)
                              | (
                                refine step_l (st_rd hf (Wn.none rfl) (rd_move hf rfl rfl) hS rfl rfl ?_)
                                clear hf; intro a hf
                                refine step_l (st_rd hf (Wn.some hf rfl rfl rfl rfl) (rd_loadN hf rfl rfl ag23 sz23 (by intro _ h; exact loadN_of h (by repeat (first | exact Sel.head | apply Sel.tail)) (by repeat (first | exact Seg.nil | apply Seg.cons | apply Seg.succ)) )) hS rfl rfl ?_)
                                clear hf; intro a hf
                                refine step_l (st_rd hf (Wn.some hf rfl rfl rfl rfl) (rd_loadN hf rfl rfl ag23 sz23 (by intro _ h; exact loadN_of h (by repeat (first | exact Sel.head | apply Sel.tail)) (by repeat (first | exact Seg.nil | apply Seg.cons | apply Seg.succ)) )) hS rfl rfl ?_)
                                clear hf; intro a hf
                                refine step_l (st_rdB hf (Wn.some hf rfl rfl rfl rfl) (rd_eqlM hf rfl rfl rfl) hS rfl rfl ?_ ?_)
                                · clear hf; intro hc15 a hf
                                  first
                                  | (first | exact Bool.noConfusion hc15 | exact absurd hzx hc15 | exact Bool.noConfusion (hbt.symm.trans hc15) | exact absurd (And.intro hs1 hs2) hc15 | exact absurd hc15 (by omega); done)
                                  | (
                                    refine step_l (st_rd hf (Wn.none rfl) (rd_pick_f hf rfl rfl rfl) hS rfl rfl ?_)
                                    clear hf; intro a hf
                                    refine step_l (st_rd hf (Wn.none rfl) (rd_assign hf rfl rfl) hS rfl rfl ?_)
                                    clear hf; intro a hf
                                    refine done_l ?_
                                    refine b_normal ?_
                                    refine t_normal ?_
                                    refine c_region ?_
                                    refine step_l (st_rd hf (Wn.none rfl) (rd_add hf rfl rfl rfl (by first | exact Go.IntWalk.i64_in _ (by omega) | exact rfl)) hS rfl rfl ?_)
                                    clear hf; intro a hf
                                    refine step_l (st_rd hf (Wn.none rfl) (rd_move hf rfl rfl) hS rfl rfl ?_)
                                    clear hf; intro a hf
                                    refine done_l ?_
                                    refine t_normal ⟨(k + 1, true), ⟨((((((hf.k0.kb hf 75 rfl (by first | rfl | exact int_eq (by omega))).kb hf 74 rfl (by rfl)).kb hf 73 rfl (by rfl)).kb hf 11 rfl (by rfl)).kb hf 9 rfl (by rfl)).kb hf 8 rfl (by rfl)), hS.sub (by repeat (first | exact Sub.refl | exact Sub.none | exact Sub.behind | (apply Sub.cons; (focus ((repeat (first | exact Sel.head | apply Sel.tail)); done))) | apply Sub.skip)), ⟨by omega, fun _ _ _ _ _ => rfl⟩⟩, by first | omega | (simp only []; omega)⟩
                                    )
                                · clear hf; intro hc15 a hf
                                  first
                                  | (first | exact Bool.noConfusion hc15 | exact absurd hzx hc15 | exact Bool.noConfusion (hbt.symm.trans hc15) | exact absurd (And.intro hs1 hs2) hc15 | exact absurd hc15 (by omega); done)
                                  | (
                                    refine step_l (st_rd hf (Wn.none rfl) (rd_pick_f hf rfl rfl rfl) hS rfl rfl ?_)
                                    clear hf; intro a hf
                                    refine step_l (st_rd hf (Wn.none rfl) (rd_assign hf rfl rfl) hS rfl rfl ?_)
                                    clear hf; intro a hf
                                    refine done_l ?_
                                    refine b_normal ?_
                                    refine t_normal ?_
                                    refine c_region ?_
                                    refine step_l (st_rd hf (Wn.none rfl) (rd_add hf rfl rfl rfl (by first | exact Go.IntWalk.i64_in _ (by omega) | exact rfl)) hS rfl rfl ?_)
                                    clear hf; intro a hf
                                    refine step_l (st_rd hf (Wn.none rfl) (rd_move hf rfl rfl) hS rfl rfl ?_)
                                    clear hf; intro a hf
                                    refine done_l ?_
                                    refine t_normal ⟨(k + 1, false), ⟨((((((hf.k0.kb hf 75 rfl (by first | rfl | exact int_eq (by omega))).kb hf 74 rfl (by rfl)).kb hf 73 rfl (by rfl)).kb hf 11 rfl (by rfl)).kb hf 9 rfl (by rfl)).kb hf 8 rfl (by rfl)), hS.sub (by repeat (first | exact Sub.refl | exact Sub.none | exact Sub.behind | (apply Sub.cons; (focus ((repeat (first | exact Sel.head | apply Sel.tail)); done))) | apply Sub.skip)), ⟨by omega, step_in hz3 hb (by assumption) (by assumption)⟩⟩, by first | omega | (simp only []; omega)⟩
                                    )
                                )
                            )
                        · clear hf; intro hc13 hf
                          first
                          | (first | exact Bool.noConfusion hc13 | exact absurd hzx hc13 | exact Bool.noConfusion (hbt.symm.trans hc13) | exact absurd (And.intro hs1 hs2) hc13 | exact absurd hc13 (by omega); done)
                          | (
                            refine step_l (st_rd hf (Wn.none rfl) (rd_not hf rfl rfl) hS rfl rfl ?_)
                            clear hf; intro a hf
                            refine done_l ?_
                            refine t_normal ?_
                            refine c_true hf rfl ?_
                            refine c_seq ?_
                            refine c_region ?_
                            refine step_l (st_rd hf (Wn.none rfl) (rd_assign hf rfl rfl) hS rfl rfl ?_)
                            clear hf; intro a hf
                            refine done_l ?_
                            refine t_normal ?_
                            refine c_ret ?_
                            refine t_ret ?_
                            refine b_ret ?_
                            refine t_ret ?_
                            refine t_ret ?_
                            refine b_ret ?_
                            refine t_ret ?_
                            refine e_res1 hf.defers rfl (res_tmp hf rfl .nil) ?_
                            exact ⟨rfl, hS.sub (by repeat (first | exact Sub.refl | exact Sub.none | exact Sub.behind | (apply Sub.cons; (focus ((repeat (first | exact Sel.head | apply Sel.tail)); done))) | apply Sub.skip))⟩
                            )
                        )
                    · clear hf; intro hc11 a hf
                      obtain ⟨jx, hjx⟩ := List.mem_iff_getElem?.1 hxm
                      have hbt := hb jx x (by have := (List.getElem?_eq_some_iff.1 hjx).1; omega) hjx ⟨rfl, rfl⟩
                      first
                      | (first | exact Bool.noConfusion hc11 | exact absurd hzx hc11 | exact Bool.noConfusion (hbt.symm.trans hc11) | exact absurd (And.intro hs1 hs2) hc11 | exact absurd hc11 (by omega); done)
                      | (
                        refine done_l ?_
                        refine t_normal ?_
                        refine c_seq ?_
                        refine c_false hf rfl ?_
                        refine c_exit ?_
                        refine t_exit ?_
                        refine t_exit ?_
                        refine b_exit ?_
                        refine t_normal ?_
                        refine c_seq ?_
                        refine c_region ?_
                        refine step_l (st_rd hf (Wn.none rfl) (rd_loadN hf rfl rfl ag23 sz23 (by intro _ h; exact loadN_of h (by repeat (first | exact Sel.head | apply Sel.tail)) (by repeat (first | exact Seg.nil | apply Seg.cons | apply Seg.succ)) )) hS rfl rfl ?_)
                        clear hf; intro a hf
                        refine step_l (st_rd hf (Wn.none rfl) (rd_loadN hf rfl rfl ag23 sz23 (by intro _ h; exact loadN_of h (by repeat (first | exact Sel.head | apply Sel.tail)) (by repeat (first | exact Seg.nil | apply Seg.cons | apply Seg.succ)) )) hS rfl rfl ?_)
                        clear hf; intro a hf
                        refine step_l (st_rdB hf (Wn.none rfl) (rd_eqlM hf rfl rfl rfl) hS rfl rfl ?_ ?_)
                        · clear hf; intro hc16 a hf
                          first
                          | (first | exact Bool.noConfusion hc16 | exact absurd hzx hc16 | exact Bool.noConfusion (hbt.symm.trans hc16) | exact absurd (And.intro hs1 hs2) hc16 | exact absurd hc16 (by omega); done)
                          | (
                            refine step_l (st_rd hf (Wn.none rfl) (rd_move hf rfl rfl) hS rfl rfl ?_)
                            clear hf; intro a hf
                            refine step_l (st_rdb hf (Wn.some hf rfl rfl rfl rfl) (rd_move hf rfl rfl) hS rfl rfl ?_ ?_)
                            · clear hf; intro hc17 a hf
                              first
                              | (first | exact Bool.noConfusion hc17 | exact absurd hzx hc17 | exact Bool.noConfusion (hbt.symm.trans hc17) | exact absurd (And.intro hs1 hs2) hc17 | exact absurd hc17 (by omega); done)
                              | (
                                refine step_l (st_rd hf (Wn.none rfl) (rd_pick_t hf rfl rfl rfl) hS rfl rfl ?_)
                                clear hf; intro a hf
                                refine step_l (st_rd hf (Wn.none rfl) (rd_move hf rfl rfl) hS rfl rfl ?_)
                                clear hf; intro a hf
                                refine step_l (st_call hf (Wn.some hf rfl rfl rfl rfl) rfl rfl rfl fn15 (awake_c hS) rfl rfl ?_)
                                clear hf hS; rintro v a w ⟨rfl, hS⟩ hf
                                refine step_l (st_rd hf (Wn.none rfl) (rd_pick_t hf rfl rfl rfl) hS rfl rfl ?_)
                                clear hf; intro a hf
                                refine step_l (st_rd hf (Wn.none rfl) (rd_assign hf rfl rfl) hS rfl rfl ?_)
                                clear hf; intro a hf
                                refine done_l ?_
                                refine t_normal ?_
                                refine c_ret ?_
                                refine e_res1 hf.defers rfl (res_tmp hf rfl .nil) ?_
                                exact ⟨rfl, hS.sub (by repeat (first | exact Sub.refl | exact Sub.none | exact Sub.behind | (apply Sub.cons; (focus ((repeat (first | exact Sel.head | apply Sel.tail)); done))) | apply Sub.skip))⟩
                                )
                            · clear hf; intro hc17 a hf
                              first
                              | (first | exact Bool.noConfusion hc17 | exact absurd hzx hc17 | exact Bool.noConfusion (hbt.symm.trans hc17) | exact absurd (And.intro hs1 hs2) hc17 | exact absurd hc17 (by omega); done)
                              | (
                                refine step_l (st_rd hf (Wn.none rfl) (rd_pick_t hf rfl rfl rfl) hS rfl rfl ?_)
                                clear hf; intro a hf
                                refine step_l (st_rd hf (Wn.none rfl) (rd_move hf rfl rfl) hS rfl rfl ?_)
                                clear hf; intro a hf
                                refine step_l (st_skip hf (Wn.some hf rfl rfl rfl rfl) rfl rfl ?_)
                                clear hf; intro a hf
                                refine step_l (st_rd hf (Wn.none rfl) (rd_pick_f hf rfl rfl rfl) hS rfl rfl ?_)
                                clear hf; intro a hf
                                refine step_l (st_rd hf (Wn.none rfl) (rd_assign hf rfl rfl) hS rfl rfl ?_)
                                clear hf; intro a hf
                                refine done_l ?_
                                refine t_normal ?_
                                refine c_ret ?_
                                refine e_res1 hf.defers rfl (res_tmp hf rfl .nil) ?_
                                exact ⟨rfl, hS.sub (by repeat (first | exact Sub.refl | exact Sub.none | exact Sub.behind | (apply Sub.cons; (focus ((repeat (first | exact Sel.head | apply Sel.tail)); done))) | apply Sub.skip))⟩
                                )
                            )
                        · clear hf; intro hc16 a hf
                          first
                          | (first | exact Bool.noConfusion hc16 | exact absurd hzx hc16 | exact Bool.noConfusion (hbt.symm.trans hc16) | exact absurd (And.intro hs1 hs2) hc16 | exact absurd hc16 (by omega); done)
                          | (
                            refine step_l (st_rd hf (Wn.none rfl) (rd_move hf rfl rfl) hS rfl rfl ?_)
                            clear hf; intro a hf
                            refine step_l (st_skip hf (Wn.some hf rfl rfl rfl rfl) rfl rfl ?_)
                            clear hf; intro a hf
                            refine step_l (st_rd hf (Wn.none rfl) (rd_pick_f hf rfl rfl rfl) hS rfl rfl ?_)
                            clear hf; intro a hf
                            refine step_l (st_rd hf (Wn.none rfl) (rd_move hf rfl rfl) hS rfl rfl ?_)
                            clear hf; intro a hf
                            refine step_l (st_skip hf (Wn.some hf rfl rfl rfl rfl) rfl rfl ?_)
                            clear hf; intro a hf
                            refine step_l (st_rd hf (Wn.none rfl) (rd_pick_f hf rfl rfl rfl) hS rfl rfl ?_)
                            clear hf; intro a hf
                            refine step_l (st_rd hf (Wn.none rfl) (rd_assign hf rfl rfl) hS rfl rfl ?_)
                            clear hf; intro a hf
                            refine done_l ?_
                            refine t_normal ?_
                            refine c_ret ?_
                            refine e_res1 hf.defers rfl (res_tmp hf rfl .nil) ?_
                            exact ⟨rfl, hS.sub (by repeat (first | exact Sub.refl | exact Sub.none | exact Sub.behind | (apply Sub.cons; (focus ((repeat (first | exact Sel.head | apply Sel.tail)); done))) | apply Sub.skip))⟩
                            )
                        )
                  )
            )
        )

end Go.Proofs.Ytgmbhbnhfmfidaa
