/-
  The functions of package keys and of its reference, walked.
  Conditions: none.
-/
import Derived.Test.YtgmbhbnhfmfidaaRows
import Derived.Test.YtgmbhbnhfmfidaaSl8
namespace Go.Proofs.Ytgmbhbnhfmfidaa
open Go Go.Sl
set_option linter.unusedVariables false
set_option linter.unusedSimpArgs false
theorem ag5 : aggO Try.prog 5 = some false := by kernel_rfl
theorem bz5_1 : ((Array.range (1 * 1)).map (fun j => ((.int .u8 0 : Value)).cells[j % ((.int .u8 0 : Value)).cells.size]!)) = ([.int .u8 0] : List Value).toArray := by kernel_rfl
theorem bz5_3 : ((Array.range (3 * 1)).map (fun j => ((.int .u8 0 : Value)).cells[j % ((.int .u8 0 : Value)).cells.size]!)) = ([.int .u8 0, .int .u8 0, .int .u8 0] : List Value).toArray := by kernel_rfl
theorem bz5_4 : ((Array.range (4 * 1)).map (fun j => ((.int .u8 0 : Value)).cells[j % ((.int .u8 0 : Value)).cells.size]!)) = ([.int .u8 0, .int .u8 0, .int .u8 0, .int .u8 0] : List Value).toArray := by kernel_rfl
theorem fn20 : fnB Try.prog 20 = true := by kernel_rfl
theorem fn21 : fnB Try.prog 21 = true := by kernel_rfl
theorem fn28 : fnB Try.prog 28 = true := by kernel_rfl
theorem fn33 : fnB Try.prog 33 = true := by kernel_rfl
theorem fn34 : fnB Try.prog 34 = true := by kernel_rfl
theorem fn42 : fnB Try.prog 42 = true := by kernel_rfl
theorem fn43 : fnB Try.prog 43 = true := by kernel_rfl
theorem fn44 : fnB Try.prog 44 = true := by kernel_rfl
theorem fn45 : fnB Try.prog 45 = true := by kernel_rfl
theorem mixed : Try.prog.follows .mixedOrders = true := by kernel_rfl
theorem pl60 : placesO Try.prog 60 = some [(0, 1), (1, 1), (2, 1), (3, 1)] := by kernel_rfl
theorem sz5 : (Try.prog.info? 5).map (·.size) = some 1 := by kernel_rfl
theorem sz60 : (Try.prog.info? 60).map (·.size) = some 4 := by kernel_rfl
theorem tyb5 : TyB Try.prog 5 (.int .u8 0) 1 1 := by unfold TyB; kernel_rfl
theorem zr5 : (Try.prog.info? 5).bind (·.zero) = some (.int .u8 0) := by kernel_rfl
theorem zr60 : (Try.prog.info? 60).bind (·.zero) = some (.agg #[.int .u8 0, .int .u8 0, .int .u8 0, .int .u8 0]) := by kernel_rfl
def plainP (c : UInt8) : Prop := (97 ≤ c.toNat ∧ c.toNat ≤ 122) ∨ (48 ≤ c.toNat ∧ c.toNat ≤ 57)
instance (c : UInt8) : Decidable (plainP c) := inferInstanceAs (Decidable ((97 ≤ c.toNat ∧ c.toNat ≤ 122) ∨ (48 ≤ c.toNat ∧ c.toNat ≤ 57)))
def bucketF (bs : List UInt8) : Nat := bs.foldl (fun n c => (n + c.toNat) % 4) 0
theorem bucketF_snoc (bs : List UInt8) (c : UInt8) : bucketF (bs ++ [c]) = (bucketF bs + c.toNat) % 4 := by simp [bucketF]
theorem bucketF_lt (bs : List UInt8) : bucketF bs < 4 := by
  unfold bucketF
  rcases List.eq_nil_or_concat bs with h | ⟨l, c, h⟩
  · simp [h]
  · simp [h]; omega
theorem wrap_u8i (c : UInt8) : IntKind.i64.wrap (c.toNat : Int) = c.toNat := Go.IntWalk.i64_in _ (by have := c.toNat_lt; omega)
def mayKeyP (bs : List UInt8) : Prop := 1 ≤ bs.length ∧ bs.length ≤ 32
instance (bs : List UInt8) : Decidable (mayKeyP bs) := inferInstanceAs (Decidable (1 ≤ bs.length ∧ bs.length ≤ 32))
theorem lenB {bs : List UInt8} {n : Nat} (h : bs.length ≤ n) : (bs.length : Int) ≤ n := by omega

theorem plain_c (c : UInt8) {W : World} {R : List HP} {w : World}  (hS : Sat W R w) : Calls Try.prog 43 [.int .u8 (c.toNat : Nat)].toArray w (Ret fun v w' => v = .bool (decide (plainP c)) ∧ Sat W R w') := by
  refine fn_start 17 Try.func43 rfl rfl rfl ?_
  intro a hf
  refine c_seq ?_
  refine c_region ?_
  refine step_l (st_rd hf (Wn.none rfl) (rd_assign hf rfl rfl) hS rfl rfl ?_)
  clear hf; intro a hf
  refine done_l ?_
  refine t_normal ?_
  refine c_seq ?_
  refine c_region ?_
  refine step_l (st_rd hf (Wn.none rfl) (rd_move hf rfl rfl) hS rfl rfl ?_)
  clear hf; intro a hf
  refine step_l (st_rdB hf (Wn.none rfl) (rd_geq hf rfl rfl rfl) hS rfl rfl ?_ ?_)
  · clear hf; intro hc1 a hf
    refine step_l (st_rd hf (Wn.none rfl) (rd_move hf rfl rfl) hS rfl rfl ?_)
    clear hf; intro a hf
    refine step_l (st_rd hf (Wn.some hf rfl rfl rfl rfl) (rd_move hf rfl rfl) hS rfl rfl ?_)
    clear hf; intro a hf
    refine step_l (st_rdB hf (Wn.some hf rfl rfl rfl rfl) (rd_leq hf rfl rfl rfl) hS rfl rfl ?_ ?_)
    · clear hf; intro hc2 a hf
      refine step_l (st_rd hf (Wn.none rfl) (rd_pick_t hf rfl rfl rfl) hS rfl rfl ?_)
      clear hf; intro a hf
      refine step_l (st_rd hf (Wn.none rfl) (rd_move hf rfl rfl) hS rfl rfl ?_)
      clear hf; intro a hf
      refine step_l (st_skip hf (Wn.some hf rfl rfl rfl rfl) rfl rfl ?_)
      clear hf; intro a hf
      refine step_l (st_skip hf (Wn.some hf rfl rfl rfl rfl) rfl rfl ?_)
      clear hf; intro a hf
      refine step_l (st_skip hf (Wn.some hf rfl rfl rfl rfl) rfl rfl ?_)
      clear hf; intro a hf
      refine step_l (st_skip hf (Wn.undef hf rfl rfl rfl) rfl rfl ?_)
      clear hf; intro a hf
      refine step_l (st_skip hf (Wn.undef hf rfl rfl rfl) rfl rfl ?_)
      clear hf; intro a hf
      refine step_l (st_skip hf (Wn.some hf rfl rfl rfl rfl) rfl rfl ?_)
      clear hf; intro a hf
      refine step_l (st_rd hf (Wn.none rfl) (rd_pick_t hf rfl rfl rfl) hS rfl rfl ?_)
      clear hf; intro a hf
      refine step_l (st_rd hf (Wn.none rfl) (rd_assign hf rfl rfl) hS rfl rfl ?_)
      clear hf; intro a hf
      refine done_l ?_
      refine t_normal ?_
      refine c_ret ?_
      refine e_res1 hf.defers rfl (res_tmp hf rfl .nil) ?_
      refine ⟨?_, hS.sub (by repeat (first | exact Sub.refl | exact Sub.none | (apply Sub.cons; (focus ((repeat (first | exact Sel.head | apply Sel.tail)); done))) | apply Sub.skip))⟩
      clear hf hS
      exact congrArg Value.bool (by first | (apply eq_dt; unfold plainP; omega) | (apply eq_df; unfold plainP; omega) | (apply decide_eq_decide.2; unfold plainP; omega))
    · clear hf; intro hc2 a hf
      refine step_l (st_rd hf (Wn.none rfl) (rd_pick_t hf rfl rfl rfl) hS rfl rfl ?_)
      clear hf; intro a hf
      refine step_l (st_rd hf (Wn.none rfl) (rd_move hf rfl rfl) hS rfl rfl ?_)
      clear hf; intro a hf
      refine step_l (st_rd hf (Wn.some hf rfl rfl rfl rfl) (rd_move hf rfl rfl) hS rfl rfl ?_)
      clear hf; intro a hf
      refine step_l (st_rdB hf (Wn.some hf rfl rfl rfl rfl) (rd_geq hf rfl rfl rfl) hS rfl rfl ?_ ?_)
      · clear hf; intro hc3 a hf
        refine step_l (st_rd hf (Wn.some hf rfl rfl rfl rfl) (rd_move hf rfl rfl) hS rfl rfl ?_)
        clear hf; intro a hf
        refine step_l (st_rd hf (Wn.some hf rfl rfl rfl rfl) (rd_move hf rfl rfl) hS rfl rfl ?_)
        clear hf; intro a hf
        refine step_l (st_rd hf (Wn.some hf rfl rfl rfl rfl) (rd_leq hf rfl rfl rfl) hS rfl rfl ?_)
        clear hf; intro a hf
        refine step_l (st_rd hf (Wn.some hf rfl rfl rfl rfl) (rd_pick_t hf rfl rfl rfl) hS rfl rfl ?_)
        clear hf; intro a hf
        refine step_l (st_rd hf (Wn.none rfl) (rd_pick_f hf rfl rfl rfl) hS rfl rfl ?_)
        clear hf; intro a hf
        refine step_l (st_rd hf (Wn.none rfl) (rd_assign hf rfl rfl) hS rfl rfl ?_)
        clear hf; intro a hf
        refine done_l ?_
        refine t_normal ?_
        refine c_ret ?_
        refine e_res1 hf.defers rfl (res_tmp hf rfl .nil) ?_
        refine ⟨?_, hS.sub (by repeat (first | exact Sub.refl | exact Sub.none | (apply Sub.cons; (focus ((repeat (first | exact Sel.head | apply Sel.tail)); done))) | apply Sub.skip))⟩
        clear hf hS
        exact congrArg Value.bool (by first | (apply eq_dt; unfold plainP; omega) | (apply eq_df; unfold plainP; omega) | (apply decide_eq_decide.2; unfold plainP; omega))
      · clear hf; intro hc3 a hf
        refine step_l (st_rd hf (Wn.some hf rfl rfl rfl rfl) (rd_move hf rfl rfl) hS rfl rfl ?_)
        clear hf; intro a hf
        refine step_l (st_skip hf (Wn.some hf rfl rfl rfl rfl) rfl rfl ?_)
        clear hf; intro a hf
        refine step_l (st_skip hf (Wn.some hf rfl rfl rfl rfl) rfl rfl ?_)
        clear hf; intro a hf
        refine step_l (st_rd hf (Wn.some hf rfl rfl rfl rfl) (rd_pick_f hf rfl rfl rfl) hS rfl rfl ?_)
        clear hf; intro a hf
        refine step_l (st_rd hf (Wn.none rfl) (rd_pick_f hf rfl rfl rfl) hS rfl rfl ?_)
        clear hf; intro a hf
        refine step_l (st_rd hf (Wn.none rfl) (rd_assign hf rfl rfl) hS rfl rfl ?_)
        clear hf; intro a hf
        refine done_l ?_
        refine t_normal ?_
        refine c_ret ?_
        refine e_res1 hf.defers rfl (res_tmp hf rfl .nil) ?_
        refine ⟨?_, hS.sub (by repeat (first | exact Sub.refl | exact Sub.none | (apply Sub.cons; (focus ((repeat (first | exact Sel.head | apply Sel.tail)); done))) | apply Sub.skip))⟩
        clear hf hS
        exact congrArg Value.bool (by first | (apply eq_dt; unfold plainP; omega) | (apply eq_df; unfold plainP; omega) | (apply decide_eq_decide.2; unfold plainP; omega))
  · clear hf; intro hc1 a hf
    refine step_l (st_rd hf (Wn.none rfl) (rd_move hf rfl rfl) hS rfl rfl ?_)
    clear hf; intro a hf
    refine step_l (st_skip hf (Wn.some hf rfl rfl rfl rfl) rfl rfl ?_)
    clear hf; intro a hf
    refine step_l (st_skip hf (Wn.some hf rfl rfl rfl rfl) rfl rfl ?_)
    clear hf; intro a hf
    refine step_l (st_rd hf (Wn.none rfl) (rd_pick_f hf rfl rfl rfl) hS rfl rfl ?_)
    clear hf; intro a hf
    refine step_l (st_rd hf (Wn.none rfl) (rd_move hf rfl rfl) hS rfl rfl ?_)
    clear hf; intro a hf
    refine step_l (st_rd hf (Wn.some hf rfl rfl rfl rfl) (rd_move hf rfl rfl) hS rfl rfl ?_)
    clear hf; intro a hf
    refine step_l (st_rdB hf (Wn.some hf rfl rfl rfl rfl) (rd_geq hf rfl rfl rfl) hS rfl rfl ?_ ?_)
    · clear hf; intro hc4 a hf
      refine step_l (st_rd hf (Wn.some hf rfl rfl rfl rfl) (rd_move hf rfl rfl) hS rfl rfl ?_)
      clear hf; intro a hf
      refine step_l (st_rd hf (Wn.some hf rfl rfl rfl rfl) (rd_move hf rfl rfl) hS rfl rfl ?_)
      clear hf; intro a hf
      refine step_l (st_rd hf (Wn.some hf rfl rfl rfl rfl) (rd_leq hf rfl rfl rfl) hS rfl rfl ?_)
      clear hf; intro a hf
      refine step_l (st_rd hf (Wn.some hf rfl rfl rfl rfl) (rd_pick_t hf rfl rfl rfl) hS rfl rfl ?_)
      clear hf; intro a hf
      refine step_l (st_rd hf (Wn.none rfl) (rd_pick_f hf rfl rfl rfl) hS rfl rfl ?_)
      clear hf; intro a hf
      refine step_l (st_rd hf (Wn.none rfl) (rd_assign hf rfl rfl) hS rfl rfl ?_)
      clear hf; intro a hf
      refine done_l ?_
      refine t_normal ?_
      refine c_ret ?_
      refine e_res1 hf.defers rfl (res_tmp hf rfl .nil) ?_
      refine ⟨?_, hS.sub (by repeat (first | exact Sub.refl | exact Sub.none | (apply Sub.cons; (focus ((repeat (first | exact Sel.head | apply Sel.tail)); done))) | apply Sub.skip))⟩
      clear hf hS
      exact congrArg Value.bool (by first | (apply eq_dt; unfold plainP; omega) | (apply eq_df; unfold plainP; omega) | (apply decide_eq_decide.2; unfold plainP; omega))
    · clear hf; intro hc4 a hf
      refine step_l (st_rd hf (Wn.some hf rfl rfl rfl rfl) (rd_move hf rfl rfl) hS rfl rfl ?_)
      clear hf; intro a hf
      refine step_l (st_skip hf (Wn.some hf rfl rfl rfl rfl) rfl rfl ?_)
      clear hf; intro a hf
      refine step_l (st_skip hf (Wn.some hf rfl rfl rfl rfl) rfl rfl ?_)
      clear hf; intro a hf
      refine step_l (st_rd hf (Wn.some hf rfl rfl rfl rfl) (rd_pick_f hf rfl rfl rfl) hS rfl rfl ?_)
      clear hf; intro a hf
      refine step_l (st_rd hf (Wn.none rfl) (rd_pick_f hf rfl rfl rfl) hS rfl rfl ?_)
      clear hf; intro a hf
      refine step_l (st_rd hf (Wn.none rfl) (rd_assign hf rfl rfl) hS rfl rfl ?_)
      clear hf; intro a hf
      refine done_l ?_
      refine t_normal ?_
      refine c_ret ?_
      refine e_res1 hf.defers rfl (res_tmp hf rfl .nil) ?_
      refine ⟨?_, hS.sub (by repeat (first | exact Sub.refl | exact Sub.none | (apply Sub.cons; (focus ((repeat (first | exact Sel.head | apply Sel.tail)); done))) | apply Sub.skip))⟩
      clear hf hS
      exact congrArg Value.bool (by first | (apply eq_dt; unfold plainP; omega) | (apply eq_df; unfold plainP; omega) | (apply decide_eq_decide.2; unfold plainP; omega))

theorem keyMay_c (bs : List UInt8) {W : World} {R : List HP} {w : World}  (hS : Sat W R w) : Calls Try.prog 21 [.string (str bs)].toArray w (Ret fun v w' => v = .bool (decide (mayKeyP bs)) ∧ Sat W R w') := by
  refine fn_start 11 Try.func21 rfl rfl rfl ?_
  intro a hf
  refine c_seq ?_
  refine c_region ?_
  refine step_l (st_rd hf (Wn.none rfl) (rd_assign hf rfl rfl) hS rfl rfl ?_)
  clear hf; intro a hf
  refine done_l ?_
  refine t_normal ?_
  refine c_seq ?_
  refine c_region ?_
  refine step_l (st_rd hf (Wn.none rfl) (rd_move hf rfl rfl) hS rfl rfl ?_)
  clear hf; intro a hf
  refine step_l (st_rd hf (Wn.none rfl) (rd_lenS hf rfl rfl Try.underlying9) hS rfl rfl ?_)
  clear hf; intro a hf
  refine step_l (st_rdB hf (Wn.none rfl) (rd_geq hf rfl rfl rfl) hS rfl rfl ?_ ?_)
  · clear hf; intro hc1 a hf
    refine step_l (st_rd hf (Wn.none rfl) (rd_move hf rfl rfl) hS rfl rfl ?_)
    clear hf; intro a hf
    refine step_l (st_rd hf (Wn.some hf rfl rfl rfl rfl) (rd_move hf rfl rfl) hS rfl rfl ?_)
    clear hf; intro a hf
    refine step_l (st_rd hf (Wn.some hf rfl rfl rfl rfl) (rd_lenS hf rfl rfl Try.underlying9) hS rfl rfl ?_)
    clear hf; intro a hf
    refine step_l (st_rd hf (Wn.some hf rfl rfl rfl rfl) (rd_leq hf rfl rfl rfl) hS rfl rfl ?_)
    clear hf; intro a hf
    refine step_l (st_rd hf (Wn.none rfl) (rd_pick_t hf rfl rfl rfl) hS rfl rfl ?_)
    clear hf; intro a hf
    refine step_l (st_rd hf (Wn.none rfl) (rd_assign hf rfl rfl) hS rfl rfl ?_)
    clear hf; intro a hf
    refine done_l ?_
    refine t_normal ?_
    refine c_ret ?_
    refine e_res1 hf.defers rfl (res_tmp hf rfl .nil) ?_
    refine ⟨?_, hS.sub (by repeat (first | exact Sub.refl | exact Sub.none | (apply Sub.cons; (focus ((repeat (first | exact Sel.head | apply Sel.tail)); done))) | apply Sub.skip))⟩
    clear hf hS
    exact congrArg Value.bool (by first | (apply eq_dt; unfold mayKeyP; omega) | (apply eq_df; unfold mayKeyP; omega) | (apply decide_eq_decide.2; unfold mayKeyP; omega))
  · clear hf; intro hc1 a hf
    refine step_l (st_rd hf (Wn.none rfl) (rd_move hf rfl rfl) hS rfl rfl ?_)
    clear hf; intro a hf
    refine step_l (st_skip hf (Wn.some hf rfl rfl rfl rfl) rfl rfl ?_)
    clear hf; intro a hf
    refine step_l (st_skip hf (Wn.some hf rfl rfl rfl rfl) rfl rfl ?_)
    clear hf; intro a hf
    refine step_l (st_skip hf (Wn.some hf rfl rfl rfl rfl) rfl rfl ?_)
    clear hf; intro a hf
    refine step_l (st_rd hf (Wn.none rfl) (rd_pick_f hf rfl rfl rfl) hS rfl rfl ?_)
    clear hf; intro a hf
    refine step_l (st_rd hf (Wn.none rfl) (rd_assign hf rfl rfl) hS rfl rfl ?_)
    clear hf; intro a hf
    refine done_l ?_
    refine t_normal ?_
    refine c_ret ?_
    refine e_res1 hf.defers rfl (res_tmp hf rfl .nil) ?_
    refine ⟨?_, hS.sub (by repeat (first | exact Sub.refl | exact Sub.none | (apply Sub.cons; (focus ((repeat (first | exact Sel.head | apply Sel.tail)); done))) | apply Sub.skip))⟩
    clear hf hS
    exact congrArg Value.bool (by first | (apply eq_dt; unfold mayKeyP; omega) | (apply eq_df; unfold mayKeyP; omega) | (apply decide_eq_decide.2; unfold mayKeyP; omega))

theorem rKeyMay_c (bs : List UInt8) {W : World} {R : List HP} {w : World}  (hS : Sat W R w) : Calls Try.prog 25 [.string (str bs)].toArray w (Ret fun v w' => v = .bool (decide (mayKeyP bs)) ∧ Sat W R w') := by
  refine fn_start 11 Try.func25 rfl rfl rfl ?_
  intro a hf
  refine c_seq ?_
  refine c_region ?_
  refine step_l (st_rd hf (Wn.none rfl) (rd_assign hf rfl rfl) hS rfl rfl ?_)
  clear hf; intro a hf
  refine done_l ?_
  refine t_normal ?_
  refine c_seq ?_
  refine c_region ?_
  refine step_l (st_rd hf (Wn.none rfl) (rd_move hf rfl rfl) hS rfl rfl ?_)
  clear hf; intro a hf
  refine step_l (st_rd hf (Wn.none rfl) (rd_lenS hf rfl rfl Try.underlying9) hS rfl rfl ?_)
  clear hf; intro a hf
  refine step_l (st_rdB hf (Wn.none rfl) (rd_geq hf rfl rfl rfl) hS rfl rfl ?_ ?_)
  · clear hf; intro hc1 a hf
    refine step_l (st_rd hf (Wn.none rfl) (rd_move hf rfl rfl) hS rfl rfl ?_)
    clear hf; intro a hf
    refine step_l (st_rd hf (Wn.some hf rfl rfl rfl rfl) (rd_move hf rfl rfl) hS rfl rfl ?_)
    clear hf; intro a hf
    refine step_l (st_rd hf (Wn.some hf rfl rfl rfl rfl) (rd_lenS hf rfl rfl Try.underlying9) hS rfl rfl ?_)
    clear hf; intro a hf
    refine step_l (st_rd hf (Wn.some hf rfl rfl rfl rfl) (rd_leq hf rfl rfl rfl) hS rfl rfl ?_)
    clear hf; intro a hf
    refine step_l (st_rd hf (Wn.none rfl) (rd_pick_t hf rfl rfl rfl) hS rfl rfl ?_)
    clear hf; intro a hf
    refine step_l (st_rd hf (Wn.none rfl) (rd_assign hf rfl rfl) hS rfl rfl ?_)
    clear hf; intro a hf
    refine done_l ?_
    refine t_normal ?_
    refine c_ret ?_
    refine e_res1 hf.defers rfl (res_tmp hf rfl .nil) ?_
    refine ⟨?_, hS.sub (by repeat (first | exact Sub.refl | exact Sub.none | (apply Sub.cons; (focus ((repeat (first | exact Sel.head | apply Sel.tail)); done))) | apply Sub.skip))⟩
    clear hf hS
    exact congrArg Value.bool (by first | (apply eq_dt; unfold mayKeyP; omega) | (apply eq_df; unfold mayKeyP; omega) | (apply decide_eq_decide.2; unfold mayKeyP; omega))
  · clear hf; intro hc1 a hf
    refine step_l (st_rd hf (Wn.none rfl) (rd_move hf rfl rfl) hS rfl rfl ?_)
    clear hf; intro a hf
    refine step_l (st_skip hf (Wn.some hf rfl rfl rfl rfl) rfl rfl ?_)
    clear hf; intro a hf
    refine step_l (st_skip hf (Wn.some hf rfl rfl rfl rfl) rfl rfl ?_)
    clear hf; intro a hf
    refine step_l (st_skip hf (Wn.some hf rfl rfl rfl rfl) rfl rfl ?_)
    clear hf; intro a hf
    refine step_l (st_rd hf (Wn.none rfl) (rd_pick_f hf rfl rfl rfl) hS rfl rfl ?_)
    clear hf; intro a hf
    refine step_l (st_rd hf (Wn.none rfl) (rd_assign hf rfl rfl) hS rfl rfl ?_)
    clear hf; intro a hf
    refine done_l ?_
    refine t_normal ?_
    refine c_ret ?_
    refine e_res1 hf.defers rfl (res_tmp hf rfl .nil) ?_
    refine ⟨?_, hS.sub (by repeat (first | exact Sub.refl | exact Sub.none | (apply Sub.cons; (focus ((repeat (first | exact Sel.head | apply Sel.tail)); done))) | apply Sub.skip))⟩
    clear hf hS
    exact congrArg Value.bool (by first | (apply eq_dt; unfold mayKeyP; omega) | (apply eq_df; unfold mayKeyP; omega) | (apply decide_eq_decide.2; unfold mayKeyP; omega))

theorem Bucket_c (bs : List UInt8) {W : World} {R : List HP} {w : World} (hb : bs.length ≤ 140737488351232) (hS : Sat W R w) : Calls Try.prog 20 [.string (str bs)].toArray w (Ret fun v w' => v = .int .i64 (bucketF bs : Nat) ∧ Sat W R w') := by
  refine fn_start 20 Try.func20 rfl rfl rfl ?_
  intro a hf
  refine c_seq ?_
  refine c_region ?_
  refine step_l (st_rd hf (Wn.none rfl) (rd_assign hf rfl rfl) hS rfl rfl ?_)
  clear hf; intro a hf
  refine done_l ?_
  refine t_normal ?_
  refine c_seq ?_
  refine c_region ?_
  refine step_l (st_rd hf (Wn.none rfl) (rd_assign hf rfl rfl) hS rfl rfl ?_)
  clear hf; intro a hf
  refine done_l ?_
  refine t_normal ?_
  refine c_seq ?_
  refine c_seq ?_
  refine c_region ?_
  refine step_l (st_rd hf (Wn.none rfl) (rd_move hf rfl rfl) hS rfl rfl ?_)
  clear hf; intro a hf
  refine step_l (st_bytes hf (Wn.none rfl) hS rfl rfl Try.underlying9 Try.underlying36 Try.underlying5 rfl rfl ?_)
  clear hf hS; intro b_1 cap_1 zs_1 a w hf hcap_1 hS
  refine step_l (st_rd hf (Wn.none rfl) (rd_len hf rfl rfl Try.underlying36) hS rfl rfl ?_)
  clear hf; intro a hf
  refine step_l (st_rd hf (Wn.none rfl) (rd_move hf rfl rfl) hS rfl rfl ?_)
  clear hf; intro a hf
  refine done_l ?_
  refine t_normal ?_
  refine c_block ?_
  refine c_loop (α := Nat) (fun k a w => Fits 20 a [(3, .int .i64 (bucketF (bs.take k) : Nat)), (7, .slice (some ⟨b_1, 0, none⟩) bs.length cap_1), (8, .int .i64 (bs.length : Nat)), (9, .int .i64 (k : Nat))] ∧ Sat W (Blk b_1 (bvs bs ++ zs_1) 5 :: R) w ∧ k ≤ bs.length) (fun k => bs.length - k) 0 ?_ ?_
  · exact ⟨((((hf.k0.kb hf 9 rfl (by first | rfl | exact int_eq (by omega))).kb hf 8 rfl (by first | rfl | exact int_eq (by omega))).kb hf 7 rfl (by first | rfl | exact int_eq (by omega))).kb hf 3 rfl (by rfl)), hS.sub (by repeat (first | exact Sub.refl | exact Sub.none | (apply Sub.cons; (focus ((repeat (first | exact Sel.head | apply Sel.tail)); done))) | apply Sub.skip)), Nat.zero_le _⟩
  · clear hf hS; rintro k a w ⟨hf, hS, hk⟩
    have hB := bucketF_lt (bs.take k)
    refine c_seq ?_
    refine c_region ?_
    refine step_l (st_rdB hf (Wn.none rfl) (rd_lss hf rfl rfl rfl) hS rfl rfl ?_ ?_)
    · clear hf; intro hc2 a hf
      obtain ⟨c, hget⟩ := get_of_lt (l := bs) (k := k) (by omega) rfl; have hcb := c.toNat_lt
      refine done_l ?_
      refine t_normal ?_
      refine c_seq ?_
      refine c_true hf rfl ?_
      refine c_skip ?_
      refine t_normal ?_
      refine c_seq ?_
      refine c_block ?_
      refine c_seq ?_
      refine c_region ?_
      refine step_l (st_rd hf (Wn.none rfl) ((by first | exact rd_indexAddrN1 hf rfl rfl rfl Try.underlying36 sz5 (by omega) | exact rd_indexAddr hf rfl rfl rfl Try.underlying36 sz5 (by first | decide | omega) (by omega))) hS rfl rfl ?_)
      clear hf; intro a hf
      refine step_l (st_rd hf (Wn.none rfl) (rd_load1 hf rfl rfl ag5 (by intro _ h; exact (h.slOfBlkPre (by repeat (first | exact Sel.head | apply Sel.tail)) (bvs_len1 _)).get (bvs_get hget))) hS rfl rfl ?_)
      clear hf; intro a hf
      refine step_l (st_rd hf (Wn.none rfl) (rd_assign hf rfl rfl) hS rfl rfl ?_)
      clear hf; intro a hf
      refine done_l ?_
      refine t_normal ?_
      refine c_region ?_
      refine step_l (st_rd hf (Wn.none rfl) (rd_move hf rfl rfl) hS rfl rfl ?_)
      clear hf; intro a hf
      refine step_l (st_rd hf (Wn.none rfl) (rd_move hf rfl rfl) hS rfl rfl ?_)
      clear hf; intro a hf
      refine step_l (st_rd hf (Wn.none rfl) (rd_convInt hf rfl rfl Try.underlying5 Try.underlying3 (n64_conv8 _)) hS rfl rfl ?_)
      clear hf; intro a hf
      refine step_l (st_rd hf (Wn.none rfl) (rd_add hf rfl rfl rfl (by first | exact Go.IntWalk.i64_in _ (by omega) | exact rfl)) hS rfl rfl ?_)
      clear hf; intro a hf
      refine step_l (st_rd hf (Wn.none rfl) (rd_rem hf rfl rfl rfl (by first | decide | omega) (Int.tmod_eq_emod_of_nonneg (by omega))) hS rfl rfl ?_)
      clear hf; intro a hf
      refine step_l (st_rd hf (Wn.none rfl) (rd_assign hf rfl rfl) hS rfl rfl ?_)
      clear hf; intro a hf
      refine done_l ?_
      refine b_normal ?_
      refine t_normal ?_
      refine c_region ?_
      refine step_l (st_rd hf (Wn.none rfl) (rd_add hf rfl rfl rfl (by first | exact Go.IntWalk.i64_in _ (by omega) | exact rfl)) hS rfl rfl ?_)
      clear hf; intro a hf
      refine step_l (st_rd hf (Wn.none rfl) (rd_move hf rfl rfl) hS rfl rfl ?_)
      clear hf; intro a hf
      refine done_l ?_
      refine t_normal ⟨k + 1, ⟨((((hf.k0.kb hf 9 rfl (by first | rfl | exact int_eq (by omega))).kb hf 8 rfl (by first | rfl | exact int_eq (by omega))).kb hf 7 rfl (by first | rfl | exact int_eq (by omega))).kb hf 3 rfl (by exact int_eq (by rw [take_succ_get hget, bucketF_snoc]; omega))), hS.sub (by repeat (first | exact Sub.refl | exact Sub.none | (apply Sub.cons; (focus ((repeat (first | exact Sel.head | apply Sel.tail)); done))) | apply Sub.skip)), by omega⟩, by first | omega | (simp only []; omega)⟩
    · clear hf; intro hc2 a hf
      refine done_l ?_
      refine t_normal ?_
      refine c_seq ?_
      refine c_false hf rfl ?_
      refine c_exit ?_
      refine t_exit ?_
      refine t_exit ?_
      refine b_exit ?_
      refine t_normal ?_
      refine c_seq ?_
      refine c_region ?_
      refine step_l (st_rd hf (Wn.none rfl) (rd_move hf rfl rfl) hS rfl rfl ?_)
      clear hf; intro a hf
      refine step_l (st_rd hf (Wn.none rfl) (rd_assign hf rfl rfl) hS rfl rfl ?_)
      clear hf; intro a hf
      refine done_l ?_
      refine t_normal ?_
      refine c_ret ?_
      refine e_res1 hf.defers rfl (res_tmp hf rfl .nil) ?_
      refine ⟨?_, hS.sub (by repeat (first | exact Sub.refl | exact Sub.none | (apply Sub.cons; (focus ((repeat (first | exact Sel.head | apply Sel.tail)); done))) | apply Sub.skip))⟩
      clear hf hS
      exact int_eq (by rw [List.take_of_length_le (by omega)])

theorem RBucket_c (bs : List UInt8) {W : World} {R : List HP} {w : World} (hb : bs.length ≤ 140737488351232) (hS : Sat W R w) : Calls Try.prog 26 [.string (str bs)].toArray w (Ret fun v w' => v = .int .i64 (bucketF bs : Nat) ∧ Sat W R w') := by
  refine fn_start 19 Try.func26 rfl rfl rfl ?_
  intro a hf
  refine c_seq ?_
  refine c_region ?_
  refine step_l (st_rd hf (Wn.none rfl) (rd_assign hf rfl rfl) hS rfl rfl ?_)
  clear hf; intro a hf
  refine done_l ?_
  refine t_normal ?_
  refine c_seq ?_
  refine c_region ?_
  refine step_l (st_rd hf (Wn.none rfl) (rd_assign hf rfl rfl) hS rfl rfl ?_)
  clear hf; intro a hf
  refine done_l ?_
  refine t_normal ?_
  refine c_seq ?_
  refine c_seq ?_
  refine c_region ?_
  refine step_l (st_rd hf (Wn.none rfl) (rd_move hf rfl rfl) hS rfl rfl ?_)
  clear hf; intro a hf
  refine step_l (st_rd hf (Wn.none rfl) (rd_lenS hf rfl rfl Try.underlying9) hS rfl rfl ?_)
  clear hf; intro a hf
  refine step_l (st_rd hf (Wn.none rfl) (rd_move hf rfl rfl) hS rfl rfl ?_)
  clear hf; intro a hf
  refine done_l ?_
  refine t_normal ?_
  refine c_block ?_
  refine c_loop (α := Nat) (fun k a w => Fits 19 a [(0, .string (str bs)), (3, .int .i64 (bucketF (bs.take k) : Nat)), (6, .int .i64 (bs.length : Nat)), (7, .int .i64 (k : Nat))] ∧ Sat W (R) w ∧ k ≤ bs.length) (fun k => bs.length - k) 0 ?_ ?_
  · exact ⟨((((hf.k0.kb hf 7 rfl (by first | rfl | exact int_eq (by omega))).kb hf 6 rfl (by first | rfl | exact int_eq (by omega))).kb hf 3 rfl (by rfl)).kb hf 0 rfl (by first | rfl | exact int_eq (by omega))), hS.sub (by repeat (first | exact Sub.refl | exact Sub.none | (apply Sub.cons; (focus ((repeat (first | exact Sel.head | apply Sel.tail)); done))) | apply Sub.skip)), Nat.zero_le _⟩
  · clear hf hS; rintro k a w ⟨hf, hS, hk⟩
    have hB := bucketF_lt (bs.take k)
    refine c_seq ?_
    refine c_region ?_
    refine step_l (st_rdB hf (Wn.none rfl) (rd_lss hf rfl rfl rfl) hS rfl rfl ?_ ?_)
    · clear hf; intro hc1 a hf
      obtain ⟨c, hget⟩ := get_of_lt (l := bs) (k := k) (by omega) rfl; have hcb := c.toNat_lt
      refine done_l ?_
      refine t_normal ?_
      refine c_seq ?_
      refine c_true hf rfl ?_
      refine c_skip ?_
      refine t_normal ?_
      refine c_seq ?_
      refine c_block ?_
      refine c_seq ?_
      refine c_region ?_
      refine step_l (st_rd hf (Wn.none rfl) (rd_move hf rfl rfl) hS rfl rfl ?_)
      clear hf; intro a hf
      refine step_l (st_rd hf (Wn.none rfl) (rd_assign hf rfl rfl) hS rfl rfl ?_)
      clear hf; intro a hf
      refine done_l ?_
      refine t_normal ?_
      refine c_region ?_
      refine step_l (st_rd hf (Wn.none rfl) (rd_move hf rfl rfl) hS rfl rfl ?_)
      clear hf; intro a hf
      refine step_l (st_rd hf (Wn.none rfl) (rd_move hf rfl rfl) hS rfl rfl ?_)
      clear hf; intro a hf
      refine step_l (st_rd hf (Wn.none rfl) (rd_move hf rfl rfl) hS rfl rfl ?_)
      clear hf; intro a hf
      refine step_l (st_rd hf (Wn.none rfl) (rd_indexS hf rfl rfl rfl Try.underlying9 (by omega) (by exact hget)) hS rfl rfl ?_)
      clear hf; intro a hf
      refine step_l (st_rd hf (Wn.none rfl) (rd_convInt hf rfl rfl Try.underlying5 Try.underlying3 (n64_conv8 _)) hS rfl rfl ?_)
      clear hf; intro a hf
      refine step_l (st_rd hf (Wn.none rfl) (rd_add hf rfl rfl rfl (by first | exact Go.IntWalk.i64_in _ (by omega) | exact rfl)) hS rfl rfl ?_)
      clear hf; intro a hf
      refine step_l (st_rd hf (Wn.none rfl) (rd_rem hf rfl rfl rfl (by first | decide | omega) (Int.tmod_eq_emod_of_nonneg (by omega))) hS rfl rfl ?_)
      clear hf; intro a hf
      refine step_l (st_rd hf (Wn.none rfl) (rd_assign hf rfl rfl) hS rfl rfl ?_)
      clear hf; intro a hf
      refine done_l ?_
      refine b_normal ?_
      refine t_normal ?_
      refine c_region ?_
      refine step_l (st_rd hf (Wn.none rfl) (rd_add hf rfl rfl rfl (by first | exact Go.IntWalk.i64_in _ (by omega) | exact rfl)) hS rfl rfl ?_)
      clear hf; intro a hf
      refine step_l (st_rd hf (Wn.none rfl) (rd_move hf rfl rfl) hS rfl rfl ?_)
      clear hf; intro a hf
      refine done_l ?_
      refine t_normal ⟨k + 1, ⟨((((hf.k0.kb hf 7 rfl (by first | rfl | exact int_eq (by omega))).kb hf 6 rfl (by first | rfl | exact int_eq (by omega))).kb hf 3 rfl (by exact int_eq (by rw [take_succ_get hget, bucketF_snoc]; omega))).kb hf 0 rfl (by first | rfl | exact int_eq (by omega))), hS.sub (by repeat (first | exact Sub.refl | exact Sub.none | (apply Sub.cons; (focus ((repeat (first | exact Sel.head | apply Sel.tail)); done))) | apply Sub.skip)), by omega⟩, by first | omega | (simp only []; omega)⟩
    · clear hf; intro hc1 a hf
      refine done_l ?_
      refine t_normal ?_
      refine c_seq ?_
      refine c_false hf rfl ?_
      refine c_exit ?_
      refine t_exit ?_
      refine t_exit ?_
      refine b_exit ?_
      refine t_normal ?_
      refine c_seq ?_
      refine c_region ?_
      refine step_l (st_rd hf (Wn.none rfl) (rd_move hf rfl rfl) hS rfl rfl ?_)
      clear hf; intro a hf
      refine step_l (st_rd hf (Wn.none rfl) (rd_assign hf rfl rfl) hS rfl rfl ?_)
      clear hf; intro a hf
      refine done_l ?_
      refine t_normal ?_
      refine c_ret ?_
      refine e_res1 hf.defers rfl (res_tmp hf rfl .nil) ?_
      refine ⟨?_, hS.sub (by repeat (first | exact Sub.refl | exact Sub.none | (apply Sub.cons; (focus ((repeat (first | exact Sel.head | apply Sel.tail)); done))) | apply Sub.skip))⟩
      clear hf hS
      exact int_eq (by rw [List.take_of_length_le (by omega)])

def mixStep (h : BitVec 32) (c : UInt8) : BitVec 32 := (h ^^^ c.toBitVec.setWidth 32) * 16777619#32
def mixL (bs : List UInt8) : BitVec 32 := bs.foldl mixStep 2166136261#32
def mixE (h : BitVec 32) : BitVec 32 := ((h ^^^ (h >>> 15)) * 2246822507#32) ^^^ (((h ^^^ (h >>> 15)) * 2246822507#32) >>> 13)
def mixF (bs : List UInt8) : BitVec 32 := mixE (mixL bs)
theorem mixL_snoc (bs : List UInt8) (c : UInt8) : mixL (bs ++ [c]) = mixStep (mixL bs) c := by simp [mixL]

theorem Mix_c (bs : List UInt8) (q : Option Addr) (cap : Nat) {W : World} {R : List HP} {w : World} (hb : bs.length ≤ 140737488351232) (hv : ∀ w, Sat W R w → SlAt w q bs.length 1 (bvs bs)) (hS : Sat W R w) : Calls Try.prog 42 [.slice q bs.length cap].toArray w (Ret fun v w' => v = .int .u32 ((mixF bs).toNat : Nat) ∧ Sat W R w') := by
  refine fn_start 27 Try.func42 rfl rfl rfl ?_
  intro a hf
  refine c_seq ?_
  refine c_region ?_
  refine step_l (st_rd hf (Wn.none rfl) (rd_assign hf rfl rfl) hS rfl rfl ?_)
  clear hf; intro a hf
  refine done_l ?_
  refine t_normal ?_
  refine c_seq ?_
  refine c_region ?_
  refine step_l (st_rd hf (Wn.none rfl) (rd_assign hf rfl rfl) hS rfl rfl ?_)
  clear hf; intro a hf
  refine done_l ?_
  refine t_normal ?_
  refine c_seq ?_
  refine c_seq ?_
  refine c_region ?_
  refine step_l (st_rd hf (Wn.none rfl) (rd_move hf rfl rfl) hS rfl rfl ?_)
  clear hf; intro a hf
  refine step_l (st_rd hf (Wn.none rfl) (rd_len hf rfl rfl Try.underlying36) hS rfl rfl ?_)
  clear hf; intro a hf
  refine step_l (st_rd hf (Wn.none rfl) (rd_move hf rfl rfl) hS rfl rfl ?_)
  clear hf; intro a hf
  refine done_l ?_
  refine t_normal ?_
  refine c_block ?_
  refine c_loop (α := Nat) (fun k a w => Fits 27 a [(3, .int .u32 ((mixL (bs.take k)).toNat : Nat)), (6, .slice q bs.length cap), (7, .int .i64 (bs.length : Nat)), (8, .int .i64 (k : Nat))] ∧ Sat W (R) w ∧ k ≤ bs.length) (fun k => bs.length - k) 0 ?_ ?_
  · exact ⟨((((hf.k0.kb hf 8 rfl (by first | rfl | exact int_eq (by omega))).kb hf 7 rfl (by first | rfl | exact int_eq (by omega))).kb hf 6 rfl (by first | rfl | exact int_eq (by omega))).kb hf 3 rfl (by rfl)), hS.sub (by repeat (first | exact Sub.refl | exact Sub.none | (apply Sub.cons; (focus ((repeat (first | exact Sel.head | apply Sel.tail)); done))) | apply Sub.skip)), Nat.zero_le _⟩
  · clear hf hS; rintro k a w ⟨hf, hS, hk⟩
    refine c_seq ?_
    refine c_region ?_
    refine step_l (st_rdB hf (Wn.none rfl) (rd_lss hf rfl rfl rfl) hS rfl rfl ?_ ?_)
    · clear hf; intro hc1 a hf
      obtain ⟨c, hget⟩ := get_of_lt (l := bs) (k := k) (by omega) rfl; have hcb := c.toNat_lt; obtain ⟨ad, rfl⟩ := (hv _ hS).some (by omega)
      refine done_l ?_
      refine t_normal ?_
      refine c_seq ?_
      refine c_true hf rfl ?_
      refine c_skip ?_
      refine t_normal ?_
      refine c_seq ?_
      refine c_block ?_
      refine c_seq ?_
      refine c_region ?_
      refine step_l (st_rd hf (Wn.none rfl) ((by first | exact rd_indexAddrN1 hf rfl rfl rfl Try.underlying36 sz5 (by omega) | exact rd_indexAddr hf rfl rfl rfl Try.underlying36 sz5 (by first | decide | omega) (by omega))) hS rfl rfl ?_)
      clear hf; intro a hf
      refine step_l (st_rd hf (Wn.none rfl) (rd_load1 hf rfl rfl ag5 (by intro _ h; exact (hv _ h).get (bvs_get hget))) hS rfl rfl ?_)
      clear hf; intro a hf
      refine step_l (st_rd hf (Wn.none rfl) (rd_assign hf rfl rfl) hS rfl rfl ?_)
      clear hf; intro a hf
      refine done_l ?_
      refine t_normal ?_
      refine c_region ?_
      refine step_l (st_rd hf (Wn.none rfl) (rd_move hf rfl rfl) hS rfl rfl ?_)
      clear hf; intro a hf
      refine step_l (st_rd hf (Wn.none rfl) (rd_move hf rfl rfl) hS rfl rfl ?_)
      clear hf; intro a hf
      refine step_l (st_rd hf (Wn.none rfl) (rd_convInt hf rfl rfl Try.underlying5 Try.underlying39 (n32_conv8 _)) hS rfl rfl ?_)
      clear hf; intro a hf
      refine step_l (st_rd hf (Wn.none rfl) (rd_xor hf rfl rfl rfl (n32_xor _ _)) hS rfl rfl ?_)
      clear hf; intro a hf
      refine step_l (st_rd hf (Wn.none rfl) (rd_mul hf rfl rfl rfl (n32_mul _ 16777619#32 (by decide))) hS rfl rfl ?_)
      clear hf; intro a hf
      refine step_l (st_rd hf (Wn.none rfl) (rd_assign hf rfl rfl) hS rfl rfl ?_)
      clear hf; intro a hf
      refine done_l ?_
      refine b_normal ?_
      refine t_normal ?_
      refine c_region ?_
      refine step_l (st_rd hf (Wn.none rfl) (rd_add hf rfl rfl rfl (by first | exact Go.IntWalk.i64_in _ (by omega) | exact rfl)) hS rfl rfl ?_)
      clear hf; intro a hf
      refine step_l (st_rd hf (Wn.none rfl) (rd_move hf rfl rfl) hS rfl rfl ?_)
      clear hf; intro a hf
      refine done_l ?_
      refine t_normal ⟨k + 1, ⟨((((hf.k0.kb hf 8 rfl (by first | rfl | exact int_eq (by omega))).kb hf 7 rfl (by first | rfl | exact int_eq (by omega))).kb hf 6 rfl (by first | rfl | exact int_eq (by omega))).kb hf 3 rfl (by exact int_eq (by rw [take_succ_get hget, mixL_snoc]; rfl))), hS.sub (by repeat (first | exact Sub.refl | exact Sub.none | (apply Sub.cons; (focus ((repeat (first | exact Sel.head | apply Sel.tail)); done))) | apply Sub.skip)), by omega⟩, by first | omega | (simp only []; omega)⟩
    · clear hf; intro hc1 a hf
      refine done_l ?_
      refine t_normal ?_
      refine c_seq ?_
      refine c_false hf rfl ?_
      refine c_exit ?_
      refine t_exit ?_
      refine t_exit ?_
      refine b_exit ?_
      refine t_normal ?_
      refine c_seq ?_
      refine c_region ?_
      refine step_l (st_rd hf (Wn.none rfl) (rd_move hf rfl rfl) hS rfl rfl ?_)
      clear hf; intro a hf
      refine step_l (st_rd hf (Wn.none rfl) (rd_move hf rfl rfl) hS rfl rfl ?_)
      clear hf; intro a hf
      refine step_l (st_rd hf (Wn.none rfl) (rd_shr hf rfl rfl rfl (by first | decide | omega) (n32_shr _ 15 (by decide) (by decide))) hS rfl rfl ?_)
      clear hf; intro a hf
      refine step_l (st_rd hf (Wn.none rfl) (rd_xor hf rfl rfl rfl (n32_xor _ _)) hS rfl rfl ?_)
      clear hf; intro a hf
      refine step_l (st_rd hf (Wn.none rfl) (rd_mul hf rfl rfl rfl (n32_mul _ 2246822507#32 (by decide))) hS rfl rfl ?_)
      clear hf; intro a hf
      refine step_l (st_rd hf (Wn.none rfl) (rd_assign hf rfl rfl) hS rfl rfl ?_)
      clear hf; intro a hf
      refine done_l ?_
      refine t_normal ?_
      refine c_seq ?_
      refine c_region ?_
      refine step_l (st_rd hf (Wn.none rfl) (rd_move hf rfl rfl) hS rfl rfl ?_)
      clear hf; intro a hf
      refine step_l (st_rd hf (Wn.none rfl) (rd_move hf rfl rfl) hS rfl rfl ?_)
      clear hf; intro a hf
      refine step_l (st_rd hf (Wn.none rfl) (rd_shr hf rfl rfl rfl (by first | decide | omega) (n32_shr _ 13 (by decide) (by decide))) hS rfl rfl ?_)
      clear hf; intro a hf
      refine step_l (st_rd hf (Wn.none rfl) (rd_xor hf rfl rfl rfl (n32_xor _ _)) hS rfl rfl ?_)
      clear hf; intro a hf
      refine step_l (st_rd hf (Wn.none rfl) (rd_assign hf rfl rfl) hS rfl rfl ?_)
      clear hf; intro a hf
      refine done_l ?_
      refine t_normal ?_
      refine c_ret ?_
      refine e_res1 hf.defers rfl (res_tmp hf rfl .nil) ?_
      refine ⟨?_, hS.sub (by repeat (first | exact Sub.refl | exact Sub.none | (apply Sub.cons; (focus ((repeat (first | exact Sel.head | apply Sel.tail)); done))) | apply Sub.skip))⟩
      clear hf hS
      exact int_eq (by rw [List.take_of_length_le (by omega)]; rfl)

theorem RMix_c (bs : List UInt8) (q : Option Addr) (cap : Nat) {W : World} {R : List HP} {w : World} (hb : bs.length ≤ 140737488351232) (hv : ∀ w, Sat W R w → SlAt w q bs.length 1 (bvs bs)) (hS : Sat W R w) : Calls Try.prog 28 [.slice q bs.length cap].toArray w (Ret fun v w' => v = .int .u32 ((mixF bs).toNat : Nat) ∧ Sat W R w') := by
  refine fn_start 28 Try.func28 rfl rfl rfl ?_
  intro a hf
  refine c_seq ?_
  refine c_region ?_
  refine step_l (st_rd hf (Wn.none rfl) (rd_assign hf rfl rfl) hS rfl rfl ?_)
  clear hf; intro a hf
  refine done_l ?_
  refine t_normal ?_
  refine c_seq ?_
  refine c_region ?_
  refine step_l (st_rd hf (Wn.none rfl) (rd_assign hf rfl rfl) hS rfl rfl ?_)
  clear hf; intro a hf
  refine done_l ?_
  refine t_normal ?_
  refine c_seq ?_
  refine c_seq ?_
  refine c_region ?_
  refine step_l (st_rd hf (Wn.none rfl) (rd_move hf rfl rfl) hS rfl rfl ?_)
  clear hf; intro a hf
  refine step_l (st_rd hf (Wn.none rfl) (rd_len hf rfl rfl Try.underlying36) hS rfl rfl ?_)
  clear hf; intro a hf
  refine step_l (st_rd hf (Wn.none rfl) (rd_move hf rfl rfl) hS rfl rfl ?_)
  clear hf; intro a hf
  refine done_l ?_
  refine t_normal ?_
  refine c_block ?_
  refine c_loop (α := Nat) (fun k a w => Fits 28 a [(3, .int .u32 ((mixL (bs.take k)).toNat : Nat)), (6, .slice q bs.length cap), (7, .int .i64 (bs.length : Nat)), (8, .int .i64 (k : Nat))] ∧ Sat W (R) w ∧ k ≤ bs.length) (fun k => bs.length - k) 0 ?_ ?_
  · exact ⟨((((hf.k0.kb hf 8 rfl (by first | rfl | exact int_eq (by omega))).kb hf 7 rfl (by first | rfl | exact int_eq (by omega))).kb hf 6 rfl (by first | rfl | exact int_eq (by omega))).kb hf 3 rfl (by rfl)), hS.sub (by repeat (first | exact Sub.refl | exact Sub.none | (apply Sub.cons; (focus ((repeat (first | exact Sel.head | apply Sel.tail)); done))) | apply Sub.skip)), Nat.zero_le _⟩
  · clear hf hS; rintro k a w ⟨hf, hS, hk⟩
    refine c_seq ?_
    refine c_region ?_
    refine step_l (st_rdB hf (Wn.none rfl) (rd_lss hf rfl rfl rfl) hS rfl rfl ?_ ?_)
    · clear hf; intro hc1 a hf
      obtain ⟨c, hget⟩ := get_of_lt (l := bs) (k := k) (by omega) rfl; have hcb := c.toNat_lt; obtain ⟨ad, rfl⟩ := (hv _ hS).some (by omega)
      refine done_l ?_
      refine t_normal ?_
      refine c_seq ?_
      refine c_true hf rfl ?_
      refine c_skip ?_
      refine t_normal ?_
      refine c_seq ?_
      refine c_block ?_
      refine c_seq ?_
      refine c_region ?_
      refine step_l (st_rd hf (Wn.none rfl) ((by first | exact rd_indexAddrN1 hf rfl rfl rfl Try.underlying36 sz5 (by omega) | exact rd_indexAddr hf rfl rfl rfl Try.underlying36 sz5 (by first | decide | omega) (by omega))) hS rfl rfl ?_)
      clear hf; intro a hf
      refine step_l (st_rd hf (Wn.none rfl) (rd_load1 hf rfl rfl ag5 (by intro _ h; exact (hv _ h).get (bvs_get hget))) hS rfl rfl ?_)
      clear hf; intro a hf
      refine step_l (st_rd hf (Wn.none rfl) (rd_assign hf rfl rfl) hS rfl rfl ?_)
      clear hf; intro a hf
      refine done_l ?_
      refine t_normal ?_
      refine c_region ?_
      refine step_l (st_rd hf (Wn.none rfl) (rd_move hf rfl rfl) hS rfl rfl ?_)
      clear hf; intro a hf
      refine step_l (st_rd hf (Wn.none rfl) (rd_move hf rfl rfl) hS rfl rfl ?_)
      clear hf; intro a hf
      refine step_l (st_rd hf (Wn.none rfl) (rd_convInt hf rfl rfl Try.underlying5 Try.underlying39 (n32_conv8 _)) hS rfl rfl ?_)
      clear hf; intro a hf
      refine step_l (st_rd hf (Wn.none rfl) (rd_xor hf rfl rfl rfl (n32_xor _ _)) hS rfl rfl ?_)
      clear hf; intro a hf
      refine step_l (st_rd hf (Wn.none rfl) (rd_mul hf rfl rfl rfl (n32_mul _ 16777619#32 (by decide))) hS rfl rfl ?_)
      clear hf; intro a hf
      refine step_l (st_rd hf (Wn.none rfl) (rd_assign hf rfl rfl) hS rfl rfl ?_)
      clear hf; intro a hf
      refine done_l ?_
      refine b_normal ?_
      refine t_normal ?_
      refine c_region ?_
      refine step_l (st_rd hf (Wn.none rfl) (rd_add hf rfl rfl rfl (by first | exact Go.IntWalk.i64_in _ (by omega) | exact rfl)) hS rfl rfl ?_)
      clear hf; intro a hf
      refine step_l (st_rd hf (Wn.none rfl) (rd_move hf rfl rfl) hS rfl rfl ?_)
      clear hf; intro a hf
      refine done_l ?_
      refine t_normal ⟨k + 1, ⟨((((hf.k0.kb hf 8 rfl (by first | rfl | exact int_eq (by omega))).kb hf 7 rfl (by first | rfl | exact int_eq (by omega))).kb hf 6 rfl (by first | rfl | exact int_eq (by omega))).kb hf 3 rfl (by exact int_eq (by rw [take_succ_get hget, mixL_snoc]; rfl))), hS.sub (by repeat (first | exact Sub.refl | exact Sub.none | (apply Sub.cons; (focus ((repeat (first | exact Sel.head | apply Sel.tail)); done))) | apply Sub.skip)), by omega⟩, by first | omega | (simp only []; omega)⟩
    · clear hf; intro hc1 a hf
      refine done_l ?_
      refine t_normal ?_
      refine c_seq ?_
      refine c_false hf rfl ?_
      refine c_exit ?_
      refine t_exit ?_
      refine t_exit ?_
      refine b_exit ?_
      refine t_normal ?_
      refine c_seq ?_
      refine c_region ?_
      refine step_l (st_rd hf (Wn.none rfl) (rd_move hf rfl rfl) hS rfl rfl ?_)
      clear hf; intro a hf
      refine step_l (st_rd hf (Wn.none rfl) (rd_move hf rfl rfl) hS rfl rfl ?_)
      clear hf; intro a hf
      refine step_l (st_rd hf (Wn.none rfl) (rd_shr hf rfl rfl rfl (by first | decide | omega) (n32_shr _ 15 (by decide) (by decide))) hS rfl rfl ?_)
      clear hf; intro a hf
      refine step_l (st_rd hf (Wn.none rfl) (rd_xor hf rfl rfl rfl (n32_xor _ _)) hS rfl rfl ?_)
      clear hf; intro a hf
      refine step_l (st_rd hf (Wn.none rfl) (rd_assign hf rfl rfl) hS rfl rfl ?_)
      clear hf; intro a hf
      refine done_l ?_
      refine t_normal ?_
      refine c_seq ?_
      refine c_region ?_
      refine step_l (st_rd hf (Wn.none rfl) (rd_move hf rfl rfl) hS rfl rfl ?_)
      clear hf; intro a hf
      refine step_l (st_rd hf (Wn.none rfl) (rd_mul hf rfl rfl rfl (n32_mul _ 2246822507#32 (by decide))) hS rfl rfl ?_)
      clear hf; intro a hf
      refine step_l (st_rd hf (Wn.none rfl) (rd_assign hf rfl rfl) hS rfl rfl ?_)
      clear hf; intro a hf
      refine done_l ?_
      refine t_normal ?_
      refine c_seq ?_
      refine c_region ?_
      refine step_l (st_rd hf (Wn.none rfl) (rd_move hf rfl rfl) hS rfl rfl ?_)
      clear hf; intro a hf
      refine step_l (st_rd hf (Wn.none rfl) (rd_move hf rfl rfl) hS rfl rfl ?_)
      clear hf; intro a hf
      refine step_l (st_rd hf (Wn.none rfl) (rd_shr hf rfl rfl rfl (by first | decide | omega) (n32_shr _ 13 (by decide) (by decide))) hS rfl rfl ?_)
      clear hf; intro a hf
      refine step_l (st_rd hf (Wn.none rfl) (rd_xor hf rfl rfl rfl (n32_xor _ _)) hS rfl rfl ?_)
      clear hf; intro a hf
      refine step_l (st_rd hf (Wn.none rfl) (rd_assign hf rfl rfl) hS rfl rfl ?_)
      clear hf; intro a hf
      refine done_l ?_
      refine t_normal ?_
      refine c_ret ?_
      refine e_res1 hf.defers rfl (res_tmp hf rfl .nil) ?_
      refine ⟨?_, hS.sub (by repeat (first | exact Sub.refl | exact Sub.none | (apply Sub.cons; (focus ((repeat (first | exact Sel.head | apply Sel.tail)); done))) | apply Sub.skip))⟩
      clear hf hS
      exact int_eq (by rw [List.take_of_length_le (by omega)]; rfl)

theorem Place_c (bs : List UInt8) {W : World} {R : List HP} {w : World} (hb : bs.length ≤ 140737488351232) (hS : Sat W R w) : Calls Try.prog 27 [.string (str bs)].toArray w (Ret fun v w' => v = .int .u32 ((mixF bs).toNat : Nat) ∧ Sat W R w') := by
  refine fn_start 6 Try.func27 rfl rfl rfl ?_
  intro a hf
  refine c_seq ?_
  refine c_region ?_
  refine step_l (st_rd hf (Wn.none rfl) (rd_assign hf rfl rfl) hS rfl rfl ?_)
  clear hf; intro a hf
  refine done_l ?_
  refine t_normal ?_
  refine c_seq ?_
  refine c_region ?_
  refine step_l (st_rd hf (Wn.none rfl) (rd_move hf rfl rfl) hS rfl rfl ?_)
  clear hf; intro a hf
  refine step_l (st_bytes hf (Wn.none rfl) hS rfl rfl Try.underlying9 Try.underlying36 Try.underlying5 rfl rfl ?_)
  clear hf hS; intro b_1 cap_1 zs_1 a w hf hcap_1 hS
  refine step_l (st_call hf (Wn.none rfl) rfl rfl rfl fn42 (Mix_c bs _ _ (by omega) (fun _ h => h.slOfBlkPre (by repeat (first | exact Sel.head | apply Sel.tail)) (bvs_len1 _)) hS) rfl rfl ?_)
  clear hf hS; rintro v a w ⟨rfl, hS⟩ hf
  refine step_l (st_rd hf (Wn.none rfl) (rd_assign hf rfl rfl) hS rfl rfl ?_)
  clear hf; intro a hf
  refine done_l ?_
  refine t_normal ?_
  refine c_ret ?_
  refine e_res1 hf.defers rfl (res_tmp hf rfl .nil) ?_
  refine ⟨?_, hS.sub (by repeat (first | exact Sub.refl | exact Sub.none | (apply Sub.cons; (focus ((repeat (first | exact Sel.head | apply Sel.tail)); done))) | apply Sub.skip))⟩
  clear hf hS
  rfl

def byteI (n : Int) : UInt8 := UInt8.ofNat (n % 256).toNat
def pointL (a k : Int) : List UInt8 := [110, byteI a, 112, byteI k]

theorem Point_c (x y : Int) {W : World} {R : List HP} {w : World}  (hS : Sat W R w) : Calls Try.prog 29 [.int .i64 x, .int .i64 y].toArray w (Ret fun v w' => v = .int .u32 ((mixF (pointL x y)).toNat : Nat) ∧ Sat W R w') := by
  refine fn_start 13 Try.func29 rfl rfl rfl ?_
  intro a hf
  refine c_seq ?_
  refine c_region ?_
  refine step_l (st_rd hf (Wn.none rfl) (rd_assign hf rfl rfl) hS rfl rfl ?_)
  clear hf; intro a hf
  refine done_l ?_
  refine t_normal ?_
  refine c_seq ?_
  refine c_region ?_
  refine step_l (st_rd hf (Wn.none rfl) (rd_move hf rfl rfl) hS rfl rfl ?_)
  clear hf; intro a hf
  refine step_l (st_rd hf (Wn.none rfl) (rd_convInt hf rfl rfl Try.underlying3 Try.underlying5 (n8_wrapI _)) hS rfl rfl ?_)
  clear hf; intro a hf
  refine step_l (st_rd hf (Wn.none rfl) (rd_move hf rfl rfl) hS rfl rfl ?_)
  clear hf; intro a hf
  refine step_l (st_rd hf (Wn.none rfl) (rd_convInt hf rfl rfl Try.underlying3 Try.underlying5 (n8_wrapI _)) hS rfl rfl ?_)
  clear hf; intro a hf
  refine step_l (st_rd hf (Wn.none rfl) (rd_build hf rfl rfl zr60 (by rfl) pl60 (.cons rfl (by rfl) (by rfl) (by repeat (first | exact Put.nil | apply Put.cons | apply Put.succ)) (.cons rfl (by rfl) (by rfl) (by repeat (first | exact Put.nil | apply Put.cons | apply Put.succ)) (.cons rfl (by rfl) (by rfl) (by repeat (first | exact Put.nil | apply Put.cons | apply Put.succ)) (.cons rfl (by rfl) (by rfl) (by repeat (first | exact Put.nil | apply Put.cons | apply Put.succ)) .nil))))) hS rfl rfl ?_)
  clear hf; intro a hf
  refine step_l (st_alloc hf (Wn.none rfl) hS rfl zr60 (by rfl) rfl rfl ?_)
  clear hf hS; intro b_1 a w hf hS
  refine step_l (st_store hf (Wn.none rfl) hS rfl rfl rfl (by rfl) sz60 (by rfl) (by rfl) (by repeat (first | exact Sel.head | apply Sel.tail)) (by repeat (first | exact Put.nil | apply Put.cons | apply Put.succ)) rfl ?_)
  clear hf hS; intro a w hf hS
  refine done_l ?_
  refine t_normal ?_
  refine c_seq ?_
  refine c_region ?_
  refine step_l (st_rd hf (Wn.none rfl) (rd_sliceArr' hf rfl rfl Try.underlying60 sz5) hS rfl rfl ?_)
  clear hf; intro a hf
  refine step_l (st_call hf (Wn.none rfl) rfl rfl rfl fn42 (Mix_c (pointL x y) _ _ (by simp [pointL]) (fun _ h => (h.slOfBlk (by repeat (first | exact Sel.head | apply Sel.tail)) (by rfl) : SlAt _ _ 4 1 (bvs (pointL x y)))) hS) rfl rfl ?_)
  clear hf hS; rintro v a w ⟨rfl, hS⟩ hf
  refine step_l (st_rd hf (Wn.none rfl) (rd_assign hf rfl rfl) hS rfl rfl ?_)
  clear hf; intro a hf
  refine done_l ?_
  refine t_normal ?_
  refine c_ret ?_
  refine e_res1 hf.defers rfl (res_tmp hf rfl .nil) ?_
  refine ⟨?_, hS.sub (by repeat (first | exact Sub.refl | exact Sub.none | (apply Sub.cons; (focus ((repeat (first | exact Sel.head | apply Sel.tail)); done))) | apply Sub.skip))⟩
  clear hf hS
  rfl

theorem RPoint_c (x y : Int) {W : World} {R : List HP} {w : World}  (hS : Sat W R w) : Calls Try.prog 30 [.int .i64 x, .int .i64 y].toArray w (Ret fun v w' => v = .int .u32 ((mixF (pointL x y)).toNat : Nat) ∧ Sat W R w') := by
  refine fn_start 11 Try.func30 rfl rfl rfl ?_
  intro a hf
  refine c_seq ?_
  refine c_region ?_
  refine step_l (st_rd hf (Wn.none rfl) (rd_assign hf rfl rfl) hS rfl rfl ?_)
  clear hf; intro a hf
  refine done_l ?_
  refine t_normal ?_
  refine c_seq ?_
  refine c_region ?_
  refine step_l (st_rd hf (Wn.none rfl) (rd_move hf rfl rfl) hS rfl rfl ?_)
  clear hf; intro a hf
  refine step_l (st_rd hf (Wn.none rfl) (rd_convInt hf rfl rfl Try.underlying3 Try.underlying5 (n8_wrapI _)) hS rfl rfl ?_)
  clear hf; intro a hf
  refine step_l (st_rd hf (Wn.none rfl) (rd_move hf rfl rfl) hS rfl rfl ?_)
  clear hf; intro a hf
  refine step_l (st_rd hf (Wn.none rfl) (rd_convInt hf rfl rfl Try.underlying3 Try.underlying5 (n8_wrapI _)) hS rfl rfl ?_)
  clear hf; intro a hf
  refine step_l (st_buildSlice hf (Wn.none rfl) hS rfl rfl Try.underlying36 sz5 zr5 (by decide) bz5_4 rfl (.cons rfl (by rfl) (by rfl) (by repeat (first | exact Put.nil | apply Put.cons | apply Put.succ)) (.cons rfl (by rfl) (by rfl) (by repeat (first | exact Put.nil | apply Put.cons | apply Put.succ)) (.cons rfl (by rfl) (by rfl) (by repeat (first | exact Put.nil | apply Put.cons | apply Put.succ)) (.cons rfl (by rfl) (by rfl) (by repeat (first | exact Put.nil | apply Put.cons | apply Put.succ)) .nil)))) rfl rfl ?_)
  clear hf hS; intro b_1 a w hf hS
  refine step_l (st_call hf (Wn.none rfl) rfl rfl rfl fn28 (RMix_c (pointL x y) _ _ (by simp [pointL]) (fun _ h => (h.slOfBlk (by repeat (first | exact Sel.head | apply Sel.tail)) (by rfl) : SlAt _ _ 4 1 (bvs (pointL x y)))) hS) rfl rfl ?_)
  clear hf hS; rintro v a w ⟨rfl, hS⟩ hf
  refine step_l (st_rd hf (Wn.none rfl) (rd_assign hf rfl rfl) hS rfl rfl ?_)
  clear hf; intro a hf
  refine done_l ?_
  refine t_normal ?_
  refine c_ret ?_
  refine e_res1 hf.defers rfl (res_tmp hf rfl .nil) ?_
  refine ⟨?_, hS.sub (by repeat (first | exact Sub.refl | exact Sub.none | (apply Sub.cons; (focus ((repeat (first | exact Sel.head | apply Sel.tail)); done))) | apply Sub.skip))⟩
  clear hf hS
  rfl

def digF (c : UInt8) : Int := if 48 ≤ c.toNat ∧ c.toNat ≤ 57 then (c.toNat : Int) - 48 else if 97 ≤ c.toNat ∧ c.toNat ≤ 102 then (c.toNat : Int) - 87 else -1
theorem n8_sub (p : Int) (h : 0 ≤ p ∧ p ≤ 255) : IntKind.u8.wrap p = p := Go.IntWalk.u8_in _ h

theorem digit_c (c : UInt8) {W : World} {R : List HP} {w : World}  (hS : Sat W R w) : Calls Try.prog 44 [.int .u8 (c.toNat : Nat)].toArray w (Ret fun v w' => v = .int .i64 (digF c) ∧ Sat W R w') := by
  refine fn_start 24 Try.func44 rfl rfl rfl ?_
  intro a hf
  have hcb := c.toNat_lt
  refine c_seq ?_
  refine c_region ?_
  refine step_l (st_rd hf (Wn.none rfl) (rd_assign hf rfl rfl) hS rfl rfl ?_)
  clear hf; intro a hf
  refine done_l ?_
  refine t_normal ?_
  refine c_seq ?_
  refine c_block ?_
  refine c_seq ?_
  refine c_region ?_
  refine step_l (st_rd hf (Wn.none rfl) (rd_move hf rfl rfl) hS rfl rfl ?_)
  clear hf; intro a hf
  refine step_l (st_rdB hf (Wn.none rfl) (rd_geq hf rfl rfl rfl) hS rfl rfl ?_ ?_)
  · clear hf; intro hc1 a hf
    refine step_l (st_rd hf (Wn.none rfl) (rd_move hf rfl rfl) hS rfl rfl ?_)
    clear hf; intro a hf
    refine step_l (st_rd hf (Wn.some hf rfl rfl rfl rfl) (rd_move hf rfl rfl) hS rfl rfl ?_)
    clear hf; intro a hf
    refine step_l (st_rdB hf (Wn.some hf rfl rfl rfl rfl) (rd_leq hf rfl rfl rfl) hS rfl rfl ?_ ?_)
    · clear hf; intro hc2 a hf
      refine step_l (st_rd hf (Wn.none rfl) (rd_pick_t hf rfl rfl rfl) hS rfl rfl ?_)
      clear hf; intro a hf
      refine step_l (st_rd hf (Wn.none rfl) (rd_assign hf rfl rfl) hS rfl rfl ?_)
      clear hf; intro a hf
      refine done_l ?_
      refine t_normal ?_
      refine c_true hf rfl ?_
      refine c_seq ?_
      refine c_region ?_
      refine step_l (st_rd hf (Wn.none rfl) (rd_move hf rfl rfl) hS rfl rfl ?_)
      clear hf; intro a hf
      refine step_l (st_rd hf (Wn.none rfl) (rd_sub hf rfl rfl rfl (by first | exact Go.IntWalk.u8_in _ (by omega) | exact rfl)) hS rfl rfl ?_)
      clear hf; intro a hf
      refine step_l (st_rd hf (Wn.none rfl) (rd_convInt hf rfl rfl Try.underlying5 Try.underlying3 (Go.IntWalk.i64_in _ (by omega))) hS rfl rfl ?_)
      clear hf; intro a hf
      refine step_l (st_rd hf (Wn.none rfl) (rd_assign hf rfl rfl) hS rfl rfl ?_)
      clear hf; intro a hf
      refine done_l ?_
      refine t_normal ?_
      refine c_ret ?_
      refine b_ret ?_
      refine t_ret ?_
      refine e_res1 hf.defers rfl (res_tmp hf rfl .nil) ?_
      refine ⟨?_, hS.sub (by repeat (first | exact Sub.refl | exact Sub.none | (apply Sub.cons; (focus ((repeat (first | exact Sel.head | apply Sel.tail)); done))) | apply Sub.skip))⟩
      clear hf hS
      exact int_eq (by unfold digF; omega)
    · clear hf; intro hc2 a hf
      refine step_l (st_rd hf (Wn.none rfl) (rd_pick_t hf rfl rfl rfl) hS rfl rfl ?_)
      clear hf; intro a hf
      refine step_l (st_rd hf (Wn.none rfl) (rd_assign hf rfl rfl) hS rfl rfl ?_)
      clear hf; intro a hf
      refine done_l ?_
      refine t_normal ?_
      refine c_false hf rfl ?_
      refine c_seq ?_
      refine c_region ?_
      refine step_l (st_rd hf (Wn.none rfl) (rd_move hf rfl rfl) hS rfl rfl ?_)
      clear hf; intro a hf
      refine step_l (st_rdB hf (Wn.none rfl) (rd_geq hf rfl rfl rfl) hS rfl rfl ?_ ?_)
      · clear hf; intro hc3 a hf
        refine step_l (st_rd hf (Wn.none rfl) (rd_move hf rfl rfl) hS rfl rfl ?_)
        clear hf; intro a hf
        refine step_l (st_rd hf (Wn.some hf rfl rfl rfl rfl) (rd_move hf rfl rfl) hS rfl rfl ?_)
        clear hf; intro a hf
        refine step_l (st_rdB hf (Wn.some hf rfl rfl rfl rfl) (rd_leq hf rfl rfl rfl) hS rfl rfl ?_ ?_)
        · clear hf; intro hc4 a hf
          refine step_l (st_rd hf (Wn.none rfl) (rd_pick_t hf rfl rfl rfl) hS rfl rfl ?_)
          clear hf; intro a hf
          refine step_l (st_rd hf (Wn.none rfl) (rd_assign hf rfl rfl) hS rfl rfl ?_)
          clear hf; intro a hf
          refine done_l ?_
          refine t_normal ?_
          refine c_true hf rfl ?_
          refine c_seq ?_
          refine c_region ?_
          refine step_l (st_rd hf (Wn.none rfl) (rd_move hf rfl rfl) hS rfl rfl ?_)
          clear hf; intro a hf
          refine step_l (st_rd hf (Wn.none rfl) (rd_sub hf rfl rfl rfl (by first | exact Go.IntWalk.u8_in _ (by omega) | exact rfl)) hS rfl rfl ?_)
          clear hf; intro a hf
          refine step_l (st_rd hf (Wn.none rfl) (rd_convInt hf rfl rfl Try.underlying5 Try.underlying3 (Go.IntWalk.i64_in _ (by omega))) hS rfl rfl ?_)
          clear hf; intro a hf
          refine step_l (st_rd hf (Wn.none rfl) (rd_add hf rfl rfl rfl (by first | exact Go.IntWalk.i64_in _ (by omega) | exact rfl)) hS rfl rfl ?_)
          clear hf; intro a hf
          refine step_l (st_rd hf (Wn.none rfl) (rd_assign hf rfl rfl) hS rfl rfl ?_)
          clear hf; intro a hf
          refine done_l ?_
          refine t_normal ?_
          refine c_ret ?_
          refine b_ret ?_
          refine t_ret ?_
          refine e_res1 hf.defers rfl (res_tmp hf rfl .nil) ?_
          refine ⟨?_, hS.sub (by repeat (first | exact Sub.refl | exact Sub.none | (apply Sub.cons; (focus ((repeat (first | exact Sel.head | apply Sel.tail)); done))) | apply Sub.skip))⟩
          clear hf hS
          exact int_eq (by unfold digF; omega)
        · clear hf; intro hc4 a hf
          refine step_l (st_rd hf (Wn.none rfl) (rd_pick_t hf rfl rfl rfl) hS rfl rfl ?_)
          clear hf; intro a hf
          refine step_l (st_rd hf (Wn.none rfl) (rd_assign hf rfl rfl) hS rfl rfl ?_)
          clear hf; intro a hf
          refine done_l ?_
          refine t_normal ?_
          refine c_false hf rfl ?_
          refine c_skip ?_
          refine b_normal ?_
          refine t_normal ?_
          refine c_seq ?_
          refine c_region ?_
          refine step_l (st_rd hf (Wn.none rfl) (rd_assign hf rfl rfl) hS rfl rfl ?_)
          clear hf; intro a hf
          refine done_l ?_
          refine t_normal ?_
          refine c_ret ?_
          refine e_res1 hf.defers rfl (res_tmp hf rfl .nil) ?_
          refine ⟨?_, hS.sub (by repeat (first | exact Sub.refl | exact Sub.none | (apply Sub.cons; (focus ((repeat (first | exact Sel.head | apply Sel.tail)); done))) | apply Sub.skip))⟩
          clear hf hS
          exact int_eq (by unfold digF; omega)
      · clear hf; intro hc3 a hf
        refine step_l (st_rd hf (Wn.none rfl) (rd_move hf rfl rfl) hS rfl rfl ?_)
        clear hf; intro a hf
        refine step_l (st_skip hf (Wn.some hf rfl rfl rfl rfl) rfl rfl ?_)
        clear hf; intro a hf
        refine step_l (st_skip hf (Wn.some hf rfl rfl rfl rfl) rfl rfl ?_)
        clear hf; intro a hf
        refine step_l (st_rd hf (Wn.none rfl) (rd_pick_f hf rfl rfl rfl) hS rfl rfl ?_)
        clear hf; intro a hf
        refine step_l (st_rd hf (Wn.none rfl) (rd_assign hf rfl rfl) hS rfl rfl ?_)
        clear hf; intro a hf
        refine done_l ?_
        refine t_normal ?_
        refine c_false hf rfl ?_
        refine c_skip ?_
        refine b_normal ?_
        refine t_normal ?_
        refine c_seq ?_
        refine c_region ?_
        refine step_l (st_rd hf (Wn.none rfl) (rd_assign hf rfl rfl) hS rfl rfl ?_)
        clear hf; intro a hf
        refine done_l ?_
        refine t_normal ?_
        refine c_ret ?_
        refine e_res1 hf.defers rfl (res_tmp hf rfl .nil) ?_
        refine ⟨?_, hS.sub (by repeat (first | exact Sub.refl | exact Sub.none | (apply Sub.cons; (focus ((repeat (first | exact Sel.head | apply Sel.tail)); done))) | apply Sub.skip))⟩
        clear hf hS
        exact int_eq (by unfold digF; omega)
  · clear hf; intro hc1 a hf
    refine step_l (st_rd hf (Wn.none rfl) (rd_move hf rfl rfl) hS rfl rfl ?_)
    clear hf; intro a hf
    refine step_l (st_skip hf (Wn.some hf rfl rfl rfl rfl) rfl rfl ?_)
    clear hf; intro a hf
    refine step_l (st_skip hf (Wn.some hf rfl rfl rfl rfl) rfl rfl ?_)
    clear hf; intro a hf
    refine step_l (st_rd hf (Wn.none rfl) (rd_pick_f hf rfl rfl rfl) hS rfl rfl ?_)
    clear hf; intro a hf
    refine step_l (st_rd hf (Wn.none rfl) (rd_assign hf rfl rfl) hS rfl rfl ?_)
    clear hf; intro a hf
    refine done_l ?_
    refine t_normal ?_
    refine c_false hf rfl ?_
    refine c_seq ?_
    refine c_region ?_
    refine step_l (st_rd hf (Wn.none rfl) (rd_move hf rfl rfl) hS rfl rfl ?_)
    clear hf; intro a hf
    refine step_l (st_rdB hf (Wn.none rfl) (rd_geq hf rfl rfl rfl) hS rfl rfl ?_ ?_)
    · clear hf; intro hc5 a hf
      refine step_l (st_rd hf (Wn.none rfl) (rd_move hf rfl rfl) hS rfl rfl ?_)
      clear hf; intro a hf
      refine step_l (st_rd hf (Wn.some hf rfl rfl rfl rfl) (rd_move hf rfl rfl) hS rfl rfl ?_)
      clear hf; intro a hf
      refine step_l (st_rdB hf (Wn.some hf rfl rfl rfl rfl) (rd_leq hf rfl rfl rfl) hS rfl rfl ?_ ?_)
      · clear hf; intro hc6 a hf
        refine step_l (st_rd hf (Wn.none rfl) (rd_pick_t hf rfl rfl rfl) hS rfl rfl ?_)
        clear hf; intro a hf
        refine step_l (st_rd hf (Wn.none rfl) (rd_assign hf rfl rfl) hS rfl rfl ?_)
        clear hf; intro a hf
        refine done_l ?_
        refine t_normal ?_
        refine c_true hf rfl ?_
        refine c_seq ?_
        refine c_region ?_
        refine step_l (st_rd hf (Wn.none rfl) (rd_move hf rfl rfl) hS rfl rfl ?_)
        clear hf; intro a hf
        refine step_l (st_rd hf (Wn.none rfl) (rd_sub hf rfl rfl rfl (by first | exact Go.IntWalk.u8_in _ (by omega) | exact rfl)) hS rfl rfl ?_)
        clear hf; intro a hf
        refine step_l (st_rd hf (Wn.none rfl) (rd_convInt hf rfl rfl Try.underlying5 Try.underlying3 (Go.IntWalk.i64_in _ (by omega))) hS rfl rfl ?_)
        clear hf; intro a hf
        refine step_l (st_rd hf (Wn.none rfl) (rd_add hf rfl rfl rfl (by first | exact Go.IntWalk.i64_in _ (by omega) | exact rfl)) hS rfl rfl ?_)
        clear hf; intro a hf
        refine step_l (st_rd hf (Wn.none rfl) (rd_assign hf rfl rfl) hS rfl rfl ?_)
        clear hf; intro a hf
        refine done_l ?_
        refine t_normal ?_
        refine c_ret ?_
        refine b_ret ?_
        refine t_ret ?_
        refine e_res1 hf.defers rfl (res_tmp hf rfl .nil) ?_
        refine ⟨?_, hS.sub (by repeat (first | exact Sub.refl | exact Sub.none | (apply Sub.cons; (focus ((repeat (first | exact Sel.head | apply Sel.tail)); done))) | apply Sub.skip))⟩
        clear hf hS
        exact int_eq (by unfold digF; omega)
      · clear hf; intro hc6 a hf
        refine step_l (st_rd hf (Wn.none rfl) (rd_pick_t hf rfl rfl rfl) hS rfl rfl ?_)
        clear hf; intro a hf
        refine step_l (st_rd hf (Wn.none rfl) (rd_assign hf rfl rfl) hS rfl rfl ?_)
        clear hf; intro a hf
        refine done_l ?_
        refine t_normal ?_
        refine c_false hf rfl ?_
        refine c_skip ?_
        refine b_normal ?_
        refine t_normal ?_
        refine c_seq ?_
        refine c_region ?_
        refine step_l (st_rd hf (Wn.none rfl) (rd_assign hf rfl rfl) hS rfl rfl ?_)
        clear hf; intro a hf
        refine done_l ?_
        refine t_normal ?_
        refine c_ret ?_
        refine e_res1 hf.defers rfl (res_tmp hf rfl .nil) ?_
        refine ⟨?_, hS.sub (by repeat (first | exact Sub.refl | exact Sub.none | (apply Sub.cons; (focus ((repeat (first | exact Sel.head | apply Sel.tail)); done))) | apply Sub.skip))⟩
        clear hf hS
        exact int_eq (by unfold digF; omega)
    · clear hf; intro hc5 a hf
      refine step_l (st_rd hf (Wn.none rfl) (rd_move hf rfl rfl) hS rfl rfl ?_)
      clear hf; intro a hf
      refine step_l (st_skip hf (Wn.some hf rfl rfl rfl rfl) rfl rfl ?_)
      clear hf; intro a hf
      refine step_l (st_skip hf (Wn.some hf rfl rfl rfl rfl) rfl rfl ?_)
      clear hf; intro a hf
      refine step_l (st_rd hf (Wn.none rfl) (rd_pick_f hf rfl rfl rfl) hS rfl rfl ?_)
      clear hf; intro a hf
      refine step_l (st_rd hf (Wn.none rfl) (rd_assign hf rfl rfl) hS rfl rfl ?_)
      clear hf; intro a hf
      refine done_l ?_
      refine t_normal ?_
      refine c_false hf rfl ?_
      refine c_skip ?_
      refine b_normal ?_
      refine t_normal ?_
      refine c_seq ?_
      refine c_region ?_
      refine step_l (st_rd hf (Wn.none rfl) (rd_assign hf rfl rfl) hS rfl rfl ?_)
      clear hf; intro a hf
      refine done_l ?_
      refine t_normal ?_
      refine c_ret ?_
      refine e_res1 hf.defers rfl (res_tmp hf rfl .nil) ?_
      refine ⟨?_, hS.sub (by repeat (first | exact Sub.refl | exact Sub.none | (apply Sub.cons; (focus ((repeat (first | exact Sel.head | apply Sel.tail)); done))) | apply Sub.skip))⟩
      clear hf hS
      exact int_eq (by unfold digF; omega)

theorem hex_c (c : UInt8) {W : World} {R : List HP} {w : World}  (hS : Sat W R w) : Calls Try.prog 45 [.int .u8 (c.toNat : Nat)].toArray w (Ret fun v w' => v = .int .i64 (digF c) ∧ Sat W R w') := by
  refine fn_start 24 Try.func45 rfl rfl rfl ?_
  intro a hf
  have hcb := c.toNat_lt
  refine c_seq ?_
  refine c_region ?_
  refine step_l (st_rd hf (Wn.none rfl) (rd_assign hf rfl rfl) hS rfl rfl ?_)
  clear hf; intro a hf
  refine done_l ?_
  refine t_normal ?_
  refine c_seq ?_
  refine c_block ?_
  refine c_seq ?_
  refine c_region ?_
  refine step_l (st_rd hf (Wn.none rfl) (rd_move hf rfl rfl) hS rfl rfl ?_)
  clear hf; intro a hf
  refine step_l (st_rdB hf (Wn.none rfl) (rd_geq hf rfl rfl rfl) hS rfl rfl ?_ ?_)
  · clear hf; intro hc1 a hf
    refine step_l (st_rd hf (Wn.none rfl) (rd_move hf rfl rfl) hS rfl rfl ?_)
    clear hf; intro a hf
    refine step_l (st_rd hf (Wn.some hf rfl rfl rfl rfl) (rd_move hf rfl rfl) hS rfl rfl ?_)
    clear hf; intro a hf
    refine step_l (st_rdB hf (Wn.some hf rfl rfl rfl rfl) (rd_leq hf rfl rfl rfl) hS rfl rfl ?_ ?_)
    · clear hf; intro hc2 a hf
      refine step_l (st_rd hf (Wn.none rfl) (rd_pick_t hf rfl rfl rfl) hS rfl rfl ?_)
      clear hf; intro a hf
      refine step_l (st_rd hf (Wn.none rfl) (rd_assign hf rfl rfl) hS rfl rfl ?_)
      clear hf; intro a hf
      refine done_l ?_
      refine t_normal ?_
      refine c_true hf rfl ?_
      refine c_seq ?_
      refine c_region ?_
      refine step_l (st_rd hf (Wn.none rfl) (rd_move hf rfl rfl) hS rfl rfl ?_)
      clear hf; intro a hf
      refine step_l (st_rd hf (Wn.none rfl) (rd_sub hf rfl rfl rfl (by first | exact Go.IntWalk.u8_in _ (by omega) | exact rfl)) hS rfl rfl ?_)
      clear hf; intro a hf
      refine step_l (st_rd hf (Wn.none rfl) (rd_convInt hf rfl rfl Try.underlying5 Try.underlying3 (Go.IntWalk.i64_in _ (by omega))) hS rfl rfl ?_)
      clear hf; intro a hf
      refine step_l (st_rd hf (Wn.none rfl) (rd_assign hf rfl rfl) hS rfl rfl ?_)
      clear hf; intro a hf
      refine done_l ?_
      refine t_normal ?_
      refine c_ret ?_
      refine b_ret ?_
      refine t_ret ?_
      refine e_res1 hf.defers rfl (res_tmp hf rfl .nil) ?_
      refine ⟨?_, hS.sub (by repeat (first | exact Sub.refl | exact Sub.none | (apply Sub.cons; (focus ((repeat (first | exact Sel.head | apply Sel.tail)); done))) | apply Sub.skip))⟩
      clear hf hS
      exact int_eq (by unfold digF; omega)
    · clear hf; intro hc2 a hf
      refine step_l (st_rd hf (Wn.none rfl) (rd_pick_t hf rfl rfl rfl) hS rfl rfl ?_)
      clear hf; intro a hf
      refine step_l (st_rd hf (Wn.none rfl) (rd_assign hf rfl rfl) hS rfl rfl ?_)
      clear hf; intro a hf
      refine done_l ?_
      refine t_normal ?_
      refine c_false hf rfl ?_
      refine c_seq ?_
      refine c_region ?_
      refine step_l (st_rd hf (Wn.none rfl) (rd_move hf rfl rfl) hS rfl rfl ?_)
      clear hf; intro a hf
      refine step_l (st_rdB hf (Wn.none rfl) (rd_geq hf rfl rfl rfl) hS rfl rfl ?_ ?_)
      · clear hf; intro hc3 a hf
        refine step_l (st_rd hf (Wn.none rfl) (rd_move hf rfl rfl) hS rfl rfl ?_)
        clear hf; intro a hf
        refine step_l (st_rd hf (Wn.some hf rfl rfl rfl rfl) (rd_move hf rfl rfl) hS rfl rfl ?_)
        clear hf; intro a hf
        refine step_l (st_rdB hf (Wn.some hf rfl rfl rfl rfl) (rd_leq hf rfl rfl rfl) hS rfl rfl ?_ ?_)
        · clear hf; intro hc4 a hf
          refine step_l (st_rd hf (Wn.none rfl) (rd_pick_t hf rfl rfl rfl) hS rfl rfl ?_)
          clear hf; intro a hf
          refine step_l (st_rd hf (Wn.none rfl) (rd_assign hf rfl rfl) hS rfl rfl ?_)
          clear hf; intro a hf
          refine done_l ?_
          refine t_normal ?_
          refine c_true hf rfl ?_
          refine c_seq ?_
          refine c_region ?_
          refine step_l (st_rd hf (Wn.none rfl) (rd_move hf rfl rfl) hS rfl rfl ?_)
          clear hf; intro a hf
          refine step_l (st_rd hf (Wn.none rfl) (rd_sub hf rfl rfl rfl (by first | exact Go.IntWalk.u8_in _ (by omega) | exact rfl)) hS rfl rfl ?_)
          clear hf; intro a hf
          refine step_l (st_rd hf (Wn.none rfl) (rd_convInt hf rfl rfl Try.underlying5 Try.underlying3 (Go.IntWalk.i64_in _ (by omega))) hS rfl rfl ?_)
          clear hf; intro a hf
          refine step_l (st_rd hf (Wn.none rfl) (rd_add hf rfl rfl rfl (by first | exact Go.IntWalk.i64_in _ (by omega) | exact rfl)) hS rfl rfl ?_)
          clear hf; intro a hf
          refine step_l (st_rd hf (Wn.none rfl) (rd_assign hf rfl rfl) hS rfl rfl ?_)
          clear hf; intro a hf
          refine done_l ?_
          refine t_normal ?_
          refine c_ret ?_
          refine b_ret ?_
          refine t_ret ?_
          refine e_res1 hf.defers rfl (res_tmp hf rfl .nil) ?_
          refine ⟨?_, hS.sub (by repeat (first | exact Sub.refl | exact Sub.none | (apply Sub.cons; (focus ((repeat (first | exact Sel.head | apply Sel.tail)); done))) | apply Sub.skip))⟩
          clear hf hS
          exact int_eq (by unfold digF; omega)
        · clear hf; intro hc4 a hf
          refine step_l (st_rd hf (Wn.none rfl) (rd_pick_t hf rfl rfl rfl) hS rfl rfl ?_)
          clear hf; intro a hf
          refine step_l (st_rd hf (Wn.none rfl) (rd_assign hf rfl rfl) hS rfl rfl ?_)
          clear hf; intro a hf
          refine done_l ?_
          refine t_normal ?_
          refine c_false hf rfl ?_
          refine c_skip ?_
          refine b_normal ?_
          refine t_normal ?_
          refine c_seq ?_
          refine c_region ?_
          refine step_l (st_rd hf (Wn.none rfl) (rd_assign hf rfl rfl) hS rfl rfl ?_)
          clear hf; intro a hf
          refine done_l ?_
          refine t_normal ?_
          refine c_ret ?_
          refine e_res1 hf.defers rfl (res_tmp hf rfl .nil) ?_
          refine ⟨?_, hS.sub (by repeat (first | exact Sub.refl | exact Sub.none | (apply Sub.cons; (focus ((repeat (first | exact Sel.head | apply Sel.tail)); done))) | apply Sub.skip))⟩
          clear hf hS
          exact int_eq (by unfold digF; omega)
      · clear hf; intro hc3 a hf
        refine step_l (st_rd hf (Wn.none rfl) (rd_move hf rfl rfl) hS rfl rfl ?_)
        clear hf; intro a hf
        refine step_l (st_skip hf (Wn.some hf rfl rfl rfl rfl) rfl rfl ?_)
        clear hf; intro a hf
        refine step_l (st_skip hf (Wn.some hf rfl rfl rfl rfl) rfl rfl ?_)
        clear hf; intro a hf
        refine step_l (st_rd hf (Wn.none rfl) (rd_pick_f hf rfl rfl rfl) hS rfl rfl ?_)
        clear hf; intro a hf
        refine step_l (st_rd hf (Wn.none rfl) (rd_assign hf rfl rfl) hS rfl rfl ?_)
        clear hf; intro a hf
        refine done_l ?_
        refine t_normal ?_
        refine c_false hf rfl ?_
        refine c_skip ?_
        refine b_normal ?_
        refine t_normal ?_
        refine c_seq ?_
        refine c_region ?_
        refine step_l (st_rd hf (Wn.none rfl) (rd_assign hf rfl rfl) hS rfl rfl ?_)
        clear hf; intro a hf
        refine done_l ?_
        refine t_normal ?_
        refine c_ret ?_
        refine e_res1 hf.defers rfl (res_tmp hf rfl .nil) ?_
        refine ⟨?_, hS.sub (by repeat (first | exact Sub.refl | exact Sub.none | (apply Sub.cons; (focus ((repeat (first | exact Sel.head | apply Sel.tail)); done))) | apply Sub.skip))⟩
        clear hf hS
        exact int_eq (by unfold digF; omega)
  · clear hf; intro hc1 a hf
    refine step_l (st_rd hf (Wn.none rfl) (rd_move hf rfl rfl) hS rfl rfl ?_)
    clear hf; intro a hf
    refine step_l (st_skip hf (Wn.some hf rfl rfl rfl rfl) rfl rfl ?_)
    clear hf; intro a hf
    refine step_l (st_skip hf (Wn.some hf rfl rfl rfl rfl) rfl rfl ?_)
    clear hf; intro a hf
    refine step_l (st_rd hf (Wn.none rfl) (rd_pick_f hf rfl rfl rfl) hS rfl rfl ?_)
    clear hf; intro a hf
    refine step_l (st_rd hf (Wn.none rfl) (rd_assign hf rfl rfl) hS rfl rfl ?_)
    clear hf; intro a hf
    refine done_l ?_
    refine t_normal ?_
    refine c_false hf rfl ?_
    refine c_seq ?_
    refine c_region ?_
    refine step_l (st_rd hf (Wn.none rfl) (rd_move hf rfl rfl) hS rfl rfl ?_)
    clear hf; intro a hf
    refine step_l (st_rdB hf (Wn.none rfl) (rd_geq hf rfl rfl rfl) hS rfl rfl ?_ ?_)
    · clear hf; intro hc5 a hf
      refine step_l (st_rd hf (Wn.none rfl) (rd_move hf rfl rfl) hS rfl rfl ?_)
      clear hf; intro a hf
      refine step_l (st_rd hf (Wn.some hf rfl rfl rfl rfl) (rd_move hf rfl rfl) hS rfl rfl ?_)
      clear hf; intro a hf
      refine step_l (st_rdB hf (Wn.some hf rfl rfl rfl rfl) (rd_leq hf rfl rfl rfl) hS rfl rfl ?_ ?_)
      · clear hf; intro hc6 a hf
        refine step_l (st_rd hf (Wn.none rfl) (rd_pick_t hf rfl rfl rfl) hS rfl rfl ?_)
        clear hf; intro a hf
        refine step_l (st_rd hf (Wn.none rfl) (rd_assign hf rfl rfl) hS rfl rfl ?_)
        clear hf; intro a hf
        refine done_l ?_
        refine t_normal ?_
        refine c_true hf rfl ?_
        refine c_seq ?_
        refine c_region ?_
        refine step_l (st_rd hf (Wn.none rfl) (rd_move hf rfl rfl) hS rfl rfl ?_)
        clear hf; intro a hf
        refine step_l (st_rd hf (Wn.none rfl) (rd_sub hf rfl rfl rfl (by first | exact Go.IntWalk.u8_in _ (by omega) | exact rfl)) hS rfl rfl ?_)
        clear hf; intro a hf
        refine step_l (st_rd hf (Wn.none rfl) (rd_convInt hf rfl rfl Try.underlying5 Try.underlying3 (Go.IntWalk.i64_in _ (by omega))) hS rfl rfl ?_)
        clear hf; intro a hf
        refine step_l (st_rd hf (Wn.none rfl) (rd_add hf rfl rfl rfl (by first | exact Go.IntWalk.i64_in _ (by omega) | exact rfl)) hS rfl rfl ?_)
        clear hf; intro a hf
        refine step_l (st_rd hf (Wn.none rfl) (rd_assign hf rfl rfl) hS rfl rfl ?_)
        clear hf; intro a hf
        refine done_l ?_
        refine t_normal ?_
        refine c_ret ?_
        refine b_ret ?_
        refine t_ret ?_
        refine e_res1 hf.defers rfl (res_tmp hf rfl .nil) ?_
        refine ⟨?_, hS.sub (by repeat (first | exact Sub.refl | exact Sub.none | (apply Sub.cons; (focus ((repeat (first | exact Sel.head | apply Sel.tail)); done))) | apply Sub.skip))⟩
        clear hf hS
        exact int_eq (by unfold digF; omega)
      · clear hf; intro hc6 a hf
        refine step_l (st_rd hf (Wn.none rfl) (rd_pick_t hf rfl rfl rfl) hS rfl rfl ?_)
        clear hf; intro a hf
        refine step_l (st_rd hf (Wn.none rfl) (rd_assign hf rfl rfl) hS rfl rfl ?_)
        clear hf; intro a hf
        refine done_l ?_
        refine t_normal ?_
        refine c_false hf rfl ?_
        refine c_skip ?_
        refine b_normal ?_
        refine t_normal ?_
        refine c_seq ?_
        refine c_region ?_
        refine step_l (st_rd hf (Wn.none rfl) (rd_assign hf rfl rfl) hS rfl rfl ?_)
        clear hf; intro a hf
        refine done_l ?_
        refine t_normal ?_
        refine c_ret ?_
        refine e_res1 hf.defers rfl (res_tmp hf rfl .nil) ?_
        refine ⟨?_, hS.sub (by repeat (first | exact Sub.refl | exact Sub.none | (apply Sub.cons; (focus ((repeat (first | exact Sel.head | apply Sel.tail)); done))) | apply Sub.skip))⟩
        clear hf hS
        exact int_eq (by unfold digF; omega)
    · clear hf; intro hc5 a hf
      refine step_l (st_rd hf (Wn.none rfl) (rd_move hf rfl rfl) hS rfl rfl ?_)
      clear hf; intro a hf
      refine step_l (st_skip hf (Wn.some hf rfl rfl rfl rfl) rfl rfl ?_)
      clear hf; intro a hf
      refine step_l (st_skip hf (Wn.some hf rfl rfl rfl rfl) rfl rfl ?_)
      clear hf; intro a hf
      refine step_l (st_rd hf (Wn.none rfl) (rd_pick_f hf rfl rfl rfl) hS rfl rfl ?_)
      clear hf; intro a hf
      refine step_l (st_rd hf (Wn.none rfl) (rd_assign hf rfl rfl) hS rfl rfl ?_)
      clear hf; intro a hf
      refine done_l ?_
      refine t_normal ?_
      refine c_false hf rfl ?_
      refine c_skip ?_
      refine b_normal ?_
      refine t_normal ?_
      refine c_seq ?_
      refine c_region ?_
      refine step_l (st_rd hf (Wn.none rfl) (rd_assign hf rfl rfl) hS rfl rfl ?_)
      clear hf; intro a hf
      refine done_l ?_
      refine t_normal ?_
      refine c_ret ?_
      refine e_res1 hf.defers rfl (res_tmp hf rfl .nil) ?_
      refine ⟨?_, hS.sub (by repeat (first | exact Sub.refl | exact Sub.none | (apply Sub.cons; (focus ((repeat (first | exact Sel.head | apply Sel.tail)); done))) | apply Sub.skip))⟩
      clear hf hS
      exact int_eq (by unfold digF; omega)

def hexd (n : Nat) : UInt8 := UInt8.ofNat (if n < 10 then 48 + n else 87 + n)
def encF (c : UInt8) : List UInt8 := if plainP c then [c] else [37, hexd (c.toNat / 16), hexd (c.toNat % 16)]
def textF (bs : List UInt8) : List UInt8 := bs.flatMap encF
theorem textF_snoc (bs : List UInt8) (c : UInt8) : textF (bs ++ [c]) = textF bs ++ encF c := by simp [textF]
theorem encF_len (c : UInt8) : (encF c).length ≤ 3 := by unfold encF; split <;> simp
theorem textF_len (bs : List UInt8) : (textF bs).length ≤ 3 * bs.length := by
  induction bs with
  | nil => simp [textF]
  | cons c r ih => have := encF_len c; simp only [textF, List.flatMap_cons, List.length_append, List.length_cons] at *; omega
theorem hexGet {n : Nat} (h : n < 16) : ([48,49,50,51,52,53,54,55,56,57,97,98,99,100,101,102] : List UInt8)[n]? = some (hexd n) := by
  have : ∀ k : Fin 16, ([48,49,50,51,52,53,54,55,56,57,97,98,99,100,101,102] : List UInt8)[k.val]? = some (hexd k.val) := by decide
  exact this ⟨n, h⟩
theorem and15 (c : UInt8) : (c &&& 15).toNat = c.toNat % 16 := by
  rw [UInt8.toNat_and]; exact Nat.and_two_pow_sub_one_eq_mod c.toNat 4
theorem n8_and15 (c : UInt8) : IntKind.u8.wrap ((BitVec.ofInt IntKind.u8.bits (c.toNat : Int) &&& BitVec.ofInt IntKind.u8.bits 15).toNat : Nat) = ((c.toNat % 16 : Nat) : Int) := by
  rw [← and15]; exact n8_and c 15 rfl
theorem n8_shr4 (c : UInt8) : (c.toNat : Int).fdiv (2 ^ (min (4 : Int).toNat IntKind.u8.bits)) = ((c.toNat / 16 : Nat) : Int) := n8_shr c 4 rfl (by omega)

theorem Text_c (bs : List UInt8) {W : World} {R : List HP} {w : World} (hb : bs.length ≤ 20000000000000) (hS : Sat W R w) : Calls Try.prog 33 [.string (str bs)].toArray w (Ret fun v w' => v = .string (str (textF bs)) ∧ Sat W R w') := by
  refine fn_start 31 Try.func33 rfl rfl rfl ?_
  intro a hf
  refine c_seq ?_
  refine c_region ?_
  refine step_l (st_rd hf (Wn.none rfl) (rd_assign hf rfl rfl) hS rfl rfl ?_)
  clear hf; intro a hf
  refine done_l ?_
  refine t_normal ?_
  refine c_seq ?_
  refine c_region ?_
  refine step_l (st_rd hf (Wn.none rfl) (rd_assign hf rfl rfl) hS rfl rfl ?_)
  clear hf; intro a hf
  refine done_l ?_
  refine t_normal ?_
  refine c_seq ?_
  refine c_seq ?_
  refine c_region ?_
  refine step_l (st_rd hf (Wn.none rfl) (rd_move hf rfl rfl) hS rfl rfl ?_)
  clear hf; intro a hf
  refine step_l (st_bytes hf (Wn.none rfl) hS rfl rfl Try.underlying9 Try.underlying36 Try.underlying5 rfl rfl ?_)
  clear hf hS; intro b_1 cap_1 zs_1 a w hf hcap_1 hS
  refine step_l (st_rd hf (Wn.none rfl) (rd_len hf rfl rfl Try.underlying36) hS rfl rfl ?_)
  clear hf; intro a hf
  refine step_l (st_rd hf (Wn.none rfl) (rd_move hf rfl rfl) hS rfl rfl ?_)
  clear hf; intro a hf
  refine done_l ?_
  refine t_normal ?_
  refine c_block ?_
  refine c_loop (α := Nat × Option Addr × Nat × Nat) (fun ⟨k, p, len, cap⟩ a w => Fits 31 a [(3, .slice p len cap), (7, .slice (some ⟨b_1, 0, none⟩) bs.length cap_1), (8, .int .i64 (bs.length : Nat)), (9, .int .i64 (k : Nat))] ∧ Sat W (Rw 5 1 p len cap (bvs (textF (bs.take k))) :: Blk b_1 (bvs bs ++ zs_1) 5 :: R) w ∧ k ≤ bs.length ∧ len = (textF (bs.take k)).length) (fun ⟨k, p, len, cap⟩ => bs.length - k) (0, none, 0, 0) ?_ ?_
  · exact ⟨((((hf.k0.kb hf 9 rfl (by first | rfl | exact int_eq (by omega))).kb hf 8 rfl (by first | rfl | exact int_eq (by omega))).kb hf 7 rfl (by first | rfl | exact int_eq (by omega))).kb hf 3 rfl (by rfl)), (hS.rwNil 5 1).sub (by repeat (first | exact Sub.refl | exact Sub.none | (apply Sub.cons; (focus ((repeat (first | exact Sel.head | apply Sel.tail)); done))) | apply Sub.skip)), ⟨Nat.zero_le _, rfl⟩⟩
  · clear hf hS; rintro ⟨k, p, len, cap⟩ a w ⟨hf, hS, ⟨hk, hlen⟩⟩
    have hB := textF_len (bs.take k); rw [List.length_take, ← hlen] at hB
    refine c_seq ?_
    refine c_region ?_
    refine step_l (st_rdB hf (Wn.none rfl) (rd_lss hf rfl rfl rfl) hS rfl rfl ?_ ?_)
    · clear hf; intro hc2 a hf
      obtain ⟨c, hget⟩ := get_of_lt (l := bs) (k := k) (by omega) rfl; have hcb := c.toNat_lt
      refine done_l ?_
      refine t_normal ?_
      refine c_seq ?_
      refine c_true hf rfl ?_
      refine c_skip ?_
      refine t_normal ?_
      refine c_seq ?_
      refine c_block ?_
      refine c_seq ?_
      refine c_region ?_
      refine step_l (st_rd hf (Wn.none rfl) ((by first | exact rd_indexAddrN1 hf rfl rfl rfl Try.underlying36 sz5 (by omega) | exact rd_indexAddr hf rfl rfl rfl Try.underlying36 sz5 (by first | decide | omega) (by omega))) hS rfl rfl ?_)
      clear hf; intro a hf
      refine step_l (st_rd hf (Wn.none rfl) (rd_load1 hf rfl rfl ag5 (by intro _ h; exact (h.slOfBlkPre (by repeat (first | exact Sel.head | apply Sel.tail)) (bvs_len1 _)).get (bvs_get hget))) hS rfl rfl ?_)
      clear hf; intro a hf
      refine step_l (st_rd hf (Wn.none rfl) (rd_assign hf rfl rfl) hS rfl rfl ?_)
      clear hf; intro a hf
      refine done_l ?_
      refine t_normal ?_
      refine c_seq ?_
      refine c_region ?_
      refine step_l (st_rd hf (Wn.none rfl) (rd_move hf rfl rfl) hS rfl rfl ?_)
      clear hf; intro a hf
      refine step_l (st_call hf (Wn.none rfl) rfl rfl rfl fn43 (plain_c _  hS) rfl rfl ?_)
      clear hf hS; rintro v a w ⟨rfl, hS⟩ hf
      first | refine split_dec (d := 14) hf rfl ?_ ?_ | refine split_bool (d := 14) hf rfl ?_ ?_
      · clear hf; intro hc3 hf
        refine done_l ?_
        refine t_normal ?_
        refine c_true hf rfl ?_
        refine c_region ?_
        refine step_l (st_rd hf (Wn.none rfl) (rd_move hf rfl rfl) hS rfl rfl ?_)
        clear hf; intro a hf
        refine step_l (st_rd hf (Wn.none rfl) (rd_move hf rfl rfl) hS rfl rfl ?_)
        clear hf; intro a hf
        refine step_l (st_buildSlice hf (Wn.none rfl) hS rfl rfl Try.underlying36 sz5 zr5 (by decide) bz5_1 rfl (.cons rfl (by rfl) (by rfl) (by repeat (first | exact Put.nil | apply Put.cons | apply Put.succ)) .nil) rfl rfl ?_)
        clear hf hS; intro b_4 a w hf hS
        refine step_l (st_append hf (Wn.none rfl) rfl rfl rfl Try.underlying36 tyb5 (by rfl) (by decide) hS (by repeat (first | exact Sel.head | apply Sel.tail)) (by first | exact hS.slOfBlk (by repeat (first | exact Sel.head | apply Sel.tail)) (by rfl) | exact hS.slOfBlkPre (by repeat (first | exact Sel.head | apply Sel.tail)) (bvs_len1 _) | exact hS.slOfRw (by repeat (first | exact Sel.head | apply Sel.tail)) | exact SlAt.nil _ _ _) (by first | rfl | exact bvs_one _ | (simp [Value.oneCell']; done)) (by omega) rfl rfl ?_)
        clear hf hS; intro pA capA a w hf hS hnilA
        refine step_l (st_rd hf (Wn.none rfl) (rd_assign hf rfl rfl) hS rfl rfl ?_)
        clear hf; intro a hf
        refine done_l ?_
        refine b_normal ?_
        refine t_normal ?_
        refine c_region ?_
        refine step_l (st_rd hf (Wn.none rfl) (rd_add hf rfl rfl rfl (by first | exact Go.IntWalk.i64_in _ (by omega) | exact rfl)) hS rfl rfl ?_)
        clear hf; intro a hf
        refine step_l (st_rd hf (Wn.none rfl) (rd_move hf rfl rfl) hS rfl rfl ?_)
        clear hf; intro a hf
        refine done_l ?_
        refine t_normal ⟨(k + 1, pA, _, capA), ⟨((((hf.k0.kb hf 9 rfl (by first | rfl | exact int_eq (by omega))).kb hf 8 rfl (by first | rfl | exact int_eq (by omega))).kb hf 7 rfl (by first | rfl | exact int_eq (by omega))).kb hf 3 rfl (by rfl)), (hS.rwCast (xs' := bvs (textF (bs.take (k + 1)))) (by rw [take_succ_get hget, textF_snoc, bvs_append]; simp [encF, *]) rfl).sub (by repeat (first | exact Sub.refl | exact Sub.none | (apply Sub.cons; (focus ((repeat (first | exact Sel.head | apply Sel.tail)); done))) | apply Sub.skip)), ⟨by omega, by rw [take_succ_get hget, textF_snoc, List.length_append, ← hlen]; simp [encF, *]⟩⟩, by first | omega | (simp only []; omega)⟩
      · clear hf; intro hc3 hf
        refine done_l ?_
        refine t_normal ?_
        refine c_false hf rfl ?_
        refine any_begin (S := Sat W (R)) mixed (hS.drew.sub (by repeat (first | exact Sub.refl | exact Sub.none | (apply Sub.cons; (focus ((repeat (first | exact Sel.head | apply Sel.tail)); done))) | apply Sub.skip))) ?_
        have hT : Sat W (R) _ := hS.drew.sub (by repeat (first | exact Sub.refl | exact Sub.none | (apply Sub.cons; (focus ((repeat (first | exact Sel.head | apply Sel.tail)); done))) | apply Sub.skip))
        replace hS := hS.drew
        refine any_take (i := 0) hf rfl (by kernel_rfl) (by kernel_rfl) (by kernel_rfl) (fun _ _ _ h => h) (Wn.none rfl) (rd_move hf rfl rfl) hT rfl rfl ?_
        clear hf; intro a hf
        refine any_take (i := 1) hf rfl (by kernel_rfl) (by kernel_rfl) (by kernel_rfl) (fun _ _ _ h => h) (Wn.none rfl) (rd_move hf rfl rfl) hT rfl rfl ?_
        clear hf; intro a hf
        refine any_take (i := 2) hf rfl (by kernel_rfl) (by kernel_rfl) (by kernel_rfl) (fun _ _ _ h => h) (Wn.none rfl) (rd_shr hf rfl rfl rfl (by first | decide | omega) (n8_shr4 _)) hT rfl rfl ?_
        clear hf; intro a hf
        refine any_take (i := 3) hf rfl (by kernel_rfl) (by kernel_rfl) (by kernel_rfl) (fun _ _ _ h => h) (Wn.none rfl) (rd_indexS hf rfl rfl rfl Try.underlying9 (by omega) (by simp only [Int.toNat_natCast]; exact hexGet (by omega))) hT rfl rfl ?_
        clear hf; intro a hf
        refine any_take (i := 4) hf rfl (by kernel_rfl) (by kernel_rfl) (by kernel_rfl) (fun _ _ _ h => h) (Wn.none rfl) (rd_move hf rfl rfl) hT rfl rfl ?_
        clear hf; intro a hf
        refine any_take (i := 5) hf rfl (by kernel_rfl) (by kernel_rfl) (by kernel_rfl) (fun _ _ _ h => h) (Wn.none rfl) (rd_and hf rfl rfl rfl (n8_and15 _)) hT rfl rfl ?_
        clear hf; intro a hf
        refine any_take (i := 6) hf rfl (by kernel_rfl) (by kernel_rfl) (by kernel_rfl) (fun _ _ _ h => h) (Wn.none rfl) (rd_indexS hf rfl rfl rfl Try.underlying9 (by omega) (by simp only [Int.toNat_natCast]; exact hexGet (by omega))) hT rfl rfl ?_
        clear hf; intro a hf
        refine any_one (i := 7) rfl (by kernel_rfl) (st_buildSlice hf (Wn.none rfl) hS rfl rfl Try.underlying36 sz5 zr5 (by decide) bz5_3 rfl (.cons rfl (by rfl) (by rfl) (by repeat (first | exact Put.nil | apply Put.cons | apply Put.succ)) (.cons rfl (by rfl) (by rfl) (by repeat (first | exact Put.nil | apply Put.cons | apply Put.succ)) (.cons rfl (by rfl) (by rfl) (by repeat (first | exact Put.nil | apply Put.cons | apply Put.succ)) .nil))) rfl rfl ?_)
        clear hf hS; intro b_6 a w hf hS
        replace hT := hS.sub' hT (by repeat (first | exact Sub.refl | exact Sub.none | (apply Sub.cons; (focus ((repeat (first | exact Sel.head | apply Sel.tail)); done))) | apply Sub.skip))
        refine ⟨hT, ?_⟩
        refine any_one (i := 8) rfl (by kernel_rfl) (st_append hf (Wn.none rfl) rfl rfl rfl Try.underlying36 tyb5 (by rfl) (by decide) hS (by repeat (first | exact Sel.head | apply Sel.tail)) (by first | exact hS.slOfBlk (by repeat (first | exact Sel.head | apply Sel.tail)) (by rfl) | exact hS.slOfBlkPre (by repeat (first | exact Sel.head | apply Sel.tail)) (bvs_len1 _) | exact hS.slOfRw (by repeat (first | exact Sel.head | apply Sel.tail)) | exact SlAt.nil _ _ _) (by first | rfl | exact bvs_one _ | (simp [Value.oneCell']; done)) (by omega) rfl rfl ?_)
        clear hf hS; intro pA capA a w hf hS hnilA
        replace hT := hS.sub' hT (by repeat (first | exact Sub.refl | exact Sub.none | (apply Sub.cons; (focus ((repeat (first | exact Sel.head | apply Sel.tail)); done))) | apply Sub.skip))
        refine ⟨hT, ?_⟩
        refine any_take (i := 9) hf rfl (by kernel_rfl) (by kernel_rfl) (by kernel_rfl) (fun _ _ _ h => h) (Wn.none rfl) (rd_assign hf rfl rfl) hT rfl rfl ?_
        clear hf; intro a hf
        refine any_done (by kernel_rfl) ?_
        refine b_normal ?_
        refine t_normal ?_
        refine c_region ?_
        refine step_l (st_rd hf (Wn.none rfl) (rd_add hf rfl rfl rfl (by first | exact Go.IntWalk.i64_in _ (by omega) | exact rfl)) hS rfl rfl ?_)
        clear hf; intro a hf
        refine step_l (st_rd hf (Wn.none rfl) (rd_move hf rfl rfl) hS rfl rfl ?_)
        clear hf; intro a hf
        refine done_l ?_
        refine t_normal ⟨(k + 1, pA, _, capA), ⟨((((hf.k0.kb hf 9 rfl (by first | rfl | exact int_eq (by omega))).kb hf 8 rfl (by first | rfl | exact int_eq (by omega))).kb hf 7 rfl (by first | rfl | exact int_eq (by omega))).kb hf 3 rfl (by rfl)), (hS.rwCast (xs' := bvs (textF (bs.take (k + 1)))) (by rw [take_succ_get hget, textF_snoc, bvs_append]; simp [encF, *]) rfl).sub (by repeat (first | exact Sub.refl | exact Sub.none | (apply Sub.cons; (focus ((repeat (first | exact Sel.head | apply Sel.tail)); done))) | apply Sub.skip)), ⟨by omega, by rw [take_succ_get hget, textF_snoc, List.length_append, ← hlen]; simp [encF, *]⟩⟩, by first | omega | (simp only []; omega)⟩
    · clear hf; intro hc2 a hf
      refine done_l ?_
      refine t_normal ?_
      refine c_seq ?_
      refine c_false hf rfl ?_
      refine c_exit ?_
      refine t_exit ?_
      refine t_exit ?_
      refine b_exit ?_
      refine t_normal ?_
      refine c_seq ?_
      refine c_region ?_
      refine step_l (st_rd hf (Wn.none rfl) (rd_move hf rfl rfl) hS rfl rfl ?_)
      clear hf; intro a hf
      refine step_l (st_rd hf (Wn.none rfl) (rd_str hf rfl rfl Try.underlying36 Try.underlying9 Try.underlying5 (by intro _ h; first | exact h.slOfRw (by repeat (first | exact Sel.head | apply Sel.tail)) | exact h.slOfBlkPre (by repeat (first | exact Sel.head | apply Sel.tail)) (bvs_len1 _))) hS rfl rfl ?_)
      clear hf; intro a hf
      refine step_l (st_rd hf (Wn.none rfl) (rd_assign hf rfl rfl) hS rfl rfl ?_)
      clear hf; intro a hf
      refine done_l ?_
      refine t_normal ?_
      refine c_ret ?_
      refine e_res1 hf.defers rfl (res_tmp hf rfl .nil) ?_
      refine ⟨?_, hS.sub (by repeat (first | exact Sub.refl | exact Sub.none | (apply Sub.cons; (focus ((repeat (first | exact Sel.head | apply Sel.tail)); done))) | apply Sub.skip))⟩
      clear hf hS
      rw [List.take_of_length_le (by omega)]

theorem sl1 {bs : List UInt8} {k : Nat} {c : UInt8} (h : bs[k]? = some c) : (bs.drop ((k : Int)).toNat).take ((((k : Int) + 1)).toNat - ((k : Int)).toNat) = [c] := by
  obtain ⟨h1, h2⟩ := List.getElem?_eq_some_iff.1 h
  rw [show (((k : Int) + 1)).toNat - ((k : Int)).toNat = 1 from by omega, Int.toNat_natCast]
  rw [List.drop_eq_getElem_cons h1, h2]; rfl
theorem encF_pos {c : UInt8} (h : plainP c) : encF c = [c] := if_pos h
theorem encF_neg {c : UInt8} (h : ¬ plainP c) : encF c = [37, hexd (c.toNat / 16), hexd (c.toNat % 16)] := if_neg h

theorem KeyText_c (bs : List UInt8) {W : World} {R : List HP} {w : World} (hb : bs.length ≤ 140737488351232) (hS : Sat W R w) : Calls Try.prog 34 [.string (str bs)].toArray w (Ret fun v w' => v = .string (str (textF bs)) ∧ Sat W R w') := by
  refine fn_start 53 Try.func34 rfl rfl rfl ?_
  intro a hf
  refine c_seq ?_
  refine c_region ?_
  refine step_l (st_rd hf (Wn.none rfl) (rd_assign hf rfl rfl) hS rfl rfl ?_)
  clear hf; intro a hf
  refine done_l ?_
  refine t_normal ?_
  refine c_seq ?_
  refine c_region ?_
  refine step_l (st_rd hf (Wn.none rfl) (rd_assign hf rfl rfl) hS rfl rfl ?_)
  clear hf; intro a hf
  refine done_l ?_
  refine t_normal ?_
  refine c_seq ?_
  refine c_seq ?_
  refine c_region ?_
  refine step_l (st_rd hf (Wn.none rfl) (rd_move hf rfl rfl) hS rfl rfl ?_)
  clear hf; intro a hf
  refine step_l (st_rd hf (Wn.none rfl) (rd_lenS hf rfl rfl Try.underlying9) hS rfl rfl ?_)
  clear hf; intro a hf
  refine step_l (st_rd hf (Wn.none rfl) (rd_move hf rfl rfl) hS rfl rfl ?_)
  clear hf; intro a hf
  refine done_l ?_
  refine t_normal ?_
  refine c_block ?_
  refine c_loop (α := Nat) (fun k a w => Fits 53 a [(0, .string (str bs)), (3, .string (str (textF (bs.take k)))), (7, .int .i64 (bs.length : Nat)), (8, .int .i64 (k : Nat))] ∧ Sat W (R) w ∧ k ≤ bs.length) (fun k => bs.length - k) 0 ?_ ?_
  · exact ⟨((((hf.k0.kb hf 8 rfl (by first | rfl | exact int_eq (by omega))).kb hf 7 rfl (by first | rfl | exact int_eq (by omega))).kb hf 3 rfl (by rfl)).kb hf 0 rfl (by first | rfl | exact int_eq (by omega))), hS.sub (by repeat (first | exact Sub.refl | exact Sub.none | (apply Sub.cons; (focus ((repeat (first | exact Sel.head | apply Sel.tail)); done))) | apply Sub.skip)), Nat.zero_le _⟩
  · clear hf hS; rintro k a w ⟨hf, hS, hk⟩
    have hB := textF_len (bs.take k); rw [List.length_take] at hB
    refine c_seq ?_
    refine c_region ?_
    refine step_l (st_rdB hf (Wn.none rfl) (rd_lss hf rfl rfl rfl) hS rfl rfl ?_ ?_)
    · clear hf; intro hc1 a hf
      obtain ⟨c, hget⟩ := get_of_lt (l := bs) (k := k) (by omega) rfl; have hcb := c.toNat_lt
      refine done_l ?_
      refine t_normal ?_
      refine c_seq ?_
      refine c_true hf rfl ?_
      refine c_skip ?_
      refine t_normal ?_
      refine c_seq ?_
      refine c_block ?_
      refine c_seq ?_
      refine c_region ?_
      refine step_l (st_rd hf (Wn.none rfl) (rd_move hf rfl rfl) hS rfl rfl ?_)
      clear hf; intro a hf
      refine step_l (st_rd hf (Wn.none rfl) (rd_assign hf rfl rfl) hS rfl rfl ?_)
      clear hf; intro a hf
      refine done_l ?_
      refine t_normal ?_
      refine c_seq ?_
      refine c_region ?_
      refine step_l (st_rd hf (Wn.none rfl) (rd_move hf rfl rfl) hS rfl rfl ?_)
      clear hf; intro a hf
      refine step_l (st_rd hf (Wn.none rfl) (rd_move hf rfl rfl) hS rfl rfl ?_)
      clear hf; intro a hf
      refine step_l (st_rd hf (Wn.none rfl) (rd_indexS hf rfl rfl rfl Try.underlying9 (by omega) (by exact hget)) hS rfl rfl ?_)
      clear hf; intro a hf
      refine step_l (st_rd hf (Wn.none rfl) (rd_assign hf rfl rfl) hS rfl rfl ?_)
      clear hf; intro a hf
      refine done_l ?_
      refine t_normal ?_
      refine c_seq ?_
      refine c_region ?_
      refine step_l (st_rd hf (Wn.none rfl) (rd_move hf rfl rfl) hS rfl rfl ?_)
      clear hf; intro a hf
      refine step_l (st_rdB hf (Wn.none rfl) (rd_geq hf rfl rfl rfl) hS rfl rfl ?_ ?_)
      · clear hf; intro hc2 a hf
        refine step_l (st_rd hf (Wn.none rfl) (rd_move hf rfl rfl) hS rfl rfl ?_)
        clear hf; intro a hf
        refine step_l (st_rd hf (Wn.some hf rfl rfl rfl rfl) (rd_move hf rfl rfl) hS rfl rfl ?_)
        clear hf; intro a hf
        refine step_l (st_rdB hf (Wn.some hf rfl rfl rfl rfl) (rd_leq hf rfl rfl rfl) hS rfl rfl ?_ ?_)
        · clear hf; intro hc3 a hf
          refine step_l (st_rd hf (Wn.none rfl) (rd_pick_t hf rfl rfl rfl) hS rfl rfl ?_)
          clear hf; intro a hf
          refine step_l (st_rd hf (Wn.none rfl) (rd_move hf rfl rfl) hS rfl rfl ?_)
          clear hf; intro a hf
          refine step_l (st_skip hf (Wn.some hf rfl rfl rfl rfl) rfl rfl ?_)
          clear hf; intro a hf
          refine step_l (st_skip hf (Wn.some hf rfl rfl rfl rfl) rfl rfl ?_)
          clear hf; intro a hf
          refine step_l (st_skip hf (Wn.some hf rfl rfl rfl rfl) rfl rfl ?_)
          clear hf; intro a hf
          refine step_l (st_skip hf (Wn.undef hf rfl rfl rfl) rfl rfl ?_)
          clear hf; intro a hf
          refine step_l (st_skip hf (Wn.undef hf rfl rfl rfl) rfl rfl ?_)
          clear hf; intro a hf
          refine step_l (st_skip hf (Wn.some hf rfl rfl rfl rfl) rfl rfl ?_)
          clear hf; intro a hf
          refine step_l (st_rd hf (Wn.none rfl) (rd_pick_t hf rfl rfl rfl) hS rfl rfl ?_)
          clear hf; intro a hf
          refine done_l ?_
          refine t_normal ?_
          refine c_true hf rfl ?_
          refine c_region ?_
          refine step_l (st_rd hf (Wn.none rfl) (rd_move hf rfl rfl) hS rfl rfl ?_)
          clear hf; intro a hf
          refine step_l (st_rd hf (Wn.none rfl) (rd_move hf rfl rfl) hS rfl rfl ?_)
          clear hf; intro a hf
          refine step_l (st_rd hf (Wn.none rfl) (rd_move hf rfl rfl) hS rfl rfl ?_)
          clear hf; intro a hf
          refine step_l (st_rd hf (Wn.none rfl) (rd_move hf rfl rfl) hS rfl rfl ?_)
          clear hf; intro a hf
          refine step_l (st_rd hf (Wn.none rfl) (rd_add hf rfl rfl rfl (by first | exact Go.IntWalk.i64_in _ (by omega) | exact rfl)) hS rfl rfl ?_)
          clear hf; intro a hf
          refine step_l (st_rd hf (Wn.none rfl) (rd_sliceS hf rfl rfl rfl rfl Try.underlying9 (by omega) (by omega) (by omega)) hS rfl rfl ?_)
          clear hf; intro a hf
          refine step_l (st_rd hf (Wn.none rfl) (rd_concat hf rfl rfl rfl (by simp only [List.length_append, List.length_take, List.length_drop, List.length_cons, List.length_nil]; omega)) hS rfl rfl ?_)
          clear hf; intro a hf
          refine step_l (st_rd hf (Wn.none rfl) (rd_assign hf rfl rfl) hS rfl rfl ?_)
          clear hf; intro a hf
          refine done_l ?_
          refine b_normal ?_
          refine t_normal ?_
          refine c_region ?_
          refine step_l (st_rd hf (Wn.none rfl) (rd_add hf rfl rfl rfl (by first | exact Go.IntWalk.i64_in _ (by omega) | exact rfl)) hS rfl rfl ?_)
          clear hf; intro a hf
          refine step_l (st_rd hf (Wn.none rfl) (rd_move hf rfl rfl) hS rfl rfl ?_)
          clear hf; intro a hf
          refine done_l ?_
          refine t_normal ⟨k + 1, ⟨((((hf.k0.kb hf 8 rfl (by first | rfl | exact int_eq (by omega))).kb hf 7 rfl (by first | rfl | exact int_eq (by omega))).kb hf 3 rfl (by refine congrArg (fun l => Value.string (str l)) ?_; rw [take_succ_get hget, textF_snoc]; first | (rw [encF_pos (by unfold plainP; omega), sl1 hget]; done) | (rw [encF_neg (by unfold plainP; omega), sl1 (hexGet (n := c.toNat / 16) (by omega)), sl1 (hexGet (n := c.toNat % 16) (by omega))]; rfl))).kb hf 0 rfl (by first | rfl | exact int_eq (by omega))), hS.sub (by repeat (first | exact Sub.refl | exact Sub.none | (apply Sub.cons; (focus ((repeat (first | exact Sel.head | apply Sel.tail)); done))) | apply Sub.skip)), by omega⟩, by first | omega | (simp only []; omega)⟩
        · clear hf; intro hc3 a hf
          refine step_l (st_rd hf (Wn.none rfl) (rd_pick_t hf rfl rfl rfl) hS rfl rfl ?_)
          clear hf; intro a hf
          refine step_l (st_rd hf (Wn.none rfl) (rd_move hf rfl rfl) hS rfl rfl ?_)
          clear hf; intro a hf
          refine step_l (st_rd hf (Wn.some hf rfl rfl rfl rfl) (rd_move hf rfl rfl) hS rfl rfl ?_)
          clear hf; intro a hf
          refine step_l (st_rdB hf (Wn.some hf rfl rfl rfl rfl) (rd_geq hf rfl rfl rfl) hS rfl rfl ?_ ?_)
          · clear hf; intro hc4 a hf
            refine step_l (st_rd hf (Wn.some hf rfl rfl rfl rfl) (rd_move hf rfl rfl) hS rfl rfl ?_)
            clear hf; intro a hf
            refine step_l (st_rd hf (Wn.some hf rfl rfl rfl rfl) (rd_move hf rfl rfl) hS rfl rfl ?_)
            clear hf; intro a hf
            refine step_l (st_rdB hf (Wn.some hf rfl rfl rfl rfl) (rd_leq hf rfl rfl rfl) hS rfl rfl ?_ ?_)
            · clear hf; intro hc5 a hf
              refine step_l (st_rd hf (Wn.some hf rfl rfl rfl rfl) (rd_pick_t hf rfl rfl rfl) hS rfl rfl ?_)
              clear hf; intro a hf
              refine step_l (st_rd hf (Wn.none rfl) (rd_pick_f hf rfl rfl rfl) hS rfl rfl ?_)
              clear hf; intro a hf
              refine done_l ?_
              refine t_normal ?_
              refine c_true hf rfl ?_
              refine c_region ?_
              refine step_l (st_rd hf (Wn.none rfl) (rd_move hf rfl rfl) hS rfl rfl ?_)
              clear hf; intro a hf
              refine step_l (st_rd hf (Wn.none rfl) (rd_move hf rfl rfl) hS rfl rfl ?_)
              clear hf; intro a hf
              refine step_l (st_rd hf (Wn.none rfl) (rd_move hf rfl rfl) hS rfl rfl ?_)
              clear hf; intro a hf
              refine step_l (st_rd hf (Wn.none rfl) (rd_move hf rfl rfl) hS rfl rfl ?_)
              clear hf; intro a hf
              refine step_l (st_rd hf (Wn.none rfl) (rd_add hf rfl rfl rfl (by first | exact Go.IntWalk.i64_in _ (by omega) | exact rfl)) hS rfl rfl ?_)
              clear hf; intro a hf
              refine step_l (st_rd hf (Wn.none rfl) (rd_sliceS hf rfl rfl rfl rfl Try.underlying9 (by omega) (by omega) (by omega)) hS rfl rfl ?_)
              clear hf; intro a hf
              refine step_l (st_rd hf (Wn.none rfl) (rd_concat hf rfl rfl rfl (by simp only [List.length_append, List.length_take, List.length_drop, List.length_cons, List.length_nil]; omega)) hS rfl rfl ?_)
              clear hf; intro a hf
              refine step_l (st_rd hf (Wn.none rfl) (rd_assign hf rfl rfl) hS rfl rfl ?_)
              clear hf; intro a hf
              refine done_l ?_
              refine b_normal ?_
              refine t_normal ?_
              refine c_region ?_
              refine step_l (st_rd hf (Wn.none rfl) (rd_add hf rfl rfl rfl (by first | exact Go.IntWalk.i64_in _ (by omega) | exact rfl)) hS rfl rfl ?_)
              clear hf; intro a hf
              refine step_l (st_rd hf (Wn.none rfl) (rd_move hf rfl rfl) hS rfl rfl ?_)
              clear hf; intro a hf
              refine done_l ?_
              refine t_normal ⟨k + 1, ⟨((((hf.k0.kb hf 8 rfl (by first | rfl | exact int_eq (by omega))).kb hf 7 rfl (by first | rfl | exact int_eq (by omega))).kb hf 3 rfl (by refine congrArg (fun l => Value.string (str l)) ?_; rw [take_succ_get hget, textF_snoc]; first | (rw [encF_pos (by unfold plainP; omega), sl1 hget]; done) | (rw [encF_neg (by unfold plainP; omega), sl1 (hexGet (n := c.toNat / 16) (by omega)), sl1 (hexGet (n := c.toNat % 16) (by omega))]; rfl))).kb hf 0 rfl (by first | rfl | exact int_eq (by omega))), hS.sub (by repeat (first | exact Sub.refl | exact Sub.none | (apply Sub.cons; (focus ((repeat (first | exact Sel.head | apply Sel.tail)); done))) | apply Sub.skip)), by omega⟩, by first | omega | (simp only []; omega)⟩
            · clear hf; intro hc5 a hf
              refine step_l (st_rd hf (Wn.some hf rfl rfl rfl rfl) (rd_pick_t hf rfl rfl rfl) hS rfl rfl ?_)
              clear hf; intro a hf
              refine step_l (st_rd hf (Wn.none rfl) (rd_pick_f hf rfl rfl rfl) hS rfl rfl ?_)
              clear hf; intro a hf
              refine done_l ?_
              refine t_normal ?_
              refine c_false hf rfl ?_
              refine any_begin mixed hS.drew ?_
              replace hS := hS.drew
              have hT := hS
              refine any_take (i := 0) hf rfl (by kernel_rfl) (by kernel_rfl) (by kernel_rfl) (fun _ _ _ h => h) (Wn.none rfl) (rd_move hf rfl rfl) hT rfl rfl ?_
              clear hf; intro a hf
              refine any_take (i := 1) hf rfl (by kernel_rfl) (by kernel_rfl) (by kernel_rfl) (fun _ _ _ h => h) (Wn.none rfl) (rd_move hf rfl rfl) hT rfl rfl ?_
              clear hf; intro a hf
              refine any_take (i := 2) hf rfl (by kernel_rfl) (by kernel_rfl) (by kernel_rfl) (fun _ _ _ h => h) (Wn.none rfl) (rd_shr hf rfl rfl rfl (by first | decide | omega) (n8_shr4 _)) hT rfl rfl ?_
              clear hf; intro a hf
              refine any_take (i := 3) hf rfl (by kernel_rfl) (by kernel_rfl) (by kernel_rfl) (fun _ _ _ h => h) (Wn.none rfl) (rd_move hf rfl rfl) hT rfl rfl ?_
              clear hf; intro a hf
              refine any_take (i := 4) hf rfl (by kernel_rfl) (by kernel_rfl) (by kernel_rfl) (fun _ _ _ h => h) (Wn.none rfl) (rd_shr hf rfl rfl rfl (by first | decide | omega) (n8_shr4 _)) hT rfl rfl ?_
              clear hf; intro a hf
              refine any_take (i := 5) hf rfl (by kernel_rfl) (by kernel_rfl) (by kernel_rfl) (fun _ _ _ h => h) (Wn.none rfl) (rd_add hf rfl rfl rfl (by first | exact Go.IntWalk.u8_in _ (by omega) | exact rfl)) hT rfl rfl ?_
              clear hf; intro a hf
              refine any_take (i := 6) hf rfl (by kernel_rfl) (by kernel_rfl) (by kernel_rfl) (fun _ _ _ h => h) (Wn.none rfl) (rd_sliceS hf rfl rfl rfl rfl Try.underlying9 (by omega) (by omega) (by simp only [List.length_cons, List.length_nil]; omega)) hT rfl rfl ?_
              clear hf; intro a hf
              refine any_take (i := 7) hf rfl (by kernel_rfl) (by kernel_rfl) (by kernel_rfl) (fun _ _ _ h => h) (Wn.none rfl) (rd_concat hf rfl rfl rfl (by simp only [List.length_append, List.length_take, List.length_drop, List.length_cons, List.length_nil]; omega)) hT rfl rfl ?_
              clear hf; intro a hf
              refine any_take (i := 8) hf rfl (by kernel_rfl) (by kernel_rfl) (by kernel_rfl) (fun _ _ _ h => h) (Wn.none rfl) (rd_move hf rfl rfl) hT rfl rfl ?_
              clear hf; intro a hf
              refine any_take (i := 9) hf rfl (by kernel_rfl) (by kernel_rfl) (by kernel_rfl) (fun _ _ _ h => h) (Wn.none rfl) (rd_and hf rfl rfl rfl (n8_and15 _)) hT rfl rfl ?_
              clear hf; intro a hf
              refine any_take (i := 10) hf rfl (by kernel_rfl) (by kernel_rfl) (by kernel_rfl) (fun _ _ _ h => h) (Wn.none rfl) (rd_move hf rfl rfl) hT rfl rfl ?_
              clear hf; intro a hf
              refine any_take (i := 11) hf rfl (by kernel_rfl) (by kernel_rfl) (by kernel_rfl) (fun _ _ _ h => h) (Wn.none rfl) (rd_and hf rfl rfl rfl (n8_and15 _)) hT rfl rfl ?_
              clear hf; intro a hf
              refine any_take (i := 12) hf rfl (by kernel_rfl) (by kernel_rfl) (by kernel_rfl) (fun _ _ _ h => h) (Wn.none rfl) (rd_add hf rfl rfl rfl (by first | exact Go.IntWalk.u8_in _ (by omega) | exact rfl)) hT rfl rfl ?_
              clear hf; intro a hf
              refine any_take (i := 13) hf rfl (by kernel_rfl) (by kernel_rfl) (by kernel_rfl) (fun _ _ _ h => h) (Wn.none rfl) (rd_sliceS hf rfl rfl rfl rfl Try.underlying9 (by omega) (by omega) (by simp only [List.length_cons, List.length_nil]; omega)) hT rfl rfl ?_
              clear hf; intro a hf
              refine any_take (i := 14) hf rfl (by kernel_rfl) (by kernel_rfl) (by kernel_rfl) (fun _ _ _ h => h) (Wn.none rfl) (rd_concat hf rfl rfl rfl (by simp only [List.length_append, List.length_take, List.length_drop, List.length_cons, List.length_nil]; omega)) hT rfl rfl ?_
              clear hf; intro a hf
              refine any_take (i := 15) hf rfl (by kernel_rfl) (by kernel_rfl) (by kernel_rfl) (fun _ _ _ h => h) (Wn.none rfl) (rd_concat hf rfl rfl rfl (by simp only [List.length_append, List.length_take, List.length_drop, List.length_cons, List.length_nil]; omega)) hT rfl rfl ?_
              clear hf; intro a hf
              refine any_take (i := 16) hf rfl (by kernel_rfl) (by kernel_rfl) (by kernel_rfl) (fun _ _ _ h => h) (Wn.none rfl) (rd_assign hf rfl rfl) hT rfl rfl ?_
              clear hf; intro a hf
              refine any_done (by kernel_rfl) ?_
              refine b_normal ?_
              refine t_normal ?_
              refine c_region ?_
              refine step_l (st_rd hf (Wn.none rfl) (rd_add hf rfl rfl rfl (by first | exact Go.IntWalk.i64_in _ (by omega) | exact rfl)) hS rfl rfl ?_)
              clear hf; intro a hf
              refine step_l (st_rd hf (Wn.none rfl) (rd_move hf rfl rfl) hS rfl rfl ?_)
              clear hf; intro a hf
              refine done_l ?_
              refine t_normal ⟨k + 1, ⟨((((hf.k0.kb hf 8 rfl (by first | rfl | exact int_eq (by omega))).kb hf 7 rfl (by first | rfl | exact int_eq (by omega))).kb hf 3 rfl (by refine congrArg (fun l => Value.string (str l)) ?_; rw [take_succ_get hget, textF_snoc]; first | (rw [encF_pos (by unfold plainP; omega), sl1 hget]; done) | (rw [encF_neg (by unfold plainP; omega), sl1 (hexGet (n := c.toNat / 16) (by omega)), sl1 (hexGet (n := c.toNat % 16) (by omega))]; rfl))).kb hf 0 rfl (by first | rfl | exact int_eq (by omega))), hS.sub (by repeat (first | exact Sub.refl | exact Sub.none | (apply Sub.cons; (focus ((repeat (first | exact Sel.head | apply Sel.tail)); done))) | apply Sub.skip)), by omega⟩, by first | omega | (simp only []; omega)⟩
          · clear hf; intro hc4 a hf
            refine step_l (st_rd hf (Wn.some hf rfl rfl rfl rfl) (rd_move hf rfl rfl) hS rfl rfl ?_)
            clear hf; intro a hf
            refine step_l (st_skip hf (Wn.some hf rfl rfl rfl rfl) rfl rfl ?_)
            clear hf; intro a hf
            refine step_l (st_skip hf (Wn.some hf rfl rfl rfl rfl) rfl rfl ?_)
            clear hf; intro a hf
            refine step_l (st_rd hf (Wn.some hf rfl rfl rfl rfl) (rd_pick_f hf rfl rfl rfl) hS rfl rfl ?_)
            clear hf; intro a hf
            refine step_l (st_rd hf (Wn.none rfl) (rd_pick_f hf rfl rfl rfl) hS rfl rfl ?_)
            clear hf; intro a hf
            refine done_l ?_
            refine t_normal ?_
            refine c_false hf rfl ?_
            refine any_begin mixed hS.drew ?_
            replace hS := hS.drew
            have hT := hS
            refine any_take (i := 0) hf rfl (by kernel_rfl) (by kernel_rfl) (by kernel_rfl) (fun _ _ _ h => h) (Wn.none rfl) (rd_move hf rfl rfl) hT rfl rfl ?_
            clear hf; intro a hf
            refine any_take (i := 1) hf rfl (by kernel_rfl) (by kernel_rfl) (by kernel_rfl) (fun _ _ _ h => h) (Wn.none rfl) (rd_move hf rfl rfl) hT rfl rfl ?_
            clear hf; intro a hf
            refine any_take (i := 2) hf rfl (by kernel_rfl) (by kernel_rfl) (by kernel_rfl) (fun _ _ _ h => h) (Wn.none rfl) (rd_shr hf rfl rfl rfl (by first | decide | omega) (n8_shr4 _)) hT rfl rfl ?_
            clear hf; intro a hf
            refine any_take (i := 3) hf rfl (by kernel_rfl) (by kernel_rfl) (by kernel_rfl) (fun _ _ _ h => h) (Wn.none rfl) (rd_move hf rfl rfl) hT rfl rfl ?_
            clear hf; intro a hf
            refine any_take (i := 4) hf rfl (by kernel_rfl) (by kernel_rfl) (by kernel_rfl) (fun _ _ _ h => h) (Wn.none rfl) (rd_shr hf rfl rfl rfl (by first | decide | omega) (n8_shr4 _)) hT rfl rfl ?_
            clear hf; intro a hf
            refine any_take (i := 5) hf rfl (by kernel_rfl) (by kernel_rfl) (by kernel_rfl) (fun _ _ _ h => h) (Wn.none rfl) (rd_add hf rfl rfl rfl (by first | exact Go.IntWalk.u8_in _ (by omega) | exact rfl)) hT rfl rfl ?_
            clear hf; intro a hf
            refine any_take (i := 6) hf rfl (by kernel_rfl) (by kernel_rfl) (by kernel_rfl) (fun _ _ _ h => h) (Wn.none rfl) (rd_sliceS hf rfl rfl rfl rfl Try.underlying9 (by omega) (by omega) (by simp only [List.length_cons, List.length_nil]; omega)) hT rfl rfl ?_
            clear hf; intro a hf
            refine any_take (i := 7) hf rfl (by kernel_rfl) (by kernel_rfl) (by kernel_rfl) (fun _ _ _ h => h) (Wn.none rfl) (rd_concat hf rfl rfl rfl (by simp only [List.length_append, List.length_take, List.length_drop, List.length_cons, List.length_nil]; omega)) hT rfl rfl ?_
            clear hf; intro a hf
            refine any_take (i := 8) hf rfl (by kernel_rfl) (by kernel_rfl) (by kernel_rfl) (fun _ _ _ h => h) (Wn.none rfl) (rd_move hf rfl rfl) hT rfl rfl ?_
            clear hf; intro a hf
            refine any_take (i := 9) hf rfl (by kernel_rfl) (by kernel_rfl) (by kernel_rfl) (fun _ _ _ h => h) (Wn.none rfl) (rd_and hf rfl rfl rfl (n8_and15 _)) hT rfl rfl ?_
            clear hf; intro a hf
            refine any_take (i := 10) hf rfl (by kernel_rfl) (by kernel_rfl) (by kernel_rfl) (fun _ _ _ h => h) (Wn.none rfl) (rd_move hf rfl rfl) hT rfl rfl ?_
            clear hf; intro a hf
            refine any_take (i := 11) hf rfl (by kernel_rfl) (by kernel_rfl) (by kernel_rfl) (fun _ _ _ h => h) (Wn.none rfl) (rd_and hf rfl rfl rfl (n8_and15 _)) hT rfl rfl ?_
            clear hf; intro a hf
            refine any_take (i := 12) hf rfl (by kernel_rfl) (by kernel_rfl) (by kernel_rfl) (fun _ _ _ h => h) (Wn.none rfl) (rd_add hf rfl rfl rfl (by first | exact Go.IntWalk.u8_in _ (by omega) | exact rfl)) hT rfl rfl ?_
            clear hf; intro a hf
            refine any_take (i := 13) hf rfl (by kernel_rfl) (by kernel_rfl) (by kernel_rfl) (fun _ _ _ h => h) (Wn.none rfl) (rd_sliceS hf rfl rfl rfl rfl Try.underlying9 (by omega) (by omega) (by simp only [List.length_cons, List.length_nil]; omega)) hT rfl rfl ?_
            clear hf; intro a hf
            refine any_take (i := 14) hf rfl (by kernel_rfl) (by kernel_rfl) (by kernel_rfl) (fun _ _ _ h => h) (Wn.none rfl) (rd_concat hf rfl rfl rfl (by simp only [List.length_append, List.length_take, List.length_drop, List.length_cons, List.length_nil]; omega)) hT rfl rfl ?_
            clear hf; intro a hf
            refine any_take (i := 15) hf rfl (by kernel_rfl) (by kernel_rfl) (by kernel_rfl) (fun _ _ _ h => h) (Wn.none rfl) (rd_concat hf rfl rfl rfl (by simp only [List.length_append, List.length_take, List.length_drop, List.length_cons, List.length_nil]; omega)) hT rfl rfl ?_
            clear hf; intro a hf
            refine any_take (i := 16) hf rfl (by kernel_rfl) (by kernel_rfl) (by kernel_rfl) (fun _ _ _ h => h) (Wn.none rfl) (rd_assign hf rfl rfl) hT rfl rfl ?_
            clear hf; intro a hf
            refine any_done (by kernel_rfl) ?_
            refine b_normal ?_
            refine t_normal ?_
            refine c_region ?_
            refine step_l (st_rd hf (Wn.none rfl) (rd_add hf rfl rfl rfl (by first | exact Go.IntWalk.i64_in _ (by omega) | exact rfl)) hS rfl rfl ?_)
            clear hf; intro a hf
            refine step_l (st_rd hf (Wn.none rfl) (rd_move hf rfl rfl) hS rfl rfl ?_)
            clear hf; intro a hf
            refine done_l ?_
            refine t_normal ⟨k + 1, ⟨((((hf.k0.kb hf 8 rfl (by first | rfl | exact int_eq (by omega))).kb hf 7 rfl (by first | rfl | exact int_eq (by omega))).kb hf 3 rfl (by refine congrArg (fun l => Value.string (str l)) ?_; rw [take_succ_get hget, textF_snoc]; first | (rw [encF_pos (by unfold plainP; omega), sl1 hget]; done) | (rw [encF_neg (by unfold plainP; omega), sl1 (hexGet (n := c.toNat / 16) (by omega)), sl1 (hexGet (n := c.toNat % 16) (by omega))]; rfl))).kb hf 0 rfl (by first | rfl | exact int_eq (by omega))), hS.sub (by repeat (first | exact Sub.refl | exact Sub.none | (apply Sub.cons; (focus ((repeat (first | exact Sel.head | apply Sel.tail)); done))) | apply Sub.skip)), by omega⟩, by first | omega | (simp only []; omega)⟩
      · clear hf; intro hc2 a hf
        refine step_l (st_rd hf (Wn.none rfl) (rd_move hf rfl rfl) hS rfl rfl ?_)
        clear hf; intro a hf
        refine step_l (st_skip hf (Wn.some hf rfl rfl rfl rfl) rfl rfl ?_)
        clear hf; intro a hf
        refine step_l (st_skip hf (Wn.some hf rfl rfl rfl rfl) rfl rfl ?_)
        clear hf; intro a hf
        refine step_l (st_rd hf (Wn.none rfl) (rd_pick_f hf rfl rfl rfl) hS rfl rfl ?_)
        clear hf; intro a hf
        refine step_l (st_rd hf (Wn.none rfl) (rd_move hf rfl rfl) hS rfl rfl ?_)
        clear hf; intro a hf
        refine step_l (st_rd hf (Wn.some hf rfl rfl rfl rfl) (rd_move hf rfl rfl) hS rfl rfl ?_)
        clear hf; intro a hf
        refine step_l (st_rdB hf (Wn.some hf rfl rfl rfl rfl) (rd_geq hf rfl rfl rfl) hS rfl rfl ?_ ?_)
        · clear hf; intro hc6 a hf
          refine step_l (st_rd hf (Wn.some hf rfl rfl rfl rfl) (rd_move hf rfl rfl) hS rfl rfl ?_)
          clear hf; intro a hf
          refine step_l (st_rd hf (Wn.some hf rfl rfl rfl rfl) (rd_move hf rfl rfl) hS rfl rfl ?_)
          clear hf; intro a hf
          refine step_l (st_rdB hf (Wn.some hf rfl rfl rfl rfl) (rd_leq hf rfl rfl rfl) hS rfl rfl ?_ ?_)
          · clear hf; intro hc7 a hf
            refine step_l (st_rd hf (Wn.some hf rfl rfl rfl rfl) (rd_pick_t hf rfl rfl rfl) hS rfl rfl ?_)
            clear hf; intro a hf
            refine step_l (st_rd hf (Wn.none rfl) (rd_pick_f hf rfl rfl rfl) hS rfl rfl ?_)
            clear hf; intro a hf
            refine done_l ?_
            refine t_normal ?_
            refine c_true hf rfl ?_
            refine c_region ?_
            refine step_l (st_rd hf (Wn.none rfl) (rd_move hf rfl rfl) hS rfl rfl ?_)
            clear hf; intro a hf
            refine step_l (st_rd hf (Wn.none rfl) (rd_move hf rfl rfl) hS rfl rfl ?_)
            clear hf; intro a hf
            refine step_l (st_rd hf (Wn.none rfl) (rd_move hf rfl rfl) hS rfl rfl ?_)
            clear hf; intro a hf
            refine step_l (st_rd hf (Wn.none rfl) (rd_move hf rfl rfl) hS rfl rfl ?_)
            clear hf; intro a hf
            refine step_l (st_rd hf (Wn.none rfl) (rd_add hf rfl rfl rfl (by first | exact Go.IntWalk.i64_in _ (by omega) | exact rfl)) hS rfl rfl ?_)
            clear hf; intro a hf
            refine step_l (st_rd hf (Wn.none rfl) (rd_sliceS hf rfl rfl rfl rfl Try.underlying9 (by omega) (by omega) (by omega)) hS rfl rfl ?_)
            clear hf; intro a hf
            refine step_l (st_rd hf (Wn.none rfl) (rd_concat hf rfl rfl rfl (by simp only [List.length_append, List.length_take, List.length_drop, List.length_cons, List.length_nil]; omega)) hS rfl rfl ?_)
            clear hf; intro a hf
            refine step_l (st_rd hf (Wn.none rfl) (rd_assign hf rfl rfl) hS rfl rfl ?_)
            clear hf; intro a hf
            refine done_l ?_
            refine b_normal ?_
            refine t_normal ?_
            refine c_region ?_
            refine step_l (st_rd hf (Wn.none rfl) (rd_add hf rfl rfl rfl (by first | exact Go.IntWalk.i64_in _ (by omega) | exact rfl)) hS rfl rfl ?_)
            clear hf; intro a hf
            refine step_l (st_rd hf (Wn.none rfl) (rd_move hf rfl rfl) hS rfl rfl ?_)
            clear hf; intro a hf
            refine done_l ?_
            refine t_normal ⟨k + 1, ⟨((((hf.k0.kb hf 8 rfl (by first | rfl | exact int_eq (by omega))).kb hf 7 rfl (by first | rfl | exact int_eq (by omega))).kb hf 3 rfl (by refine congrArg (fun l => Value.string (str l)) ?_; rw [take_succ_get hget, textF_snoc]; first | (rw [encF_pos (by unfold plainP; omega), sl1 hget]; done) | (rw [encF_neg (by unfold plainP; omega), sl1 (hexGet (n := c.toNat / 16) (by omega)), sl1 (hexGet (n := c.toNat % 16) (by omega))]; rfl))).kb hf 0 rfl (by first | rfl | exact int_eq (by omega))), hS.sub (by repeat (first | exact Sub.refl | exact Sub.none | (apply Sub.cons; (focus ((repeat (first | exact Sel.head | apply Sel.tail)); done))) | apply Sub.skip)), by omega⟩, by first | omega | (simp only []; omega)⟩
          · clear hf; intro hc7 a hf
            refine step_l (st_rd hf (Wn.some hf rfl rfl rfl rfl) (rd_pick_t hf rfl rfl rfl) hS rfl rfl ?_)
            clear hf; intro a hf
            refine step_l (st_rd hf (Wn.none rfl) (rd_pick_f hf rfl rfl rfl) hS rfl rfl ?_)
            clear hf; intro a hf
            refine done_l ?_
            refine t_normal ?_
            refine c_false hf rfl ?_
            refine any_begin mixed hS.drew ?_
            replace hS := hS.drew
            have hT := hS
            refine any_take (i := 0) hf rfl (by kernel_rfl) (by kernel_rfl) (by kernel_rfl) (fun _ _ _ h => h) (Wn.none rfl) (rd_move hf rfl rfl) hT rfl rfl ?_
            clear hf; intro a hf
            refine any_take (i := 1) hf rfl (by kernel_rfl) (by kernel_rfl) (by kernel_rfl) (fun _ _ _ h => h) (Wn.none rfl) (rd_move hf rfl rfl) hT rfl rfl ?_
            clear hf; intro a hf
            refine any_take (i := 2) hf rfl (by kernel_rfl) (by kernel_rfl) (by kernel_rfl) (fun _ _ _ h => h) (Wn.none rfl) (rd_shr hf rfl rfl rfl (by first | decide | omega) (n8_shr4 _)) hT rfl rfl ?_
            clear hf; intro a hf
            refine any_take (i := 3) hf rfl (by kernel_rfl) (by kernel_rfl) (by kernel_rfl) (fun _ _ _ h => h) (Wn.none rfl) (rd_move hf rfl rfl) hT rfl rfl ?_
            clear hf; intro a hf
            refine any_take (i := 4) hf rfl (by kernel_rfl) (by kernel_rfl) (by kernel_rfl) (fun _ _ _ h => h) (Wn.none rfl) (rd_shr hf rfl rfl rfl (by first | decide | omega) (n8_shr4 _)) hT rfl rfl ?_
            clear hf; intro a hf
            refine any_take (i := 5) hf rfl (by kernel_rfl) (by kernel_rfl) (by kernel_rfl) (fun _ _ _ h => h) (Wn.none rfl) (rd_add hf rfl rfl rfl (by first | exact Go.IntWalk.u8_in _ (by omega) | exact rfl)) hT rfl rfl ?_
            clear hf; intro a hf
            refine any_take (i := 6) hf rfl (by kernel_rfl) (by kernel_rfl) (by kernel_rfl) (fun _ _ _ h => h) (Wn.none rfl) (rd_sliceS hf rfl rfl rfl rfl Try.underlying9 (by omega) (by omega) (by simp only [List.length_cons, List.length_nil]; omega)) hT rfl rfl ?_
            clear hf; intro a hf
            refine any_take (i := 7) hf rfl (by kernel_rfl) (by kernel_rfl) (by kernel_rfl) (fun _ _ _ h => h) (Wn.none rfl) (rd_concat hf rfl rfl rfl (by simp only [List.length_append, List.length_take, List.length_drop, List.length_cons, List.length_nil]; omega)) hT rfl rfl ?_
            clear hf; intro a hf
            refine any_take (i := 8) hf rfl (by kernel_rfl) (by kernel_rfl) (by kernel_rfl) (fun _ _ _ h => h) (Wn.none rfl) (rd_move hf rfl rfl) hT rfl rfl ?_
            clear hf; intro a hf
            refine any_take (i := 9) hf rfl (by kernel_rfl) (by kernel_rfl) (by kernel_rfl) (fun _ _ _ h => h) (Wn.none rfl) (rd_and hf rfl rfl rfl (n8_and15 _)) hT rfl rfl ?_
            clear hf; intro a hf
            refine any_take (i := 10) hf rfl (by kernel_rfl) (by kernel_rfl) (by kernel_rfl) (fun _ _ _ h => h) (Wn.none rfl) (rd_move hf rfl rfl) hT rfl rfl ?_
            clear hf; intro a hf
            refine any_take (i := 11) hf rfl (by kernel_rfl) (by kernel_rfl) (by kernel_rfl) (fun _ _ _ h => h) (Wn.none rfl) (rd_and hf rfl rfl rfl (n8_and15 _)) hT rfl rfl ?_
            clear hf; intro a hf
            refine any_take (i := 12) hf rfl (by kernel_rfl) (by kernel_rfl) (by kernel_rfl) (fun _ _ _ h => h) (Wn.none rfl) (rd_add hf rfl rfl rfl (by first | exact Go.IntWalk.u8_in _ (by omega) | exact rfl)) hT rfl rfl ?_
            clear hf; intro a hf
            refine any_take (i := 13) hf rfl (by kernel_rfl) (by kernel_rfl) (by kernel_rfl) (fun _ _ _ h => h) (Wn.none rfl) (rd_sliceS hf rfl rfl rfl rfl Try.underlying9 (by omega) (by omega) (by simp only [List.length_cons, List.length_nil]; omega)) hT rfl rfl ?_
            clear hf; intro a hf
            refine any_take (i := 14) hf rfl (by kernel_rfl) (by kernel_rfl) (by kernel_rfl) (fun _ _ _ h => h) (Wn.none rfl) (rd_concat hf rfl rfl rfl (by simp only [List.length_append, List.length_take, List.length_drop, List.length_cons, List.length_nil]; omega)) hT rfl rfl ?_
            clear hf; intro a hf
            refine any_take (i := 15) hf rfl (by kernel_rfl) (by kernel_rfl) (by kernel_rfl) (fun _ _ _ h => h) (Wn.none rfl) (rd_concat hf rfl rfl rfl (by simp only [List.length_append, List.length_take, List.length_drop, List.length_cons, List.length_nil]; omega)) hT rfl rfl ?_
            clear hf; intro a hf
            refine any_take (i := 16) hf rfl (by kernel_rfl) (by kernel_rfl) (by kernel_rfl) (fun _ _ _ h => h) (Wn.none rfl) (rd_assign hf rfl rfl) hT rfl rfl ?_
            clear hf; intro a hf
            refine any_done (by kernel_rfl) ?_
            refine b_normal ?_
            refine t_normal ?_
            refine c_region ?_
            refine step_l (st_rd hf (Wn.none rfl) (rd_add hf rfl rfl rfl (by first | exact Go.IntWalk.i64_in _ (by omega) | exact rfl)) hS rfl rfl ?_)
            clear hf; intro a hf
            refine step_l (st_rd hf (Wn.none rfl) (rd_move hf rfl rfl) hS rfl rfl ?_)
            clear hf; intro a hf
            refine done_l ?_
            refine t_normal ⟨k + 1, ⟨((((hf.k0.kb hf 8 rfl (by first | rfl | exact int_eq (by omega))).kb hf 7 rfl (by first | rfl | exact int_eq (by omega))).kb hf 3 rfl (by refine congrArg (fun l => Value.string (str l)) ?_; rw [take_succ_get hget, textF_snoc]; first | (rw [encF_pos (by unfold plainP; omega), sl1 hget]; done) | (rw [encF_neg (by unfold plainP; omega), sl1 (hexGet (n := c.toNat / 16) (by omega)), sl1 (hexGet (n := c.toNat % 16) (by omega))]; rfl))).kb hf 0 rfl (by first | rfl | exact int_eq (by omega))), hS.sub (by repeat (first | exact Sub.refl | exact Sub.none | (apply Sub.cons; (focus ((repeat (first | exact Sel.head | apply Sel.tail)); done))) | apply Sub.skip)), by omega⟩, by first | omega | (simp only []; omega)⟩
        · clear hf; intro hc6 a hf
          refine step_l (st_rd hf (Wn.some hf rfl rfl rfl rfl) (rd_move hf rfl rfl) hS rfl rfl ?_)
          clear hf; intro a hf
          refine step_l (st_skip hf (Wn.some hf rfl rfl rfl rfl) rfl rfl ?_)
          clear hf; intro a hf
          refine step_l (st_skip hf (Wn.some hf rfl rfl rfl rfl) rfl rfl ?_)
          clear hf; intro a hf
          refine step_l (st_rd hf (Wn.some hf rfl rfl rfl rfl) (rd_pick_f hf rfl rfl rfl) hS rfl rfl ?_)
          clear hf; intro a hf
          refine step_l (st_rd hf (Wn.none rfl) (rd_pick_f hf rfl rfl rfl) hS rfl rfl ?_)
          clear hf; intro a hf
          refine done_l ?_
          refine t_normal ?_
          refine c_false hf rfl ?_
          refine any_begin mixed hS.drew ?_
          replace hS := hS.drew
          have hT := hS
          refine any_take (i := 0) hf rfl (by kernel_rfl) (by kernel_rfl) (by kernel_rfl) (fun _ _ _ h => h) (Wn.none rfl) (rd_move hf rfl rfl) hT rfl rfl ?_
          clear hf; intro a hf
          refine any_take (i := 1) hf rfl (by kernel_rfl) (by kernel_rfl) (by kernel_rfl) (fun _ _ _ h => h) (Wn.none rfl) (rd_move hf rfl rfl) hT rfl rfl ?_
          clear hf; intro a hf
          refine any_take (i := 2) hf rfl (by kernel_rfl) (by kernel_rfl) (by kernel_rfl) (fun _ _ _ h => h) (Wn.none rfl) (rd_shr hf rfl rfl rfl (by first | decide | omega) (n8_shr4 _)) hT rfl rfl ?_
          clear hf; intro a hf
          refine any_take (i := 3) hf rfl (by kernel_rfl) (by kernel_rfl) (by kernel_rfl) (fun _ _ _ h => h) (Wn.none rfl) (rd_move hf rfl rfl) hT rfl rfl ?_
          clear hf; intro a hf
          refine any_take (i := 4) hf rfl (by kernel_rfl) (by kernel_rfl) (by kernel_rfl) (fun _ _ _ h => h) (Wn.none rfl) (rd_shr hf rfl rfl rfl (by first | decide | omega) (n8_shr4 _)) hT rfl rfl ?_
          clear hf; intro a hf
          refine any_take (i := 5) hf rfl (by kernel_rfl) (by kernel_rfl) (by kernel_rfl) (fun _ _ _ h => h) (Wn.none rfl) (rd_add hf rfl rfl rfl (by first | exact Go.IntWalk.u8_in _ (by omega) | exact rfl)) hT rfl rfl ?_
          clear hf; intro a hf
          refine any_take (i := 6) hf rfl (by kernel_rfl) (by kernel_rfl) (by kernel_rfl) (fun _ _ _ h => h) (Wn.none rfl) (rd_sliceS hf rfl rfl rfl rfl Try.underlying9 (by omega) (by omega) (by simp only [List.length_cons, List.length_nil]; omega)) hT rfl rfl ?_
          clear hf; intro a hf
          refine any_take (i := 7) hf rfl (by kernel_rfl) (by kernel_rfl) (by kernel_rfl) (fun _ _ _ h => h) (Wn.none rfl) (rd_concat hf rfl rfl rfl (by simp only [List.length_append, List.length_take, List.length_drop, List.length_cons, List.length_nil]; omega)) hT rfl rfl ?_
          clear hf; intro a hf
          refine any_take (i := 8) hf rfl (by kernel_rfl) (by kernel_rfl) (by kernel_rfl) (fun _ _ _ h => h) (Wn.none rfl) (rd_move hf rfl rfl) hT rfl rfl ?_
          clear hf; intro a hf
          refine any_take (i := 9) hf rfl (by kernel_rfl) (by kernel_rfl) (by kernel_rfl) (fun _ _ _ h => h) (Wn.none rfl) (rd_and hf rfl rfl rfl (n8_and15 _)) hT rfl rfl ?_
          clear hf; intro a hf
          refine any_take (i := 10) hf rfl (by kernel_rfl) (by kernel_rfl) (by kernel_rfl) (fun _ _ _ h => h) (Wn.none rfl) (rd_move hf rfl rfl) hT rfl rfl ?_
          clear hf; intro a hf
          refine any_take (i := 11) hf rfl (by kernel_rfl) (by kernel_rfl) (by kernel_rfl) (fun _ _ _ h => h) (Wn.none rfl) (rd_and hf rfl rfl rfl (n8_and15 _)) hT rfl rfl ?_
          clear hf; intro a hf
          refine any_take (i := 12) hf rfl (by kernel_rfl) (by kernel_rfl) (by kernel_rfl) (fun _ _ _ h => h) (Wn.none rfl) (rd_add hf rfl rfl rfl (by first | exact Go.IntWalk.u8_in _ (by omega) | exact rfl)) hT rfl rfl ?_
          clear hf; intro a hf
          refine any_take (i := 13) hf rfl (by kernel_rfl) (by kernel_rfl) (by kernel_rfl) (fun _ _ _ h => h) (Wn.none rfl) (rd_sliceS hf rfl rfl rfl rfl Try.underlying9 (by omega) (by omega) (by simp only [List.length_cons, List.length_nil]; omega)) hT rfl rfl ?_
          clear hf; intro a hf
          refine any_take (i := 14) hf rfl (by kernel_rfl) (by kernel_rfl) (by kernel_rfl) (fun _ _ _ h => h) (Wn.none rfl) (rd_concat hf rfl rfl rfl (by simp only [List.length_append, List.length_take, List.length_drop, List.length_cons, List.length_nil]; omega)) hT rfl rfl ?_
          clear hf; intro a hf
          refine any_take (i := 15) hf rfl (by kernel_rfl) (by kernel_rfl) (by kernel_rfl) (fun _ _ _ h => h) (Wn.none rfl) (rd_concat hf rfl rfl rfl (by simp only [List.length_append, List.length_take, List.length_drop, List.length_cons, List.length_nil]; omega)) hT rfl rfl ?_
          clear hf; intro a hf
          refine any_take (i := 16) hf rfl (by kernel_rfl) (by kernel_rfl) (by kernel_rfl) (fun _ _ _ h => h) (Wn.none rfl) (rd_assign hf rfl rfl) hT rfl rfl ?_
          clear hf; intro a hf
          refine any_done (by kernel_rfl) ?_
          refine b_normal ?_
          refine t_normal ?_
          refine c_region ?_
          refine step_l (st_rd hf (Wn.none rfl) (rd_add hf rfl rfl rfl (by first | exact Go.IntWalk.i64_in _ (by omega) | exact rfl)) hS rfl rfl ?_)
          clear hf; intro a hf
          refine step_l (st_rd hf (Wn.none rfl) (rd_move hf rfl rfl) hS rfl rfl ?_)
          clear hf; intro a hf
          refine done_l ?_
          refine t_normal ⟨k + 1, ⟨((((hf.k0.kb hf 8 rfl (by first | rfl | exact int_eq (by omega))).kb hf 7 rfl (by first | rfl | exact int_eq (by omega))).kb hf 3 rfl (by refine congrArg (fun l => Value.string (str l)) ?_; rw [take_succ_get hget, textF_snoc]; first | (rw [encF_pos (by unfold plainP; omega), sl1 hget]; done) | (rw [encF_neg (by unfold plainP; omega), sl1 (hexGet (n := c.toNat / 16) (by omega)), sl1 (hexGet (n := c.toNat % 16) (by omega))]; rfl))).kb hf 0 rfl (by first | rfl | exact int_eq (by omega))), hS.sub (by repeat (first | exact Sub.refl | exact Sub.none | (apply Sub.cons; (focus ((repeat (first | exact Sel.head | apply Sel.tail)); done))) | apply Sub.skip)), by omega⟩, by first | omega | (simp only []; omega)⟩
    · clear hf; intro hc1 a hf
      refine done_l ?_
      refine t_normal ?_
      refine c_seq ?_
      refine c_false hf rfl ?_
      refine c_exit ?_
      refine t_exit ?_
      refine t_exit ?_
      refine b_exit ?_
      refine t_normal ?_
      refine c_seq ?_
      refine c_region ?_
      refine step_l (st_rd hf (Wn.none rfl) (rd_move hf rfl rfl) hS rfl rfl ?_)
      clear hf; intro a hf
      refine step_l (st_rd hf (Wn.none rfl) (rd_assign hf rfl rfl) hS rfl rfl ?_)
      clear hf; intro a hf
      refine done_l ?_
      refine t_normal ?_
      refine c_ret ?_
      refine e_res1 hf.defers rfl (res_tmp hf rfl .nil) ?_
      refine ⟨?_, hS.sub (by repeat (first | exact Sub.refl | exact Sub.none | (apply Sub.cons; (focus ((repeat (first | exact Sel.head | apply Sel.tail)); done))) | apply Sub.skip))⟩
      clear hf hS
      rw [List.take_of_length_le (by omega)]

def escF (x y : UInt8) : UInt8 := UInt8.ofNat (digF x * 16 + digF y).toNat
def parseF : List UInt8 → Option (List UInt8)
  | [] => some []
  | c :: r => if plainP c then (parseF r).map (c :: ·) else if c.toNat ≠ 37 then none else
    match r with
    | x :: y :: r' => if digF x < 0 ∨ digF y < 0 then none else if plainP (escF x y) then none else (parseF r').map (escF x y :: ·)
    | _ => none
theorem parse_cons (c : UInt8) (r : List UInt8) : parseF (c :: r) = if plainP c then (parseF r).map (c :: ·) else if c.toNat ≠ 37 then none else
    match r with
    | x :: y :: r' => if digF x < 0 ∨ digF y < 0 then none else if plainP (escF x y) then none else (parseF r').map (escF x y :: ·)
    | _ => none := by
  conv => lhs; unfold parseF
def resP : Option (List UInt8) → Value
  | some k => .tuple #[.string (str k), .bool true]
  | none => .tuple #[.string (str []), .bool false]
theorem drop_get {α : Type} {s : List α} {i : Nat} {c : α} (h : s[i]? = some c) : s.drop i = c :: s.drop (i + 1) := by
  obtain ⟨h1, h2⟩ := List.getElem?_eq_some_iff.1 h
  rw [List.drop_eq_getElem_cons h1, h2]
theorem parse_plain {s : List UInt8} {i : Nat} {c : UInt8} (h : s[i]? = some c) (hp : plainP c) : parseF (s.drop i) = (parseF (s.drop (i + 1))).map (c :: ·) := by
  rw [drop_get h, parse_cons, if_pos hp]
theorem parse_bad1 {s : List UInt8} {i : Nat} {c : UInt8} (h : s[i]? = some c) (hp : ¬ plainP c) (h2 : c.toNat ≠ 37) : parseF (s.drop i) = none := by
  rw [drop_get h, parse_cons, if_neg hp, if_pos h2]
theorem parse_bad2 {s : List UInt8} {i : Nat} {c : UInt8} (h : s[i]? = some c) (hp : ¬ plainP c) (h2 : s.length ≤ i + 2) : parseF (s.drop i) = none := by
  rw [drop_get h, parse_cons, if_neg hp]
  split
  · rfl
  · cases hd : s.drop (i + 1) with
    | nil => rfl
    | cons x r =>
      cases r with
      | nil => rfl
      | cons y r =>
        have := congrArg List.length hd
        simp at this
        omega
theorem parse_esc {s : List UInt8} {i : Nat} {c x y : UInt8} (h : s[i]? = some c) (hp : ¬ plainP c) (h37 : ¬ c.toNat ≠ 37) (h1 : s[i + 1]? = some x) (h2 : s[i + 2]? = some y) :
    parseF (s.drop i) = if digF x < 0 ∨ digF y < 0 then none else if plainP (escF x y) then none else (parseF (s.drop (i + 3))).map (escF x y :: ·) := by
  rw [drop_get h, parse_cons, if_neg hp, if_neg h37, drop_get h1, drop_get h2]
theorem or16 {a b : Int} (ha : 0 ≤ a ∧ a ≤ 15) (hb : 0 ≤ b ∧ b ≤ 15) : IntKind.i64.wrap ((BitVec.ofInt IntKind.i64.bits (a * 16) ||| BitVec.ofInt IntKind.i64.bits b).toNat : Nat) = a * 16 + b := by
  have key : ∀ p q : Fin 16, IntKind.i64.wrap ((BitVec.ofInt 64 ((p.val : Int) * 16) ||| BitVec.ofInt 64 (q.val : Int)).toNat : Nat) = (p.val : Int) * 16 + q.val := by decide +kernel
  obtain ⟨p, rfl⟩ := Int.eq_ofNat_of_zero_le ha.1
  obtain ⟨q, rfl⟩ := Int.eq_ofNat_of_zero_le hb.1
  exact key ⟨p, by omega⟩ ⟨q, by omega⟩
theorem shl4 {a : Int} (ha : 0 ≤ a ∧ a ≤ 15) : IntKind.i64.wrap (a * 2 ^ (min (4 : Int).toNat IntKind.i64.bits)) = a * 16 := by
  rw [show min (4 : Int).toNat IntKind.i64.bits = 4 from rfl, show a * 2 ^ 4 = a * 16 from rfl]
  exact Go.IntWalk.i64_in _ (by omega)
theorem byte_of {p : Int} (h : 0 ≤ p ∧ p ≤ 255) : IntKind.u8.wrap p = ((UInt8.ofNat p.toNat).toNat : Nat) := by
  obtain ⟨q, rfl⟩ := Int.eq_ofNat_of_zero_le h.1
  exact n8_wrap q
theorem digF_le (c : UInt8) : digF c ≤ 15 := by unfold digF; split <;> (try split) <;> omega
theorem toNat_c1 (i : Nat) : ((i : Int) + 1).toNat = i + 1 := by omega
theorem toNat_c2 (i : Nat) : ((i : Int) + 2).toNat = i + 2 := by omega
theorem map_app (o : Option (List UInt8)) (out : List UInt8) (c : UInt8) : (o.map (c :: ·)).map (out ++ ·) = o.map ((out ++ [c]) ++ ·) := by cases o <;> simp

theorem Parse_c (bs : List UInt8) {W : World} {R : List HP} {w : World} (hb : bs.length ≤ 140737488351232) (hS : Sat W R w) : Calls Try.prog 31 [.string (str bs)].toArray w (Ret fun v w' => v = resP (parseF bs) ∧ Sat W R w') := by
  refine fn_start 73 Try.func31 rfl rfl rfl ?_
  intro a hf
  refine c_seq ?_
  refine c_region ?_
  refine step_l (st_rd hf (Wn.none rfl) (rd_assign hf rfl rfl) hS rfl rfl ?_)
  clear hf; intro a hf
  refine step_l (st_rd hf (Wn.none rfl) (rd_assign hf rfl rfl) hS rfl rfl ?_)
  clear hf; intro a hf
  refine done_l ?_
  refine t_normal ?_
  refine c_seq ?_
  refine c_region ?_
  refine step_l (st_rd hf (Wn.none rfl) (rd_assign hf rfl rfl) hS rfl rfl ?_)
  clear hf; intro a hf
  refine done_l ?_
  refine t_normal ?_
  refine c_seq ?_
  refine c_seq ?_
  refine c_region ?_
  refine step_l (st_rd hf (Wn.none rfl) (rd_assign hf rfl rfl) hS rfl rfl ?_)
  clear hf; intro a hf
  refine done_l ?_
  refine t_normal ?_
  refine c_block ?_
  refine c_loop (α := Nat × List UInt8 × Option Addr × Nat × Nat) (fun ⟨i, out, p, len, cap⟩ a w => Fits 73 a [(0, .string (str bs)), (2, .string (str [])), (3, .bool false), (4, .slice p len cap), (5, .int .i64 (i : Nat))] ∧ Sat W (Rw 5 1 p len cap (bvs out) :: R) w ∧ i ≤ bs.length ∧ len = out.length ∧ out.length ≤ i ∧ parseF bs = (parseF (bs.drop i)).map (out ++ ·)) (fun ⟨i, out, p, len, cap⟩ => bs.length - i) (0, [], none, 0, 0) ?_ ?_
  · exact ⟨(((((hf.k0.kb hf 5 rfl (by rfl)).kb hf 4 rfl (by rfl)).kb hf 3 rfl (by rfl)).kb hf 2 rfl (by rfl)).kb hf 0 rfl (by rfl)), (hS.rwNil 5 1).sub (by repeat (first | exact Sub.refl | exact Sub.none | (apply Sub.cons; (focus ((repeat (first | exact Sel.head | apply Sel.tail)); done))) | apply Sub.skip)), ⟨Nat.zero_le _, rfl, Nat.le_refl _, by simp⟩⟩
  · clear hf hS; rintro ⟨i, out, p, len, cap⟩ a w ⟨hf, hS, ⟨hi, hlen, hout, hpar⟩⟩
    refine c_seq ?_
    refine c_seq ?_
    refine c_region ?_
    refine step_l (st_rd hf (Wn.none rfl) (rd_move hf rfl rfl) hS rfl rfl ?_)
    clear hf; intro a hf
    refine step_l (st_rd hf (Wn.none rfl) (rd_move hf rfl rfl) hS rfl rfl ?_)
    clear hf; intro a hf
    refine step_l (st_rd hf (Wn.none rfl) (rd_lenS hf rfl rfl Try.underlying9) hS rfl rfl ?_)
    clear hf; intro a hf
    refine step_l (st_rdB hf (Wn.none rfl) (rd_lss hf rfl rfl rfl) hS rfl rfl ?_ ?_)
    · clear hf; intro hc1 a hf
      obtain ⟨c, hget⟩ := get_of_lt (l := bs) (k := i) (by omega) rfl; have hcb := c.toNat_lt
      refine done_l ?_
      refine t_normal ?_
      refine c_true hf rfl ?_
      refine c_skip ?_
      refine t_normal ?_
      refine c_seq ?_
      refine c_block ?_
      refine c_seq ?_
      refine c_seq ?_
      refine c_region ?_
      refine step_l (st_rd hf (Wn.none rfl) (rd_move hf rfl rfl) hS rfl rfl ?_)
      clear hf; intro a hf
      refine step_l (st_rd hf (Wn.none rfl) (rd_move hf rfl rfl) hS rfl rfl ?_)
      clear hf; intro a hf
      refine step_l (st_rd hf (Wn.none rfl) (rd_indexS hf rfl rfl rfl Try.underlying9 (by omega) (by simp only [Int.toNat_natCast, toNat_c1, toNat_c2]; assumption)) hS rfl rfl ?_)
      clear hf; intro a hf
      refine step_l (st_call hf (Wn.none rfl) rfl rfl rfl fn43 (plain_c _  hS) rfl rfl ?_)
      clear hf hS; rintro v a w ⟨rfl, hS⟩ hf
      first | refine split_dec (d := 16) hf rfl ?_ ?_ | refine split_bool (d := 16) hf rfl ?_ ?_
      · clear hf; intro hc2 hf
        refine done_l ?_
        refine t_normal ?_
        refine c_true hf rfl ?_
        refine c_seq ?_
        refine c_region ?_
        refine step_l (st_rd hf (Wn.none rfl) (rd_move hf rfl rfl) hS rfl rfl ?_)
        clear hf; intro a hf
        refine step_l (st_rd hf (Wn.none rfl) (rd_move hf rfl rfl) hS rfl rfl ?_)
        clear hf; intro a hf
        refine step_l (st_rd hf (Wn.none rfl) (rd_move hf rfl rfl) hS rfl rfl ?_)
        clear hf; intro a hf
        refine step_l (st_rd hf (Wn.none rfl) (rd_indexS hf rfl rfl rfl Try.underlying9 (by omega) (by simp only [Int.toNat_natCast, toNat_c1, toNat_c2]; assumption)) hS rfl rfl ?_)
        clear hf; intro a hf
        refine step_l (st_buildSlice hf (Wn.none rfl) hS rfl rfl Try.underlying36 sz5 zr5 (by decide) bz5_1 rfl (.cons rfl (by rfl) (by rfl) (by repeat (first | exact Put.nil | apply Put.cons | apply Put.succ)) .nil) rfl rfl ?_)
        clear hf hS; intro b_3 a w hf hS
        refine step_l (st_append hf (Wn.none rfl) rfl rfl rfl Try.underlying36 tyb5 (by rfl) (by decide) hS (by repeat (first | exact Sel.head | apply Sel.tail)) (by first | exact hS.slOfBlk (by repeat (first | exact Sel.head | apply Sel.tail)) (by rfl) | exact hS.slOfBlkPre (by repeat (first | exact Sel.head | apply Sel.tail)) (bvs_len1 _) | exact hS.slOfRw (by repeat (first | exact Sel.head | apply Sel.tail)) | exact SlAt.nil _ _ _) (by first | rfl | exact bvs_one _ | (simp [Value.oneCell']; done)) (by omega) rfl rfl ?_)
        clear hf hS; intro pA capA a w hf hS hnilA
        refine step_l (st_rd hf (Wn.none rfl) (rd_assign hf rfl rfl) hS rfl rfl ?_)
        clear hf; intro a hf
        refine done_l ?_
        refine t_normal ?_
        refine c_exit ?_
        refine t_exit ?_
        refine b_exit ?_
        refine t_normal ?_
        refine c_region ?_
        refine step_l (st_rd hf (Wn.none rfl) (rd_move hf rfl rfl) hS rfl rfl ?_)
        clear hf; intro a hf
        refine step_l (st_rd hf (Wn.none rfl) (rd_add hf rfl rfl rfl (by first | exact Go.IntWalk.i64_in _ (by omega) | exact rfl)) hS rfl rfl ?_)
        clear hf; intro a hf
        refine step_l (st_rd hf (Wn.none rfl) (rd_assign hf rfl rfl) hS rfl rfl ?_)
        clear hf; intro a hf
        refine done_l ?_
        refine t_normal ⟨(i + 1, out ++ [c], pA, len + 1, capA), ⟨(((((hf.k0.kb hf 5 rfl (by first | rfl | exact int_eq (by omega))).kb hf 4 rfl (by rfl)).kb hf 3 rfl (by first | rfl | exact int_eq (by omega))).kb hf 2 rfl (by first | rfl | exact int_eq (by omega))).kb hf 0 rfl (by first | rfl | exact int_eq (by omega))), (hS.rwCast (xs' := bvs (out ++ [c])) (by simp) rfl).sub (by repeat (first | exact Sub.refl | exact Sub.none | (apply Sub.cons; (focus ((repeat (first | exact Sel.head | apply Sel.tail)); done))) | apply Sub.skip)), ⟨by omega, by simp [hlen], by simp; omega, by rw [hpar, parse_plain hget (by assumption), map_app]⟩⟩, by first | omega | (simp only []; omega)⟩
      · clear hf; intro hc2 hf
        refine done_l ?_
        refine t_normal ?_
        refine c_false hf rfl ?_
        refine c_skip ?_
        refine t_normal ?_
        refine c_seq ?_
        refine c_seq ?_
        refine c_region ?_
        refine step_l (st_rd hf (Wn.none rfl) (rd_move hf rfl rfl) hS rfl rfl ?_)
        clear hf; intro a hf
        refine step_l (st_rd hf (Wn.none rfl) (rd_move hf rfl rfl) hS rfl rfl ?_)
        clear hf; intro a hf
        refine step_l (st_rd hf (Wn.none rfl) (rd_indexS hf rfl rfl rfl Try.underlying9 (by omega) (by simp only [Int.toNat_natCast, toNat_c1, toNat_c2]; assumption)) hS rfl rfl ?_)
        clear hf; intro a hf
        refine step_l (st_rdB hf (Wn.none rfl) (rd_neq hf rfl rfl rfl) hS rfl rfl ?_ ?_)
        · clear hf; intro hc5 a hf
          refine step_l (st_rd hf (Wn.none rfl) (rd_move hf rfl rfl) hS rfl rfl ?_)
          clear hf; intro a hf
          refine step_l (st_skip hf (Wn.some hf rfl rfl rfl rfl) rfl rfl ?_)
          clear hf; intro a hf
          refine step_l (st_skip hf (Wn.some hf rfl rfl rfl rfl) rfl rfl ?_)
          clear hf; intro a hf
          refine step_l (st_skip hf (Wn.some hf rfl rfl rfl rfl) rfl rfl ?_)
          clear hf; intro a hf
          refine step_l (st_skip hf (Wn.some hf rfl rfl rfl rfl) rfl rfl ?_)
          clear hf; intro a hf
          refine step_l (st_skip hf (Wn.some hf rfl rfl rfl rfl) rfl rfl ?_)
          clear hf; intro a hf
          refine step_l (st_rd hf (Wn.none rfl) (rd_pick_t hf rfl rfl rfl) hS rfl rfl ?_)
          clear hf; intro a hf
          refine step_l (st_rd hf (Wn.none rfl) (rd_move hf rfl rfl) hS rfl rfl ?_)
          clear hf; intro a hf
          refine step_l (st_skip hf (Wn.some hf rfl rfl rfl rfl) rfl rfl ?_)
          clear hf; intro a hf
          refine step_l (st_skip hf (Wn.some hf rfl rfl rfl rfl) rfl rfl ?_)
          clear hf; intro a hf
          refine step_l (st_skip hf (Wn.some hf rfl rfl rfl rfl) rfl rfl ?_)
          clear hf; intro a hf
          refine step_l (st_skip hf (Wn.some hf rfl rfl rfl rfl) rfl rfl ?_)
          clear hf; intro a hf
          refine step_l (st_skip hf (Wn.some hf rfl rfl rfl rfl) rfl rfl ?_)
          clear hf; intro a hf
          refine step_l (st_skip hf (Wn.some hf rfl rfl rfl rfl) rfl rfl ?_)
          clear hf; intro a hf
          refine step_l (st_rd hf (Wn.none rfl) (rd_pick_t hf rfl rfl rfl) hS rfl rfl ?_)
          clear hf; intro a hf
          refine step_l (st_rd hf (Wn.none rfl) (rd_move hf rfl rfl) hS rfl rfl ?_)
          clear hf; intro a hf
          refine step_l (st_skip hf (Wn.some hf rfl rfl rfl rfl) rfl rfl ?_)
          clear hf; intro a hf
          refine step_l (st_skip hf (Wn.some hf rfl rfl rfl rfl) rfl rfl ?_)
          clear hf; intro a hf
          refine step_l (st_skip hf (Wn.some hf rfl rfl rfl rfl) rfl rfl ?_)
          clear hf; intro a hf
          refine step_l (st_skip hf (Wn.some hf rfl rfl rfl rfl) rfl rfl ?_)
          clear hf; intro a hf
          refine step_l (st_skip hf (Wn.some hf rfl rfl rfl rfl) rfl rfl ?_)
          clear hf; intro a hf
          refine step_l (st_skip hf (Wn.some hf rfl rfl rfl rfl) rfl rfl ?_)
          clear hf; intro a hf
          refine step_l (st_rd hf (Wn.none rfl) (rd_pick_t hf rfl rfl rfl) hS rfl rfl ?_)
          clear hf; intro a hf
          refine done_l ?_
          refine t_normal ?_
          refine c_true hf rfl ?_
          refine c_seq ?_
          refine c_region ?_
          refine step_l (st_rd hf (Wn.none rfl) (rd_assign hf rfl rfl) hS rfl rfl ?_)
          clear hf; intro a hf
          refine step_l (st_rd hf (Wn.none rfl) (rd_assign hf rfl rfl) hS rfl rfl ?_)
          clear hf; intro a hf
          refine done_l ?_
          refine t_normal ?_
          refine c_ret ?_
          refine t_ret ?_
          refine b_ret ?_
          refine t_ret ?_
          refine t_ret ?_
          refine b_ret ?_
          refine t_ret ?_
          refine e_resN hf.defers rfl (res_tmp hf rfl (res_tmp hf rfl .nil)) ?_
          refine ⟨?_, hS.sub (by repeat (first | exact Sub.refl | exact Sub.none | (apply Sub.cons; (focus ((repeat (first | exact Sel.head | apply Sel.tail)); done))) | apply Sub.skip))⟩
          clear hf hS
          rw [hpar, parse_bad1 hget (by assumption) (by omega)]; rfl
        · clear hf; intro hc5 a hf
          refine step_l (st_rd hf (Wn.none rfl) (rd_move hf rfl rfl) hS rfl rfl ?_)
          clear hf; intro a hf
          refine step_l (st_rd hf (Wn.some hf rfl rfl rfl rfl) (rd_move hf rfl rfl) hS rfl rfl ?_)
          clear hf; intro a hf
          refine step_l (st_rd hf (Wn.some hf rfl rfl rfl rfl) (rd_add hf rfl rfl rfl (by first | exact Go.IntWalk.i64_in _ (by omega) | exact rfl)) hS rfl rfl ?_)
          clear hf; intro a hf
          refine step_l (st_rd hf (Wn.some hf rfl rfl rfl rfl) (rd_move hf rfl rfl) hS rfl rfl ?_)
          clear hf; intro a hf
          refine step_l (st_rd hf (Wn.some hf rfl rfl rfl rfl) (rd_lenS hf rfl rfl Try.underlying9) hS rfl rfl ?_)
          clear hf; intro a hf
          refine step_l (st_rdB hf (Wn.some hf rfl rfl rfl rfl) (rd_geq hf rfl rfl rfl) hS rfl rfl ?_ ?_)
          · clear hf; intro hc6 a hf
            refine step_l (st_rd hf (Wn.none rfl) (rd_pick_f hf rfl rfl rfl) hS rfl rfl ?_)
            clear hf; intro a hf
            refine step_l (st_rd hf (Wn.none rfl) (rd_move hf rfl rfl) hS rfl rfl ?_)
            clear hf; intro a hf
            refine step_l (st_skip hf (Wn.some hf rfl rfl rfl rfl) rfl rfl ?_)
            clear hf; intro a hf
            refine step_l (st_skip hf (Wn.some hf rfl rfl rfl rfl) rfl rfl ?_)
            clear hf; intro a hf
            refine step_l (st_skip hf (Wn.some hf rfl rfl rfl rfl) rfl rfl ?_)
            clear hf; intro a hf
            refine step_l (st_skip hf (Wn.some hf rfl rfl rfl rfl) rfl rfl ?_)
            clear hf; intro a hf
            refine step_l (st_skip hf (Wn.some hf rfl rfl rfl rfl) rfl rfl ?_)
            clear hf; intro a hf
            refine step_l (st_skip hf (Wn.some hf rfl rfl rfl rfl) rfl rfl ?_)
            clear hf; intro a hf
            refine step_l (st_rd hf (Wn.none rfl) (rd_pick_t hf rfl rfl rfl) hS rfl rfl ?_)
            clear hf; intro a hf
            refine step_l (st_rd hf (Wn.none rfl) (rd_move hf rfl rfl) hS rfl rfl ?_)
            clear hf; intro a hf
            refine step_l (st_skip hf (Wn.some hf rfl rfl rfl rfl) rfl rfl ?_)
            clear hf; intro a hf
            refine step_l (st_skip hf (Wn.some hf rfl rfl rfl rfl) rfl rfl ?_)
            clear hf; intro a hf
            refine step_l (st_skip hf (Wn.some hf rfl rfl rfl rfl) rfl rfl ?_)
            clear hf; intro a hf
            refine step_l (st_skip hf (Wn.some hf rfl rfl rfl rfl) rfl rfl ?_)
            clear hf; intro a hf
            refine step_l (st_skip hf (Wn.some hf rfl rfl rfl rfl) rfl rfl ?_)
            clear hf; intro a hf
            refine step_l (st_skip hf (Wn.some hf rfl rfl rfl rfl) rfl rfl ?_)
            clear hf; intro a hf
            refine step_l (st_rd hf (Wn.none rfl) (rd_pick_t hf rfl rfl rfl) hS rfl rfl ?_)
            clear hf; intro a hf
            refine done_l ?_
            refine t_normal ?_
            refine c_true hf rfl ?_
            refine c_seq ?_
            refine c_region ?_
            refine step_l (st_rd hf (Wn.none rfl) (rd_assign hf rfl rfl) hS rfl rfl ?_)
            clear hf; intro a hf
            refine step_l (st_rd hf (Wn.none rfl) (rd_assign hf rfl rfl) hS rfl rfl ?_)
            clear hf; intro a hf
            refine done_l ?_
            refine t_normal ?_
            refine c_ret ?_
            refine t_ret ?_
            refine b_ret ?_
            refine t_ret ?_
            refine t_ret ?_
            refine b_ret ?_
            refine t_ret ?_
            refine e_resN hf.defers rfl (res_tmp hf rfl (res_tmp hf rfl .nil)) ?_
            refine ⟨?_, hS.sub (by repeat (first | exact Sub.refl | exact Sub.none | (apply Sub.cons; (focus ((repeat (first | exact Sel.head | apply Sel.tail)); done))) | apply Sub.skip))⟩
            clear hf hS
            rw [hpar, parse_bad2 hget (by assumption) (by omega)]; rfl
          · clear hf; intro hc6 a hf
            obtain ⟨x, hget1⟩ := get_of_lt (l := bs) (k := i + 1) (by omega) rfl; obtain ⟨y, hget2⟩ := get_of_lt (l := bs) (k := i + 2) (by omega) rfl; have hdx := digF_le x; have hdy := digF_le y
            refine step_l (st_rd hf (Wn.none rfl) (rd_pick_f hf rfl rfl rfl) hS rfl rfl ?_)
            clear hf; intro a hf
            refine step_l (st_rd hf (Wn.none rfl) (rd_move hf rfl rfl) hS rfl rfl ?_)
            clear hf; intro a hf
            refine step_l (st_rd hf (Wn.some hf rfl rfl rfl rfl) (rd_move hf rfl rfl) hS rfl rfl ?_)
            clear hf; intro a hf
            refine step_l (st_rd hf (Wn.some hf rfl rfl rfl rfl) (rd_move hf rfl rfl) hS rfl rfl ?_)
            clear hf; intro a hf
            refine step_l (st_rd hf (Wn.some hf rfl rfl rfl rfl) (rd_add hf rfl rfl rfl (by first | exact Go.IntWalk.i64_in _ (by omega) | exact rfl)) hS rfl rfl ?_)
            clear hf; intro a hf
            refine step_l (st_rd hf (Wn.some hf rfl rfl rfl rfl) (rd_indexS hf rfl rfl rfl Try.underlying9 (by omega) (by simp only [Int.toNat_natCast, toNat_c1, toNat_c2]; assumption)) hS rfl rfl ?_)
            clear hf; intro a hf
            refine step_l (st_call hf (Wn.some hf rfl rfl rfl rfl) rfl rfl rfl fn44 (digit_c _  hS) rfl rfl ?_)
            clear hf hS; rintro v a w ⟨rfl, hS⟩ hf
            refine step_l (st_rdB hf (Wn.some hf rfl rfl rfl rfl) (rd_lss hf rfl rfl rfl) hS rfl rfl ?_ ?_)
            · clear hf; intro hc7 a hf
              refine step_l (st_rd hf (Wn.none rfl) (rd_pick_f hf rfl rfl rfl) hS rfl rfl ?_)
              clear hf; intro a hf
              refine step_l (st_rd hf (Wn.none rfl) (rd_move hf rfl rfl) hS rfl rfl ?_)
              clear hf; intro a hf
              refine step_l (st_skip hf (Wn.some hf rfl rfl rfl rfl) rfl rfl ?_)
              clear hf; intro a hf
              refine step_l (st_skip hf (Wn.some hf rfl rfl rfl rfl) rfl rfl ?_)
              clear hf; intro a hf
              refine step_l (st_skip hf (Wn.some hf rfl rfl rfl rfl) rfl rfl ?_)
              clear hf; intro a hf
              refine step_l (st_skip hf (Wn.some hf rfl rfl rfl rfl) rfl rfl ?_)
              clear hf; intro a hf
              refine step_l (st_skip hf (Wn.some hf rfl rfl rfl rfl) rfl rfl ?_)
              clear hf; intro a hf
              refine step_l (st_skip hf (Wn.some hf rfl rfl rfl rfl) rfl rfl ?_)
              clear hf; intro a hf
              refine step_l (st_rd hf (Wn.none rfl) (rd_pick_t hf rfl rfl rfl) hS rfl rfl ?_)
              clear hf; intro a hf
              refine done_l ?_
              refine t_normal ?_
              refine c_true hf rfl ?_
              refine c_seq ?_
              refine c_region ?_
              refine step_l (st_rd hf (Wn.none rfl) (rd_assign hf rfl rfl) hS rfl rfl ?_)
              clear hf; intro a hf
              refine step_l (st_rd hf (Wn.none rfl) (rd_assign hf rfl rfl) hS rfl rfl ?_)
              clear hf; intro a hf
              refine done_l ?_
              refine t_normal ?_
              refine c_ret ?_
              refine t_ret ?_
              refine b_ret ?_
              refine t_ret ?_
              refine t_ret ?_
              refine b_ret ?_
              refine t_ret ?_
              refine e_resN hf.defers rfl (res_tmp hf rfl (res_tmp hf rfl .nil)) ?_
              refine ⟨?_, hS.sub (by repeat (first | exact Sub.refl | exact Sub.none | (apply Sub.cons; (focus ((repeat (first | exact Sel.head | apply Sel.tail)); done))) | apply Sub.skip))⟩
              clear hf hS
              rw [hpar, parse_esc hget (by assumption) (by omega) hget1 hget2, if_pos (by omega)]; rfl
            · clear hf; intro hc7 a hf
              refine step_l (st_rd hf (Wn.none rfl) (rd_pick_f hf rfl rfl rfl) hS rfl rfl ?_)
              clear hf; intro a hf
              refine step_l (st_rd hf (Wn.none rfl) (rd_move hf rfl rfl) hS rfl rfl ?_)
              clear hf; intro a hf
              refine step_l (st_rd hf (Wn.some hf rfl rfl rfl rfl) (rd_move hf rfl rfl) hS rfl rfl ?_)
              clear hf; intro a hf
              refine step_l (st_rd hf (Wn.some hf rfl rfl rfl rfl) (rd_move hf rfl rfl) hS rfl rfl ?_)
              clear hf; intro a hf
              refine step_l (st_rd hf (Wn.some hf rfl rfl rfl rfl) (rd_add hf rfl rfl rfl (by first | exact Go.IntWalk.i64_in _ (by omega) | exact rfl)) hS rfl rfl ?_)
              clear hf; intro a hf
              refine step_l (st_rd hf (Wn.some hf rfl rfl rfl rfl) (rd_indexS hf rfl rfl rfl Try.underlying9 (by omega) (by simp only [Int.toNat_natCast, toNat_c1, toNat_c2]; assumption)) hS rfl rfl ?_)
              clear hf; intro a hf
              refine step_l (st_call hf (Wn.some hf rfl rfl rfl rfl) rfl rfl rfl fn44 (digit_c _  hS) rfl rfl ?_)
              clear hf hS; rintro v a w ⟨rfl, hS⟩ hf
              refine step_l (st_rdB hf (Wn.some hf rfl rfl rfl rfl) (rd_lss hf rfl rfl rfl) hS rfl rfl ?_ ?_)
              · clear hf; intro hc8 a hf
                refine step_l (st_rd hf (Wn.none rfl) (rd_pick_f hf rfl rfl rfl) hS rfl rfl ?_)
                clear hf; intro a hf
                refine done_l ?_
                refine t_normal ?_
                refine c_true hf rfl ?_
                refine c_seq ?_
                refine c_region ?_
                refine step_l (st_rd hf (Wn.none rfl) (rd_assign hf rfl rfl) hS rfl rfl ?_)
                clear hf; intro a hf
                refine step_l (st_rd hf (Wn.none rfl) (rd_assign hf rfl rfl) hS rfl rfl ?_)
                clear hf; intro a hf
                refine done_l ?_
                refine t_normal ?_
                refine c_ret ?_
                refine t_ret ?_
                refine b_ret ?_
                refine t_ret ?_
                refine t_ret ?_
                refine b_ret ?_
                refine t_ret ?_
                refine e_resN hf.defers rfl (res_tmp hf rfl (res_tmp hf rfl .nil)) ?_
                refine ⟨?_, hS.sub (by repeat (first | exact Sub.refl | exact Sub.none | (apply Sub.cons; (focus ((repeat (first | exact Sel.head | apply Sel.tail)); done))) | apply Sub.skip))⟩
                clear hf hS
                rw [hpar, parse_esc hget (by assumption) (by omega) hget1 hget2, if_pos (by omega)]; rfl
              · clear hf; intro hc8 a hf
                refine step_l (st_rd hf (Wn.none rfl) (rd_pick_f hf rfl rfl rfl) hS rfl rfl ?_)
                clear hf; intro a hf
                refine done_l ?_
                refine t_normal ?_
                refine c_false hf rfl ?_
                refine c_skip ?_
                refine t_normal ?_
                refine c_seq ?_
                refine any_begin (S := Sat W (R)) mixed (hS.drew.sub (by repeat (first | exact Sub.refl | exact Sub.none | (apply Sub.cons; (focus ((repeat (first | exact Sel.head | apply Sel.tail)); done))) | apply Sub.skip))) ?_
                have hT : Sat W (R) _ := hS.drew.sub (by repeat (first | exact Sub.refl | exact Sub.none | (apply Sub.cons; (focus ((repeat (first | exact Sel.head | apply Sel.tail)); done))) | apply Sub.skip))
                replace hS := hS.drew
                refine any_take (i := 0) hf rfl (by kernel_rfl) (by kernel_rfl) (by kernel_rfl) (fun _ _ _ h => h) (Wn.none rfl) (rd_move hf rfl rfl) hT rfl rfl ?_
                clear hf; intro a hf
                refine any_take (i := 1) hf rfl (by kernel_rfl) (by kernel_rfl) (by kernel_rfl) (fun _ _ _ h => h) (Wn.none rfl) (rd_move hf rfl rfl) hT rfl rfl ?_
                clear hf; intro a hf
                refine any_take (i := 2) hf rfl (by kernel_rfl) (by kernel_rfl) (by kernel_rfl) (fun _ _ _ h => h) (Wn.none rfl) (rd_add hf rfl rfl rfl (by first | exact Go.IntWalk.i64_in _ (by omega) | exact rfl)) hT rfl rfl ?_
                clear hf; intro a hf
                refine any_take (i := 3) hf rfl (by kernel_rfl) (by kernel_rfl) (by kernel_rfl) (fun _ _ _ h => h) (Wn.none rfl) (rd_indexS hf rfl rfl rfl Try.underlying9 (by omega) (by simp only [Int.toNat_natCast, toNat_c1, toNat_c2]; assumption)) hT rfl rfl ?_
                clear hf; intro a hf
                refine any_take (i := 6) hf rfl (by kernel_rfl) (by kernel_rfl) (by kernel_rfl) (fun _ _ _ h => h) (Wn.none rfl) (rd_move hf rfl rfl) hT rfl rfl ?_
                clear hf; intro a hf
                refine any_take (i := 7) hf rfl (by kernel_rfl) (by kernel_rfl) (by kernel_rfl) (fun _ _ _ h => h) (Wn.none rfl) (rd_move hf rfl rfl) hT rfl rfl ?_
                clear hf; intro a hf
                refine any_take (i := 8) hf rfl (by kernel_rfl) (by kernel_rfl) (by kernel_rfl) (fun _ _ _ h => h) (Wn.none rfl) (rd_add hf rfl rfl rfl (by first | exact Go.IntWalk.i64_in _ (by omega) | exact rfl)) hT rfl rfl ?_
                clear hf; intro a hf
                refine any_take (i := 9) hf rfl (by kernel_rfl) (by kernel_rfl) (by kernel_rfl) (fun _ _ _ h => h) (Wn.none rfl) (rd_indexS hf rfl rfl rfl Try.underlying9 (by omega) (by simp only [Int.toNat_natCast, toNat_c1, toNat_c2]; assumption)) hT rfl rfl ?_
                clear hf; intro a hf
                refine any_one (i := 4) rfl (by kernel_rfl) (st_call hf (Wn.none rfl) rfl rfl rfl fn44 (digit_c _  hS) rfl rfl ?_)
                clear hf hS; rintro v a w ⟨rfl, hS⟩ hf
                replace hT := hS.sub' hT (by repeat (first | exact Sub.refl | exact Sub.none | (apply Sub.cons; (focus ((repeat (first | exact Sel.head | apply Sel.tail)); done))) | apply Sub.skip))
                refine ⟨hT, ?_⟩
                refine any_take (i := 5) hf rfl (by kernel_rfl) (by kernel_rfl) (by kernel_rfl) (fun _ _ _ h => h) (Wn.none rfl) (rd_shl hf rfl rfl rfl (by first | decide | omega) (shl4 (by omega))) hT rfl rfl ?_
                clear hf; intro a hf
                refine any_one (i := 10) rfl (by kernel_rfl) (st_call hf (Wn.none rfl) rfl rfl rfl fn44 (digit_c _  hS) rfl rfl ?_)
                clear hf hS; rintro v a w ⟨rfl, hS⟩ hf
                replace hT := hS.sub' hT (by repeat (first | exact Sub.refl | exact Sub.none | (apply Sub.cons; (focus ((repeat (first | exact Sel.head | apply Sel.tail)); done))) | apply Sub.skip))
                refine ⟨hT, ?_⟩
                refine any_take (i := 11) hf rfl (by kernel_rfl) (by kernel_rfl) (by kernel_rfl) (fun _ _ _ h => h) (Wn.none rfl) (rd_or hf rfl rfl rfl (or16 (by omega) (by omega))) hT rfl rfl ?_
                clear hf; intro a hf
                refine any_take (i := 12) hf rfl (by kernel_rfl) (by kernel_rfl) (by kernel_rfl) (fun _ _ _ h => h) (Wn.none rfl) (rd_convInt hf rfl rfl Try.underlying3 Try.underlying5 (byte_of (by omega))) hT rfl rfl ?_
                clear hf; intro a hf
                refine any_take (i := 13) hf rfl (by kernel_rfl) (by kernel_rfl) (by kernel_rfl) (fun _ _ _ h => h) (Wn.none rfl) (rd_assign hf rfl rfl) hT rfl rfl ?_
                clear hf; intro a hf
                refine any_done (by kernel_rfl) ?_
                refine t_normal ?_
                refine c_seq ?_
                refine c_seq ?_
                refine c_region ?_
                refine step_l (st_rd hf (Wn.none rfl) (rd_move hf rfl rfl) hS rfl rfl ?_)
                clear hf; intro a hf
                refine step_l (st_call hf (Wn.none rfl) rfl rfl rfl fn43 (plain_c _  hS) rfl rfl ?_)
                clear hf hS; rintro v a w ⟨rfl, hS⟩ hf
                first | refine split_dec (d := 64) hf rfl ?_ ?_ | refine split_bool (d := 64) hf rfl ?_ ?_
                · clear hf; intro hc9 hf
                  refine done_l ?_
                  refine t_normal ?_
                  refine c_true hf rfl ?_
                  refine c_seq ?_
                  refine c_region ?_
                  refine step_l (st_rd hf (Wn.none rfl) (rd_assign hf rfl rfl) hS rfl rfl ?_)
                  clear hf; intro a hf
                  refine step_l (st_rd hf (Wn.none rfl) (rd_assign hf rfl rfl) hS rfl rfl ?_)
                  clear hf; intro a hf
                  refine done_l ?_
                  refine t_normal ?_
                  refine c_ret ?_
                  refine t_ret ?_
                  refine b_ret ?_
                  refine t_ret ?_
                  refine t_ret ?_
                  refine b_ret ?_
                  refine t_ret ?_
                  refine e_resN hf.defers rfl (res_tmp hf rfl (res_tmp hf rfl .nil)) ?_
                  refine ⟨?_, hS.sub (by repeat (first | exact Sub.refl | exact Sub.none | (apply Sub.cons; (focus ((repeat (first | exact Sel.head | apply Sel.tail)); done))) | apply Sub.skip))⟩
                  clear hf hS
                  rw [hpar, parse_esc hget (by assumption) (by omega) hget1 hget2, if_neg (by omega), if_pos (by assumption)]; rfl
                · clear hf; intro hc9 hf
                  refine done_l ?_
                  refine t_normal ?_
                  refine c_false hf rfl ?_
                  refine c_skip ?_
                  refine t_normal ?_
                  refine c_seq ?_
                  refine c_region ?_
                  refine step_l (st_rd hf (Wn.none rfl) (rd_move hf rfl rfl) hS rfl rfl ?_)
                  clear hf; intro a hf
                  refine step_l (st_rd hf (Wn.none rfl) (rd_move hf rfl rfl) hS rfl rfl ?_)
                  clear hf; intro a hf
                  refine step_l (st_buildSlice hf (Wn.none rfl) hS rfl rfl Try.underlying36 sz5 zr5 (by decide) bz5_1 rfl (.cons rfl (by rfl) (by rfl) (by repeat (first | exact Put.nil | apply Put.cons | apply Put.succ)) .nil) rfl rfl ?_)
                  clear hf hS; intro b_10 a w hf hS
                  refine step_l (st_append hf (Wn.none rfl) rfl rfl rfl Try.underlying36 tyb5 (by rfl) (by decide) hS (by repeat (first | exact Sel.head | apply Sel.tail)) (by first | exact hS.slOfBlk (by repeat (first | exact Sel.head | apply Sel.tail)) (by rfl) | exact hS.slOfBlkPre (by repeat (first | exact Sel.head | apply Sel.tail)) (bvs_len1 _) | exact hS.slOfRw (by repeat (first | exact Sel.head | apply Sel.tail)) | exact SlAt.nil _ _ _) (by first | rfl | exact bvs_one _ | (simp [Value.oneCell']; done)) (by omega) rfl rfl ?_)
                  clear hf hS; intro pA capA a w hf hS hnilA
                  refine step_l (st_rd hf (Wn.none rfl) (rd_assign hf rfl rfl) hS rfl rfl ?_)
                  clear hf; intro a hf
                  refine done_l ?_
                  refine t_normal ?_
                  refine c_region ?_
                  refine step_l (st_rd hf (Wn.none rfl) (rd_move hf rfl rfl) hS rfl rfl ?_)
                  clear hf; intro a hf
                  refine step_l (st_rd hf (Wn.none rfl) (rd_add hf rfl rfl rfl (by first | exact Go.IntWalk.i64_in _ (by omega) | exact rfl)) hS rfl rfl ?_)
                  clear hf; intro a hf
                  refine step_l (st_rd hf (Wn.none rfl) (rd_assign hf rfl rfl) hS rfl rfl ?_)
                  clear hf; intro a hf
                  refine done_l ?_
                  refine b_normal ?_
                  refine t_normal ?_
                  refine c_region ?_
                  refine step_l (st_rd hf (Wn.none rfl) (rd_move hf rfl rfl) hS rfl rfl ?_)
                  clear hf; intro a hf
                  refine step_l (st_rd hf (Wn.none rfl) (rd_add hf rfl rfl rfl (by first | exact Go.IntWalk.i64_in _ (by omega) | exact rfl)) hS rfl rfl ?_)
                  clear hf; intro a hf
                  refine step_l (st_rd hf (Wn.none rfl) (rd_assign hf rfl rfl) hS rfl rfl ?_)
                  clear hf; intro a hf
                  refine done_l ?_
                  refine t_normal ⟨(i + 3, out ++ [escF x y], pA, len + 1, capA), ⟨(((((hf.k0.kb hf 5 rfl (by first | rfl | exact int_eq (by omega))).kb hf 4 rfl (by rfl)).kb hf 3 rfl (by first | rfl | exact int_eq (by omega))).kb hf 2 rfl (by first | rfl | exact int_eq (by omega))).kb hf 0 rfl (by first | rfl | exact int_eq (by omega))), (hS.rwCast (xs' := bvs (out ++ [escF x y])) (by simp [escF]) rfl).sub (by repeat (first | exact Sub.refl | exact Sub.none | (apply Sub.cons; (focus ((repeat (first | exact Sel.head | apply Sel.tail)); done))) | apply Sub.skip)), ⟨by omega, by simp [hlen], by simp; omega, by rw [hpar, parse_esc hget (by assumption) (by omega) hget1 hget2, if_neg (by omega), if_neg (by assumption), map_app]⟩⟩, by first | omega | (simp only []; omega)⟩
    · clear hf; intro hc1 a hf
      refine done_l ?_
      refine t_normal ?_
      refine c_false hf rfl ?_
      refine c_exit ?_
      refine t_exit ?_
      refine t_exit ?_
      refine b_exit ?_
      refine t_normal ?_
      refine c_seq ?_
      refine c_region ?_
      refine step_l (st_rd hf (Wn.none rfl) (rd_move hf rfl rfl) hS rfl rfl ?_)
      clear hf; intro a hf
      refine step_l (st_rd hf (Wn.none rfl) (rd_str hf rfl rfl Try.underlying36 Try.underlying9 Try.underlying5 (by intro _ h; first | exact h.slOfRw (by repeat (first | exact Sel.head | apply Sel.tail)) | exact h.slOfBlkPre (by repeat (first | exact Sel.head | apply Sel.tail)) (bvs_len1 _))) hS rfl rfl ?_)
      clear hf; intro a hf
      refine step_l (st_rd hf (Wn.none rfl) (rd_assign hf rfl rfl) hS rfl rfl ?_)
      clear hf; intro a hf
      refine step_l (st_rd hf (Wn.none rfl) (rd_assign hf rfl rfl) hS rfl rfl ?_)
      clear hf; intro a hf
      refine done_l ?_
      refine t_normal ?_
      refine c_ret ?_
      refine e_resN hf.defers rfl (res_tmp hf rfl (res_tmp hf rfl .nil)) ?_
      refine ⟨?_, hS.sub (by repeat (first | exact Sub.refl | exact Sub.none | (apply Sub.cons; (focus ((repeat (first | exact Sel.head | apply Sel.tail)); done))) | apply Sub.skip))⟩
      clear hf hS
      rw [hpar, List.drop_of_length_le (by omega)]; simp [parseF, resP]

def rawF : List UInt8 → Option (List UInt8)
  | [] => some []
  | c :: r => if c.toNat ≠ 37 then (rawF r).map (c :: ·) else
    match r with
    | x :: y :: r' => if digF x < 0 ∨ digF y < 0 then none else (rawF r').map (escF x y :: ·)
    | _ => none
theorem raw_cons (c : UInt8) (r : List UInt8) : rawF (c :: r) = if c.toNat ≠ 37 then (rawF r).map (c :: ·) else
    match r with
    | x :: y :: r' => if digF x < 0 ∨ digF y < 0 then none else (rawF r').map (escF x y :: ·)
    | _ => none := by
  conv => lhs; unfold rawF
theorem raw_plain {s : List UInt8} {i : Nat} {c : UInt8} (h : s[i]? = some c) (hp : c.toNat ≠ 37) : rawF (s.drop i) = (rawF (s.drop (i + 1))).map (c :: ·) := by
  rw [drop_get h, raw_cons, if_pos hp]
theorem raw_bad2 {s : List UInt8} {i : Nat} {c : UInt8} (h : s[i]? = some c) (hp : ¬ c.toNat ≠ 37) (h2 : s.length ≤ i + 2) : rawF (s.drop i) = none := by
  rw [drop_get h, raw_cons, if_neg hp]
  cases hd : s.drop (i + 1) with
  | nil => rfl
  | cons x r =>
    cases r with
    | nil => rfl
    | cons y r =>
      have := congrArg List.length hd
      simp at this
      omega
theorem raw_esc {s : List UInt8} {i : Nat} {c x y : UInt8} (h : s[i]? = some c) (h37 : ¬ c.toNat ≠ 37) (h1 : s[i + 1]? = some x) (h2 : s[i + 2]? = some y) :
    rawF (s.drop i) = if digF x < 0 ∨ digF y < 0 then none else (rawF (s.drop (i + 3))).map (escF x y :: ·) := by
  rw [drop_get h, raw_cons, if_neg h37, drop_get h1, drop_get h2]
def refParseF (s : List UInt8) : Option (List UInt8) := match rawF s with
  | some k => if textF k = s then some k else none
  | none => none
theorem plain_ne {c : UInt8} (h : plainP c) : c.toNat ≠ 37 := by unfold plainP at h; omega
theorem hexd_dig : ∀ x : UInt8, 0 ≤ digF x → hexd (digF x).toNat = x := by
  have h : ∀ k : Fin 256, 0 ≤ digF (UInt8.ofNat k.val) → hexd (digF (UInt8.ofNat k.val)).toNat = UInt8.ofNat k.val := by decide +kernel
  intro x
  have := h ⟨x.toNat, x.toNat_lt⟩
  simpa using this
theorem encF_esc {x y : UInt8} (hx : ¬ (digF x < 0 ∨ digF y < 0)) (hp : ¬ plainP (escF x y)) : encF (escF x y) = [37, x, y] := by
  have h1 := digF_le x
  have h2 := digF_le y
  have h3 := hexd_dig x (by omega)
  have h4 := hexd_dig y (by omega)
  have e : (escF x y).toNat = (digF x).toNat * 16 + (digF y).toNat := by
    unfold escF
    simp
    omega
  rw [encF_neg hp, e]
  rw [show ((digF x).toNat * 16 + (digF y).toNat) / 16 = (digF x).toNat from by omega, show ((digF x).toNat * 16 + (digF y).toNat) % 16 = (digF y).toNat from by omega, h3, h4]
theorem textF_cons (c : UInt8) (r : List UInt8) : textF (c :: r) = encF c ++ textF r := by simp [textF]
theorem parse_raw : ∀ (n : Nat) (s k : List UInt8), s.length ≤ n → parseF s = some k → rawF s = some k ∧ textF k = s := by
  intro n
  induction n with
  | zero =>
    intro s k hs h
    have : s = [] := List.eq_nil_of_length_eq_zero (by omega)
    subst this
    simp [parseF] at h
    subst h
    simp [rawF, textF]
  | succ n ih =>
    intro s k hs h
    cases s with
    | nil => simp [parseF] at h; subst h; simp [rawF, textF]
    | cons c r =>
      rw [parse_cons] at h
      by_cases hp : plainP c
      · rw [if_pos hp] at h
        obtain ⟨k', hk', rfl⟩ := Option.map_eq_some_iff.1 h
        obtain ⟨h1, h2⟩ := ih r k' (by simp at hs; omega) hk'
        refine ⟨?_, by rw [textF_cons, encF_pos hp, h2]; rfl⟩
        rw [raw_cons, if_pos (plain_ne hp), h1]
        rfl
      · rw [if_neg hp] at h
        by_cases h37 : c.toNat ≠ 37
        · rw [if_pos h37] at h; cases h
        · rw [if_neg h37] at h
          match r, h, hs with
          | [], h, _ => cases h
          | [_], h, _ => cases h
          | x :: y :: r', h, hs =>
            simp only [] at h
            by_cases hd : digF x < 0 ∨ digF y < 0
            · rw [if_pos hd] at h; cases h
            · rw [if_neg hd] at h
              by_cases he : plainP (escF x y)
              · rw [if_pos he] at h; cases h
              · rw [if_neg he] at h
                obtain ⟨k', hk', rfl⟩ := Option.map_eq_some_iff.1 h
                obtain ⟨h1, h2⟩ := ih r' k' (by simp at hs; omega) hk'
                have hc : c = 37 := UInt8.toNat_inj.1 (by simp only [ne_eq, Decidable.not_not] at h37; rw [h37]; rfl)
                refine ⟨?_, by rw [textF_cons, encF_esc hd he, h2, hc]; rfl⟩
                rw [raw_cons, if_neg h37]
                simp only []
                rw [if_neg hd, h1]
                rfl
theorem raw_parse : ∀ (n : Nat) (s k : List UInt8), s.length ≤ n → rawF s = some k → textF k = s → parseF s = some k := by
  intro n
  induction n with
  | zero =>
    intro s k hs h _
    have : s = [] := List.eq_nil_of_length_eq_zero (by omega)
    subst this
    simp [rawF] at h
    subst h
    simp [parseF]
  | succ n ih =>
    intro s k hs h ht
    cases s with
    | nil => simp [rawF] at h; subst h; simp [parseF]
    | cons c r =>
      rw [raw_cons] at h
      rw [parse_cons]
      by_cases h37 : c.toNat ≠ 37
      · rw [if_pos h37] at h
        obtain ⟨k', hk', rfl⟩ := Option.map_eq_some_iff.1 h
        rw [textF_cons] at ht
        by_cases hp : plainP c
        · rw [encF_pos hp] at ht
          rw [if_pos hp, ih r k' (by simp at hs; omega) hk' (by simpa using ht)]
          rfl
        · rw [encF_neg hp] at ht
          simp at ht
          exact absurd (by rw [← ht.1]; rfl) h37
      · rw [if_neg h37] at h
        have hc : c = 37 := UInt8.toNat_inj.1 (by simp only [ne_eq, Decidable.not_not] at h37; rw [h37]; rfl)
        have hnp : ¬ plainP c := fun hp => absurd (plain_ne hp) h37
        rw [if_neg hnp, if_neg h37]
        match r, h, hs, ht with
        | [], h, _, _ => cases h
        | [_], h, _, _ => cases h
        | x :: y :: r', h, hs, ht =>
          simp only [] at h ⊢
          by_cases hd : digF x < 0 ∨ digF y < 0
          · rw [if_pos hd] at h; cases h
          · rw [if_neg hd] at h ⊢
            obtain ⟨k', hk', rfl⟩ := Option.map_eq_some_iff.1 h
            rw [textF_cons] at ht
            by_cases he : plainP (escF x y)
            · rw [encF_pos he] at ht
              simp at ht
              exact absurd he (by rw [ht.1]; exact hnp)
            · rw [encF_esc hd he] at ht
              rw [if_neg he, ih r' k' (by simp at hs; omega) hk' (by simp at ht; exact ht.2)]
              rfl
theorem refParse_eq (s : List UInt8) : refParseF s = parseF s := by
  unfold refParseF
  cases h : rawF s with
  | none =>
    cases hp : parseF s with
    | none => rfl
    | some k => rw [(parse_raw _ s k (Nat.le_refl _) hp).1] at h; cases h
  | some k =>
    simp only []
    by_cases ht : textF k = s
    · rw [if_pos ht, raw_parse _ s k (Nat.le_refl _) h ht]
    · rw [if_neg ht]
      cases hp : parseF s with
      | none => rfl
      | some k' =>
        obtain ⟨h1, h2⟩ := parse_raw _ s k' (Nat.le_refl _) hp
        rw [h] at h1; cases h1
        exact absurd h2 ht
theorem ref_none {s : List UInt8} (h : rawF s = none) : parseF s = none := by rw [← refParse_eq, refParseF, h]
theorem ref_ne {s k : List UInt8} (h : rawF s = some k) (ht : textF k ≠ s) : parseF s = none := by rw [← refParse_eq, refParseF, h]; exact if_neg ht
theorem ref_eq {s k : List UInt8} (h : rawF s = some k) (ht : ¬ textF k ≠ s) : parseF s = some k := by rw [← refParse_eq, refParseF, h]; exact if_pos (by simpa using ht)
theorem mul16 {a : Int} (ha : 0 ≤ a ∧ a ≤ 15) : IntKind.i64.wrap (16 * a) = a * 16 := by rw [Int.mul_comm]; exact Go.IntWalk.i64_in _ (by omega)

theorem ParseKey_c (bs : List UInt8) {W : World} {R : List HP} {w : World} (hb : bs.length ≤ 140737488351232) (hS : Sat W R w) : Calls Try.prog 32 [.string (str bs)].toArray w (Ret fun v w' => v = resP (parseF bs) ∧ Sat W R w') := by
  refine fn_start 68 Try.func32 rfl rfl rfl ?_
  intro a hf
  refine c_seq ?_
  refine c_region ?_
  refine step_l (st_rd hf (Wn.none rfl) (rd_assign hf rfl rfl) hS rfl rfl ?_)
  clear hf; intro a hf
  refine step_l (st_rd hf (Wn.none rfl) (rd_assign hf rfl rfl) hS rfl rfl ?_)
  clear hf; intro a hf
  refine done_l ?_
  refine t_normal ?_
  refine c_seq ?_
  refine c_region ?_
  refine step_l (st_rd hf (Wn.none rfl) (rd_assign hf rfl rfl) hS rfl rfl ?_)
  clear hf; intro a hf
  refine done_l ?_
  refine t_normal ?_
  refine c_seq ?_
  refine c_seq ?_
  refine c_region ?_
  refine step_l (st_rd hf (Wn.none rfl) (rd_assign hf rfl rfl) hS rfl rfl ?_)
  clear hf; intro a hf
  refine done_l ?_
  refine t_normal ?_
  refine c_block ?_
  refine c_loop (α := Nat × List UInt8 × Option Addr × Nat × Nat) (fun ⟨i, out, p, len, cap⟩ a w => Fits 68 a [(0, .string (str bs)), (2, .string (str [])), (3, .bool false), (4, .slice p len cap), (5, .int .i64 (i : Nat))] ∧ Sat W (Rw 5 1 p len cap (bvs out) :: R) w ∧ i ≤ bs.length ∧ len = out.length ∧ out.length ≤ i ∧ rawF bs = (rawF (bs.drop i)).map (out ++ ·)) (fun ⟨i, out, p, len, cap⟩ => bs.length - i) (0, [], none, 0, 0) ?_ ?_
  · exact ⟨(((((hf.k0.kb hf 5 rfl (by rfl)).kb hf 4 rfl (by rfl)).kb hf 3 rfl (by rfl)).kb hf 2 rfl (by rfl)).kb hf 0 rfl (by rfl)), (hS.rwNil 5 1).sub (by repeat (first | exact Sub.refl | exact Sub.none | (apply Sub.cons; (focus ((repeat (first | exact Sel.head | apply Sel.tail)); done))) | apply Sub.skip)), ⟨Nat.zero_le _, rfl, Nat.le_refl _, by simp⟩⟩
  · clear hf hS; rintro ⟨i, out, p, len, cap⟩ a w ⟨hf, hS, ⟨hi, hlen, hout, hpar⟩⟩
    refine c_seq ?_
    refine c_seq ?_
    refine c_region ?_
    refine step_l (st_rd hf (Wn.none rfl) (rd_move hf rfl rfl) hS rfl rfl ?_)
    clear hf; intro a hf
    refine step_l (st_rd hf (Wn.none rfl) (rd_move hf rfl rfl) hS rfl rfl ?_)
    clear hf; intro a hf
    refine step_l (st_rd hf (Wn.none rfl) (rd_lenS hf rfl rfl Try.underlying9) hS rfl rfl ?_)
    clear hf; intro a hf
    refine step_l (st_rdB hf (Wn.none rfl) (rd_lss hf rfl rfl rfl) hS rfl rfl ?_ ?_)
    · clear hf; intro hc1 a hf
      obtain ⟨c, hget⟩ := get_of_lt (l := bs) (k := i) (by omega) rfl; have hcb := c.toNat_lt
      refine done_l ?_
      refine t_normal ?_
      refine c_true hf rfl ?_
      refine c_skip ?_
      refine t_normal ?_
      refine c_seq ?_
      refine c_block ?_
      refine c_seq ?_
      refine c_seq ?_
      refine c_region ?_
      refine step_l (st_rd hf (Wn.none rfl) (rd_move hf rfl rfl) hS rfl rfl ?_)
      clear hf; intro a hf
      refine step_l (st_rd hf (Wn.none rfl) (rd_move hf rfl rfl) hS rfl rfl ?_)
      clear hf; intro a hf
      refine step_l (st_rd hf (Wn.none rfl) (rd_indexS hf rfl rfl rfl Try.underlying9 (by omega) (by simp only [Int.toNat_natCast, toNat_c1, toNat_c2]; assumption)) hS rfl rfl ?_)
      clear hf; intro a hf
      refine step_l (st_rdB hf (Wn.none rfl) (rd_neq hf rfl rfl rfl) hS rfl rfl ?_ ?_)
      · clear hf; intro hc2 a hf
        refine done_l ?_
        refine t_normal ?_
        refine c_true hf rfl ?_
        refine c_seq ?_
        refine c_region ?_
        refine step_l (st_rd hf (Wn.none rfl) (rd_move hf rfl rfl) hS rfl rfl ?_)
        clear hf; intro a hf
        refine step_l (st_rd hf (Wn.none rfl) (rd_move hf rfl rfl) hS rfl rfl ?_)
        clear hf; intro a hf
        refine step_l (st_rd hf (Wn.none rfl) (rd_move hf rfl rfl) hS rfl rfl ?_)
        clear hf; intro a hf
        refine step_l (st_rd hf (Wn.none rfl) (rd_indexS hf rfl rfl rfl Try.underlying9 (by omega) (by simp only [Int.toNat_natCast, toNat_c1, toNat_c2]; assumption)) hS rfl rfl ?_)
        clear hf; intro a hf
        refine step_l (st_buildSlice hf (Wn.none rfl) hS rfl rfl Try.underlying36 sz5 zr5 (by decide) bz5_1 rfl (.cons rfl (by rfl) (by rfl) (by repeat (first | exact Put.nil | apply Put.cons | apply Put.succ)) .nil) rfl rfl ?_)
        clear hf hS; intro b_3 a w hf hS
        refine step_l (st_append hf (Wn.none rfl) rfl rfl rfl Try.underlying36 tyb5 (by rfl) (by decide) hS (by repeat (first | exact Sel.head | apply Sel.tail)) (by first | exact hS.slOfBlk (by repeat (first | exact Sel.head | apply Sel.tail)) (by rfl) | exact hS.slOfBlkPre (by repeat (first | exact Sel.head | apply Sel.tail)) (bvs_len1 _) | exact hS.slOfRw (by repeat (first | exact Sel.head | apply Sel.tail)) | exact SlAt.nil _ _ _) (by first | rfl | exact bvs_one _ | (simp [Value.oneCell']; done)) (by omega) rfl rfl ?_)
        clear hf hS; intro pA capA a w hf hS hnilA
        refine step_l (st_rd hf (Wn.none rfl) (rd_assign hf rfl rfl) hS rfl rfl ?_)
        clear hf; intro a hf
        refine done_l ?_
        refine t_normal ?_
        refine c_exit ?_
        refine t_exit ?_
        refine b_exit ?_
        refine t_normal ?_
        refine c_region ?_
        refine step_l (st_rd hf (Wn.none rfl) (rd_move hf rfl rfl) hS rfl rfl ?_)
        clear hf; intro a hf
        refine step_l (st_rd hf (Wn.none rfl) (rd_add hf rfl rfl rfl (by first | exact Go.IntWalk.i64_in _ (by omega) | exact rfl)) hS rfl rfl ?_)
        clear hf; intro a hf
        refine step_l (st_rd hf (Wn.none rfl) (rd_assign hf rfl rfl) hS rfl rfl ?_)
        clear hf; intro a hf
        refine done_l ?_
        refine t_normal ⟨(i + 1, out ++ [c], pA, len + 1, capA), ⟨(((((hf.k0.kb hf 5 rfl (by first | rfl | exact int_eq (by omega))).kb hf 4 rfl (by rfl)).kb hf 3 rfl (by first | rfl | exact int_eq (by omega))).kb hf 2 rfl (by first | rfl | exact int_eq (by omega))).kb hf 0 rfl (by first | rfl | exact int_eq (by omega))), (hS.rwCast (xs' := bvs (out ++ [c])) (by simp) rfl).sub (by repeat (first | exact Sub.refl | exact Sub.none | (apply Sub.cons; (focus ((repeat (first | exact Sel.head | apply Sel.tail)); done))) | apply Sub.skip)), ⟨by omega, by simp [hlen], by simp; omega, by rw [hpar, raw_plain hget (by omega), map_app]⟩⟩, by first | omega | (simp only []; omega)⟩
      · clear hf; intro hc2 a hf
        refine done_l ?_
        refine t_normal ?_
        refine c_false hf rfl ?_
        refine c_skip ?_
        refine t_normal ?_
        refine c_seq ?_
        refine c_seq ?_
        refine c_region ?_
        refine step_l (st_rd hf (Wn.none rfl) (rd_move hf rfl rfl) hS rfl rfl ?_)
        clear hf; intro a hf
        refine step_l (st_rd hf (Wn.none rfl) (rd_add hf rfl rfl rfl (by first | exact Go.IntWalk.i64_in _ (by omega) | exact rfl)) hS rfl rfl ?_)
        clear hf; intro a hf
        refine step_l (st_rd hf (Wn.none rfl) (rd_move hf rfl rfl) hS rfl rfl ?_)
        clear hf; intro a hf
        refine step_l (st_rd hf (Wn.none rfl) (rd_lenS hf rfl rfl Try.underlying9) hS rfl rfl ?_)
        clear hf; intro a hf
        refine step_l (st_rdB hf (Wn.none rfl) (rd_geq hf rfl rfl rfl) hS rfl rfl ?_ ?_)
        · clear hf; intro hc5 a hf
          refine step_l (st_rd hf (Wn.none rfl) (rd_move hf rfl rfl) hS rfl rfl ?_)
          clear hf; intro a hf
          refine step_l (st_skip hf (Wn.some hf rfl rfl rfl rfl) rfl rfl ?_)
          clear hf; intro a hf
          refine step_l (st_skip hf (Wn.some hf rfl rfl rfl rfl) rfl rfl ?_)
          clear hf; intro a hf
          refine step_l (st_skip hf (Wn.some hf rfl rfl rfl rfl) rfl rfl ?_)
          clear hf; intro a hf
          refine step_l (st_skip hf (Wn.some hf rfl rfl rfl rfl) rfl rfl ?_)
          clear hf; intro a hf
          refine step_l (st_skip hf (Wn.some hf rfl rfl rfl rfl) rfl rfl ?_)
          clear hf; intro a hf
          refine step_l (st_skip hf (Wn.some hf rfl rfl rfl rfl) rfl rfl ?_)
          clear hf; intro a hf
          refine step_l (st_rd hf (Wn.none rfl) (rd_pick_t hf rfl rfl rfl) hS rfl rfl ?_)
          clear hf; intro a hf
          refine step_l (st_rd hf (Wn.none rfl) (rd_move hf rfl rfl) hS rfl rfl ?_)
          clear hf; intro a hf
          refine step_l (st_skip hf (Wn.some hf rfl rfl rfl rfl) rfl rfl ?_)
          clear hf; intro a hf
          refine step_l (st_skip hf (Wn.some hf rfl rfl rfl rfl) rfl rfl ?_)
          clear hf; intro a hf
          refine step_l (st_skip hf (Wn.some hf rfl rfl rfl rfl) rfl rfl ?_)
          clear hf; intro a hf
          refine step_l (st_skip hf (Wn.some hf rfl rfl rfl rfl) rfl rfl ?_)
          clear hf; intro a hf
          refine step_l (st_skip hf (Wn.some hf rfl rfl rfl rfl) rfl rfl ?_)
          clear hf; intro a hf
          refine step_l (st_skip hf (Wn.some hf rfl rfl rfl rfl) rfl rfl ?_)
          clear hf; intro a hf
          refine step_l (st_rd hf (Wn.none rfl) (rd_pick_t hf rfl rfl rfl) hS rfl rfl ?_)
          clear hf; intro a hf
          refine done_l ?_
          refine t_normal ?_
          refine c_true hf rfl ?_
          refine c_seq ?_
          refine c_region ?_
          refine step_l (st_rd hf (Wn.none rfl) (rd_assign hf rfl rfl) hS rfl rfl ?_)
          clear hf; intro a hf
          refine step_l (st_rd hf (Wn.none rfl) (rd_assign hf rfl rfl) hS rfl rfl ?_)
          clear hf; intro a hf
          refine done_l ?_
          refine t_normal ?_
          refine c_ret ?_
          refine t_ret ?_
          refine b_ret ?_
          refine t_ret ?_
          refine t_ret ?_
          refine b_ret ?_
          refine t_ret ?_
          refine e_resN hf.defers rfl (res_tmp hf rfl (res_tmp hf rfl .nil)) ?_
          refine ⟨?_, hS.sub (by repeat (first | exact Sub.refl | exact Sub.none | (apply Sub.cons; (focus ((repeat (first | exact Sel.head | apply Sel.tail)); done))) | apply Sub.skip))⟩
          clear hf hS
          rw [ref_none (by rw [hpar, raw_bad2 hget (by omega) (by omega)]; rfl)]; rfl
        · clear hf; intro hc5 a hf
          obtain ⟨x, hget1⟩ := get_of_lt (l := bs) (k := i + 1) (by omega) rfl; obtain ⟨y, hget2⟩ := get_of_lt (l := bs) (k := i + 2) (by omega) rfl; have hdx := digF_le x; have hdy := digF_le y
          refine step_l (st_rd hf (Wn.none rfl) (rd_move hf rfl rfl) hS rfl rfl ?_)
          clear hf; intro a hf
          refine step_l (st_rd hf (Wn.some hf rfl rfl rfl rfl) (rd_move hf rfl rfl) hS rfl rfl ?_)
          clear hf; intro a hf
          refine step_l (st_rd hf (Wn.some hf rfl rfl rfl rfl) (rd_move hf rfl rfl) hS rfl rfl ?_)
          clear hf; intro a hf
          refine step_l (st_rd hf (Wn.some hf rfl rfl rfl rfl) (rd_add hf rfl rfl rfl (by first | exact Go.IntWalk.i64_in _ (by omega) | exact rfl)) hS rfl rfl ?_)
          clear hf; intro a hf
          refine step_l (st_rd hf (Wn.some hf rfl rfl rfl rfl) (rd_indexS hf rfl rfl rfl Try.underlying9 (by omega) (by simp only [Int.toNat_natCast, toNat_c1, toNat_c2]; assumption)) hS rfl rfl ?_)
          clear hf; intro a hf
          refine step_l (st_call hf (Wn.some hf rfl rfl rfl rfl) rfl rfl rfl fn45 (hex_c _  hS) rfl rfl ?_)
          clear hf hS; rintro v a w ⟨rfl, hS⟩ hf
          refine step_l (st_rdB hf (Wn.some hf rfl rfl rfl rfl) (rd_lss hf rfl rfl rfl) hS rfl rfl ?_ ?_)
          · clear hf; intro hc6 a hf
            refine step_l (st_rd hf (Wn.none rfl) (rd_pick_f hf rfl rfl rfl) hS rfl rfl ?_)
            clear hf; intro a hf
            refine step_l (st_rd hf (Wn.none rfl) (rd_move hf rfl rfl) hS rfl rfl ?_)
            clear hf; intro a hf
            refine step_l (st_skip hf (Wn.some hf rfl rfl rfl rfl) rfl rfl ?_)
            clear hf; intro a hf
            refine step_l (st_skip hf (Wn.some hf rfl rfl rfl rfl) rfl rfl ?_)
            clear hf; intro a hf
            refine step_l (st_skip hf (Wn.some hf rfl rfl rfl rfl) rfl rfl ?_)
            clear hf; intro a hf
            refine step_l (st_skip hf (Wn.some hf rfl rfl rfl rfl) rfl rfl ?_)
            clear hf; intro a hf
            refine step_l (st_skip hf (Wn.some hf rfl rfl rfl rfl) rfl rfl ?_)
            clear hf; intro a hf
            refine step_l (st_skip hf (Wn.some hf rfl rfl rfl rfl) rfl rfl ?_)
            clear hf; intro a hf
            refine step_l (st_rd hf (Wn.none rfl) (rd_pick_t hf rfl rfl rfl) hS rfl rfl ?_)
            clear hf; intro a hf
            refine done_l ?_
            refine t_normal ?_
            refine c_true hf rfl ?_
            refine c_seq ?_
            refine c_region ?_
            refine step_l (st_rd hf (Wn.none rfl) (rd_assign hf rfl rfl) hS rfl rfl ?_)
            clear hf; intro a hf
            refine step_l (st_rd hf (Wn.none rfl) (rd_assign hf rfl rfl) hS rfl rfl ?_)
            clear hf; intro a hf
            refine done_l ?_
            refine t_normal ?_
            refine c_ret ?_
            refine t_ret ?_
            refine b_ret ?_
            refine t_ret ?_
            refine t_ret ?_
            refine b_ret ?_
            refine t_ret ?_
            refine e_resN hf.defers rfl (res_tmp hf rfl (res_tmp hf rfl .nil)) ?_
            refine ⟨?_, hS.sub (by repeat (first | exact Sub.refl | exact Sub.none | (apply Sub.cons; (focus ((repeat (first | exact Sel.head | apply Sel.tail)); done))) | apply Sub.skip))⟩
            clear hf hS
            rw [ref_none (by rw [hpar, raw_esc hget (by omega) hget1 hget2, if_pos (by omega)]; rfl)]; rfl
          · clear hf; intro hc6 a hf
            refine step_l (st_rd hf (Wn.none rfl) (rd_pick_f hf rfl rfl rfl) hS rfl rfl ?_)
            clear hf; intro a hf
            refine step_l (st_rd hf (Wn.none rfl) (rd_move hf rfl rfl) hS rfl rfl ?_)
            clear hf; intro a hf
            refine step_l (st_rd hf (Wn.some hf rfl rfl rfl rfl) (rd_move hf rfl rfl) hS rfl rfl ?_)
            clear hf; intro a hf
            refine step_l (st_rd hf (Wn.some hf rfl rfl rfl rfl) (rd_move hf rfl rfl) hS rfl rfl ?_)
            clear hf; intro a hf
            refine step_l (st_rd hf (Wn.some hf rfl rfl rfl rfl) (rd_add hf rfl rfl rfl (by first | exact Go.IntWalk.i64_in _ (by omega) | exact rfl)) hS rfl rfl ?_)
            clear hf; intro a hf
            refine step_l (st_rd hf (Wn.some hf rfl rfl rfl rfl) (rd_indexS hf rfl rfl rfl Try.underlying9 (by omega) (by simp only [Int.toNat_natCast, toNat_c1, toNat_c2]; assumption)) hS rfl rfl ?_)
            clear hf; intro a hf
            refine step_l (st_call hf (Wn.some hf rfl rfl rfl rfl) rfl rfl rfl fn45 (hex_c _  hS) rfl rfl ?_)
            clear hf hS; rintro v a w ⟨rfl, hS⟩ hf
            refine step_l (st_rdB hf (Wn.some hf rfl rfl rfl rfl) (rd_lss hf rfl rfl rfl) hS rfl rfl ?_ ?_)
            · clear hf; intro hc7 a hf
              refine step_l (st_rd hf (Wn.none rfl) (rd_pick_f hf rfl rfl rfl) hS rfl rfl ?_)
              clear hf; intro a hf
              refine done_l ?_
              refine t_normal ?_
              refine c_true hf rfl ?_
              refine c_seq ?_
              refine c_region ?_
              refine step_l (st_rd hf (Wn.none rfl) (rd_assign hf rfl rfl) hS rfl rfl ?_)
              clear hf; intro a hf
              refine step_l (st_rd hf (Wn.none rfl) (rd_assign hf rfl rfl) hS rfl rfl ?_)
              clear hf; intro a hf
              refine done_l ?_
              refine t_normal ?_
              refine c_ret ?_
              refine t_ret ?_
              refine b_ret ?_
              refine t_ret ?_
              refine t_ret ?_
              refine b_ret ?_
              refine t_ret ?_
              refine e_resN hf.defers rfl (res_tmp hf rfl (res_tmp hf rfl .nil)) ?_
              refine ⟨?_, hS.sub (by repeat (first | exact Sub.refl | exact Sub.none | (apply Sub.cons; (focus ((repeat (first | exact Sel.head | apply Sel.tail)); done))) | apply Sub.skip))⟩
              clear hf hS
              rw [ref_none (by rw [hpar, raw_esc hget (by omega) hget1 hget2, if_pos (by omega)]; rfl)]; rfl
            · clear hf; intro hc7 a hf
              refine step_l (st_rd hf (Wn.none rfl) (rd_pick_f hf rfl rfl rfl) hS rfl rfl ?_)
              clear hf; intro a hf
              refine done_l ?_
              refine t_normal ?_
              refine c_false hf rfl ?_
              refine c_skip ?_
              refine t_normal ?_
              refine c_seq ?_
              refine any_begin (S := Sat W (R)) mixed (hS.drew.sub (by repeat (first | exact Sub.refl | exact Sub.none | (apply Sub.cons; (focus ((repeat (first | exact Sel.head | apply Sel.tail)); done))) | apply Sub.skip))) ?_
              have hT : Sat W (R) _ := hS.drew.sub (by repeat (first | exact Sub.refl | exact Sub.none | (apply Sub.cons; (focus ((repeat (first | exact Sel.head | apply Sel.tail)); done))) | apply Sub.skip))
              replace hS := hS.drew
              refine any_take (i := 0) hf rfl (by kernel_rfl) (by kernel_rfl) (by kernel_rfl) (fun _ _ _ h => h) (Wn.none rfl) (rd_move hf rfl rfl) hT rfl rfl ?_
              clear hf; intro a hf
              refine any_take (i := 1) hf rfl (by kernel_rfl) (by kernel_rfl) (by kernel_rfl) (fun _ _ _ h => h) (Wn.none rfl) (rd_move hf rfl rfl) hT rfl rfl ?_
              clear hf; intro a hf
              refine any_take (i := 2) hf rfl (by kernel_rfl) (by kernel_rfl) (by kernel_rfl) (fun _ _ _ h => h) (Wn.none rfl) (rd_move hf rfl rfl) hT rfl rfl ?_
              clear hf; intro a hf
              refine any_take (i := 3) hf rfl (by kernel_rfl) (by kernel_rfl) (by kernel_rfl) (fun _ _ _ h => h) (Wn.none rfl) (rd_add hf rfl rfl rfl (by first | exact Go.IntWalk.i64_in _ (by omega) | exact rfl)) hT rfl rfl ?_
              clear hf; intro a hf
              refine any_take (i := 4) hf rfl (by kernel_rfl) (by kernel_rfl) (by kernel_rfl) (fun _ _ _ h => h) (Wn.none rfl) (rd_indexS hf rfl rfl rfl Try.underlying9 (by omega) (by simp only [Int.toNat_natCast, toNat_c1, toNat_c2]; assumption)) hT rfl rfl ?_
              clear hf; intro a hf
              refine any_take (i := 7) hf rfl (by kernel_rfl) (by kernel_rfl) (by kernel_rfl) (fun _ _ _ h => h) (Wn.none rfl) (rd_move hf rfl rfl) hT rfl rfl ?_
              clear hf; intro a hf
              refine any_take (i := 8) hf rfl (by kernel_rfl) (by kernel_rfl) (by kernel_rfl) (fun _ _ _ h => h) (Wn.none rfl) (rd_move hf rfl rfl) hT rfl rfl ?_
              clear hf; intro a hf
              refine any_take (i := 9) hf rfl (by kernel_rfl) (by kernel_rfl) (by kernel_rfl) (fun _ _ _ h => h) (Wn.none rfl) (rd_add hf rfl rfl rfl (by first | exact Go.IntWalk.i64_in _ (by omega) | exact rfl)) hT rfl rfl ?_
              clear hf; intro a hf
              refine any_take (i := 10) hf rfl (by kernel_rfl) (by kernel_rfl) (by kernel_rfl) (fun _ _ _ h => h) (Wn.none rfl) (rd_indexS hf rfl rfl rfl Try.underlying9 (by omega) (by simp only [Int.toNat_natCast, toNat_c1, toNat_c2]; assumption)) hT rfl rfl ?_
              clear hf; intro a hf
              refine any_one (i := 5) rfl (by kernel_rfl) (st_call hf (Wn.none rfl) rfl rfl rfl fn45 (hex_c _  hS) rfl rfl ?_)
              clear hf hS; rintro v a w ⟨rfl, hS⟩ hf
              replace hT := hS.sub' hT (by repeat (first | exact Sub.refl | exact Sub.none | (apply Sub.cons; (focus ((repeat (first | exact Sel.head | apply Sel.tail)); done))) | apply Sub.skip))
              refine ⟨hT, ?_⟩
              refine any_take (i := 6) hf rfl (by kernel_rfl) (by kernel_rfl) (by kernel_rfl) (fun _ _ _ h => h) (Wn.none rfl) (rd_mul hf rfl rfl rfl (mul16 (by omega))) hT rfl rfl ?_
              clear hf; intro a hf
              refine any_one (i := 11) rfl (by kernel_rfl) (st_call hf (Wn.none rfl) rfl rfl rfl fn45 (hex_c _  hS) rfl rfl ?_)
              clear hf hS; rintro v a w ⟨rfl, hS⟩ hf
              replace hT := hS.sub' hT (by repeat (first | exact Sub.refl | exact Sub.none | (apply Sub.cons; (focus ((repeat (first | exact Sel.head | apply Sel.tail)); done))) | apply Sub.skip))
              refine ⟨hT, ?_⟩
              refine any_take (i := 12) hf rfl (by kernel_rfl) (by kernel_rfl) (by kernel_rfl) (fun _ _ _ h => h) (Wn.none rfl) (rd_add hf rfl rfl rfl (by first | exact Go.IntWalk.i64_in _ (by omega) | exact rfl)) hT rfl rfl ?_
              clear hf; intro a hf
              refine any_take (i := 13) hf rfl (by kernel_rfl) (by kernel_rfl) (by kernel_rfl) (fun _ _ _ h => h) (Wn.none rfl) (rd_convInt hf rfl rfl Try.underlying3 Try.underlying5 (byte_of (by omega))) hT rfl rfl ?_
              clear hf; intro a hf
              refine any_one (i := 14) rfl (by kernel_rfl) (st_buildSlice hf (Wn.none rfl) hS rfl rfl Try.underlying36 sz5 zr5 (by decide) bz5_1 rfl (.cons rfl (by rfl) (by rfl) (by repeat (first | exact Put.nil | apply Put.cons | apply Put.succ)) .nil) rfl rfl ?_)
              clear hf hS; intro b_8 a w hf hS
              replace hT := hS.sub' hT (by repeat (first | exact Sub.refl | exact Sub.none | (apply Sub.cons; (focus ((repeat (first | exact Sel.head | apply Sel.tail)); done))) | apply Sub.skip))
              refine ⟨hT, ?_⟩
              refine any_one (i := 15) rfl (by kernel_rfl) (st_append hf (Wn.none rfl) rfl rfl rfl Try.underlying36 tyb5 (by rfl) (by decide) hS (by repeat (first | exact Sel.head | apply Sel.tail)) (by first | exact hS.slOfBlk (by repeat (first | exact Sel.head | apply Sel.tail)) (by rfl) | exact hS.slOfBlkPre (by repeat (first | exact Sel.head | apply Sel.tail)) (bvs_len1 _) | exact hS.slOfRw (by repeat (first | exact Sel.head | apply Sel.tail)) | exact SlAt.nil _ _ _) (by first | rfl | exact bvs_one _ | (simp [Value.oneCell']; done)) (by omega) rfl rfl ?_)
              clear hf hS; intro pA capA a w hf hS hnilA
              replace hT := hS.sub' hT (by repeat (first | exact Sub.refl | exact Sub.none | (apply Sub.cons; (focus ((repeat (first | exact Sel.head | apply Sel.tail)); done))) | apply Sub.skip))
              refine ⟨hT, ?_⟩
              refine any_take (i := 16) hf rfl (by kernel_rfl) (by kernel_rfl) (by kernel_rfl) (fun _ _ _ h => h) (Wn.none rfl) (rd_assign hf rfl rfl) hT rfl rfl ?_
              clear hf; intro a hf
              refine any_done (by kernel_rfl) ?_
              refine t_normal ?_
              refine c_region ?_
              refine step_l (st_rd hf (Wn.none rfl) (rd_move hf rfl rfl) hS rfl rfl ?_)
              clear hf; intro a hf
              refine step_l (st_rd hf (Wn.none rfl) (rd_add hf rfl rfl rfl (by first | exact Go.IntWalk.i64_in _ (by omega) | exact rfl)) hS rfl rfl ?_)
              clear hf; intro a hf
              refine step_l (st_rd hf (Wn.none rfl) (rd_assign hf rfl rfl) hS rfl rfl ?_)
              clear hf; intro a hf
              refine done_l ?_
              refine b_normal ?_
              refine t_normal ?_
              refine c_region ?_
              refine step_l (st_rd hf (Wn.none rfl) (rd_move hf rfl rfl) hS rfl rfl ?_)
              clear hf; intro a hf
              refine step_l (st_rd hf (Wn.none rfl) (rd_add hf rfl rfl rfl (by first | exact Go.IntWalk.i64_in _ (by omega) | exact rfl)) hS rfl rfl ?_)
              clear hf; intro a hf
              refine step_l (st_rd hf (Wn.none rfl) (rd_assign hf rfl rfl) hS rfl rfl ?_)
              clear hf; intro a hf
              refine done_l ?_
              refine t_normal ⟨(i + 3, out ++ [escF x y], pA, len + 1, capA), ⟨(((((hf.k0.kb hf 5 rfl (by first | rfl | exact int_eq (by omega))).kb hf 4 rfl (by rfl)).kb hf 3 rfl (by first | rfl | exact int_eq (by omega))).kb hf 2 rfl (by first | rfl | exact int_eq (by omega))).kb hf 0 rfl (by first | rfl | exact int_eq (by omega))), (hS.rwCast (xs' := bvs (out ++ [escF x y])) (by simp [escF]) rfl).sub (by repeat (first | exact Sub.refl | exact Sub.none | (apply Sub.cons; (focus ((repeat (first | exact Sel.head | apply Sel.tail)); done))) | apply Sub.skip)), ⟨by omega, by simp [hlen], by simp; omega, by rw [hpar, raw_esc hget (by omega) hget1 hget2, if_neg (by omega), map_app]⟩⟩, by first | omega | (simp only []; omega)⟩
    · clear hf; intro hc1 a hf
      refine done_l ?_
      refine t_normal ?_
      refine c_false hf rfl ?_
      refine c_exit ?_
      refine t_exit ?_
      refine t_exit ?_
      refine b_exit ?_
      refine t_normal ?_
      refine c_seq ?_
      refine c_seq ?_
      refine c_region ?_
      refine step_l (st_rd hf (Wn.none rfl) (rd_move hf rfl rfl) hS rfl rfl ?_)
      clear hf; intro a hf
      refine step_l (st_rd hf (Wn.none rfl) (rd_str hf rfl rfl Try.underlying36 Try.underlying9 Try.underlying5 (by intro _ h; first | exact h.slOfRw (by repeat (first | exact Sel.head | apply Sel.tail)) | exact h.slOfBlkPre (by repeat (first | exact Sel.head | apply Sel.tail)) (bvs_len1 _))) hS rfl rfl ?_)
      clear hf; intro a hf
      refine step_l (st_call hf (Wn.none rfl) rfl rfl rfl fn34 (KeyText_c _ (by first | omega | (simp only [List.length_cons, List.length_nil, List.length_append]; omega)) hS) rfl rfl ?_)
      clear hf hS; rintro v a w ⟨rfl, hS⟩ hf
      refine step_l (st_rd hf (Wn.none rfl) (rd_move hf rfl rfl) hS rfl rfl ?_)
      clear hf; intro a hf
      refine step_l (st_rdB hf (Wn.none rfl) (rd_neqS hf rfl rfl rfl) hS rfl rfl ?_ ?_)
      · clear hf; intro hc10 a hf
        refine done_l ?_
        refine t_normal ?_
        refine c_true hf rfl ?_
        refine c_seq ?_
        refine c_region ?_
        refine step_l (st_rd hf (Wn.none rfl) (rd_assign hf rfl rfl) hS rfl rfl ?_)
        clear hf; intro a hf
        refine step_l (st_rd hf (Wn.none rfl) (rd_assign hf rfl rfl) hS rfl rfl ?_)
        clear hf; intro a hf
        refine done_l ?_
        refine t_normal ?_
        refine c_ret ?_
        refine t_ret ?_
        refine e_resN hf.defers rfl (res_tmp hf rfl (res_tmp hf rfl .nil)) ?_
        refine ⟨?_, hS.sub (by repeat (first | exact Sub.refl | exact Sub.none | (apply Sub.cons; (focus ((repeat (first | exact Sel.head | apply Sel.tail)); done))) | apply Sub.skip))⟩
        clear hf hS
        rw [ref_ne (by rw [hpar, List.drop_of_length_le (by omega)]; simp only [rawF, Option.map_some, List.append_nil]; rfl) (by assumption)]; rfl
      · clear hf; intro hc10 a hf
        refine done_l ?_
        refine t_normal ?_
        refine c_false hf rfl ?_
        refine c_skip ?_
        refine t_normal ?_
        refine c_seq ?_
        refine c_region ?_
        refine step_l (st_rd hf (Wn.none rfl) (rd_move hf rfl rfl) hS rfl rfl ?_)
        clear hf; intro a hf
        refine step_l (st_rd hf (Wn.none rfl) (rd_str hf rfl rfl Try.underlying36 Try.underlying9 Try.underlying5 (by intro _ h; first | exact h.slOfRw (by repeat (first | exact Sel.head | apply Sel.tail)) | exact h.slOfBlkPre (by repeat (first | exact Sel.head | apply Sel.tail)) (bvs_len1 _))) hS rfl rfl ?_)
        clear hf; intro a hf
        refine step_l (st_rd hf (Wn.none rfl) (rd_assign hf rfl rfl) hS rfl rfl ?_)
        clear hf; intro a hf
        refine step_l (st_rd hf (Wn.none rfl) (rd_assign hf rfl rfl) hS rfl rfl ?_)
        clear hf; intro a hf
        refine done_l ?_
        refine t_normal ?_
        refine c_ret ?_
        refine e_resN hf.defers rfl (res_tmp hf rfl (res_tmp hf rfl .nil)) ?_
        refine ⟨?_, hS.sub (by repeat (first | exact Sub.refl | exact Sub.none | (apply Sub.cons; (focus ((repeat (first | exact Sel.head | apply Sel.tail)); done))) | apply Sub.skip))⟩
        clear hf hS
        rw [ref_eq (by rw [hpar, List.drop_of_length_le (by omega)]; simp only [rawF, Option.map_some, List.append_nil]; rfl) (by assumption)]; rfl

theorem awake9_c  {W : World} {R : List HP} {w : World}  (hS : Sat W R w) : Calls Try.prog 19 [].toArray w (Ret fun v w' => v = .bool true ∧ Sat W R w') := by
  refine fn_start 14 Try.func19 rfl rfl rfl ?_
  intro a hf
  refine c_seq ?_
  refine c_region ?_
  refine step_l (st_rd hf (Wn.none rfl) (rd_assign hf rfl rfl) hS rfl rfl ?_)
  clear hf; intro a hf
  refine done_l ?_
  refine t_normal ?_
  refine c_seq ?_
  refine c_region ?_
  refine step_l (st_call hf (Wn.none rfl) rfl rfl rfl fn20 (Bucket_c _ (by first | omega | (simp only [List.length_cons, List.length_nil, List.length_append]; omega)) hS) rfl rfl ?_)
  clear hf hS; rintro v a w ⟨rfl, hS⟩ hf
  refine step_l (st_rdB hf (Wn.none rfl) (rd_eql hf rfl rfl rfl) hS rfl rfl ?_ ?_)
  · clear hf; intro hc1 a hf
    first
    | (first | contradiction | exact absurd (by decide) hc1 | exact absurd hc1 (by decide); done)
    | (
      refine step_l (st_rd hf (Wn.none rfl) (rd_move hf rfl rfl) hS rfl rfl ?_)
      clear hf; intro a hf
      refine step_l (st_call hf (Wn.some hf rfl rfl rfl rfl) rfl rfl rfl fn33 (Text_c _ (by first | omega | (simp only [List.length_cons, List.length_nil, List.length_append]; omega)) hS) rfl rfl ?_)
      clear hf hS; rintro v a w ⟨rfl, hS⟩ hf
      refine step_l (st_rdB hf (Wn.some hf rfl rfl rfl rfl) (rd_eqlS hf rfl rfl rfl) hS rfl rfl ?_ ?_)
      · clear hf; intro hc2 a hf
        first
        | (first | contradiction | exact absurd (by decide) hc2 | exact absurd hc2 (by decide); done)
        | (
          refine step_l (st_rd hf (Wn.none rfl) (rd_pick_t hf rfl rfl rfl) hS rfl rfl ?_)
          clear hf; intro a hf
          refine step_l (st_rd hf (Wn.none rfl) (rd_move hf rfl rfl) hS rfl rfl ?_)
          clear hf; intro a hf
          refine step_l (st_call hf (Wn.some hf rfl rfl rfl rfl) rfl rfl rfl fn21 (keyMay_c _  hS) rfl rfl ?_)
          clear hf hS; rintro v a w ⟨rfl, hS⟩ hf
          first | refine split_dec (d := 8) hf rfl ?_ ?_ | refine split_bool (d := 8) hf rfl ?_ ?_
          · clear hf; intro hc3 hf
            first
            | (first | contradiction | exact absurd (by decide) hc3 | exact absurd hc3 (by decide); done)
            | (
              refine step_l (st_rd hf (Wn.none rfl) (rd_pick_t hf rfl rfl rfl) hS rfl rfl ?_)
              clear hf; intro a hf
              refine step_l (st_rd hf (Wn.none rfl) (rd_move hf rfl rfl) hS rfl rfl ?_)
              clear hf; intro a hf
              refine step_l (st_call hf (Wn.some hf rfl rfl rfl rfl) rfl rfl rfl fn21 (keyMay_c _  hS) rfl rfl ?_)
              clear hf hS; rintro v a w ⟨rfl, hS⟩ hf
              refine step_l (st_rd hf (Wn.some hf rfl rfl rfl rfl) (rd_not hf rfl rfl) hS rfl rfl ?_)
              clear hf; intro a hf
              refine step_l (st_rd hf (Wn.none rfl) (rd_pick_t hf rfl rfl rfl) hS rfl rfl ?_)
              clear hf; intro a hf
              refine step_l (st_rd hf (Wn.none rfl) (rd_assign hf rfl rfl) hS rfl rfl ?_)
              clear hf; intro a hf
              refine done_l ?_
              refine t_normal ?_
              refine c_ret ?_
              refine e_res1 hf.defers rfl (res_tmp hf rfl .nil) ?_
              refine ⟨?_, hS.sub (by repeat (first | exact Sub.refl | exact Sub.none | (apply Sub.cons; (focus ((repeat (first | exact Sel.head | apply Sel.tail)); done))) | apply Sub.skip))⟩
              clear hf hS
              rfl
              )
          · clear hf; intro hc3 hf
            first
            | (first | contradiction | exact absurd (by decide) hc3 | exact absurd hc3 (by decide); done)
            | (
              refine step_l (st_rd hf (Wn.none rfl) (rd_pick_t hf rfl rfl rfl) hS rfl rfl ?_)
              clear hf; intro a hf
              refine step_l (st_rd hf (Wn.none rfl) (rd_move hf rfl rfl) hS rfl rfl ?_)
              clear hf; intro a hf
              refine step_l (st_skip hf (Wn.some hf rfl rfl rfl rfl) rfl rfl ?_)
              clear hf; intro a hf
              refine step_l (st_skip hf (Wn.some hf rfl rfl rfl rfl) rfl rfl ?_)
              clear hf; intro a hf
              refine step_l (st_rd hf (Wn.none rfl) (rd_pick_f hf rfl rfl rfl) hS rfl rfl ?_)
              clear hf; intro a hf
              refine step_l (st_rd hf (Wn.none rfl) (rd_assign hf rfl rfl) hS rfl rfl ?_)
              clear hf; intro a hf
              refine done_l ?_
              refine t_normal ?_
              refine c_ret ?_
              refine e_res1 hf.defers rfl (res_tmp hf rfl .nil) ?_
              refine ⟨?_, hS.sub (by repeat (first | exact Sub.refl | exact Sub.none | (apply Sub.cons; (focus ((repeat (first | exact Sel.head | apply Sel.tail)); done))) | apply Sub.skip))⟩
              clear hf hS
              rfl
              )
          )
      · clear hf; intro hc2 a hf
        first
        | (first | contradiction | exact absurd (by decide) hc2 | exact absurd hc2 (by decide); done)
        | (
          refine step_l (st_rd hf (Wn.none rfl) (rd_pick_t hf rfl rfl rfl) hS rfl rfl ?_)
          clear hf; intro a hf
          refine step_l (st_rd hf (Wn.none rfl) (rd_move hf rfl rfl) hS rfl rfl ?_)
          clear hf; intro a hf
          refine step_l (st_skip hf (Wn.some hf rfl rfl rfl rfl) rfl rfl ?_)
          clear hf; intro a hf
          refine step_l (st_rd hf (Wn.none rfl) (rd_pick_f hf rfl rfl rfl) hS rfl rfl ?_)
          clear hf; intro a hf
          refine step_l (st_rd hf (Wn.none rfl) (rd_move hf rfl rfl) hS rfl rfl ?_)
          clear hf; intro a hf
          refine step_l (st_skip hf (Wn.some hf rfl rfl rfl rfl) rfl rfl ?_)
          clear hf; intro a hf
          refine step_l (st_skip hf (Wn.some hf rfl rfl rfl rfl) rfl rfl ?_)
          clear hf; intro a hf
          refine step_l (st_rd hf (Wn.none rfl) (rd_pick_f hf rfl rfl rfl) hS rfl rfl ?_)
          clear hf; intro a hf
          refine step_l (st_rd hf (Wn.none rfl) (rd_assign hf rfl rfl) hS rfl rfl ?_)
          clear hf; intro a hf
          refine done_l ?_
          refine t_normal ?_
          refine c_ret ?_
          refine e_res1 hf.defers rfl (res_tmp hf rfl .nil) ?_
          refine ⟨?_, hS.sub (by repeat (first | exact Sub.refl | exact Sub.none | (apply Sub.cons; (focus ((repeat (first | exact Sel.head | apply Sel.tail)); done))) | apply Sub.skip))⟩
          clear hf hS
          rfl
          )
      )
  · clear hf; intro hc1 a hf
    first
    | (first | contradiction | exact absurd (by decide) hc1 | exact absurd hc1 (by decide); done)
    | (
      refine step_l (st_rd hf (Wn.none rfl) (rd_move hf rfl rfl) hS rfl rfl ?_)
      clear hf; intro a hf
      refine step_l (st_skip hf (Wn.some hf rfl rfl rfl rfl) rfl rfl ?_)
      clear hf; intro a hf
      refine step_l (st_skip hf (Wn.some hf rfl rfl rfl rfl) rfl rfl ?_)
      clear hf; intro a hf
      refine step_l (st_rd hf (Wn.none rfl) (rd_pick_f hf rfl rfl rfl) hS rfl rfl ?_)
      clear hf; intro a hf
      refine step_l (st_rd hf (Wn.none rfl) (rd_move hf rfl rfl) hS rfl rfl ?_)
      clear hf; intro a hf
      refine step_l (st_skip hf (Wn.some hf rfl rfl rfl rfl) rfl rfl ?_)
      clear hf; intro a hf
      refine step_l (st_rd hf (Wn.none rfl) (rd_pick_f hf rfl rfl rfl) hS rfl rfl ?_)
      clear hf; intro a hf
      refine step_l (st_rd hf (Wn.none rfl) (rd_move hf rfl rfl) hS rfl rfl ?_)
      clear hf; intro a hf
      refine step_l (st_skip hf (Wn.some hf rfl rfl rfl rfl) rfl rfl ?_)
      clear hf; intro a hf
      refine step_l (st_skip hf (Wn.some hf rfl rfl rfl rfl) rfl rfl ?_)
      clear hf; intro a hf
      refine step_l (st_rd hf (Wn.none rfl) (rd_pick_f hf rfl rfl rfl) hS rfl rfl ?_)
      clear hf; intro a hf
      refine step_l (st_rd hf (Wn.none rfl) (rd_assign hf rfl rfl) hS rfl rfl ?_)
      clear hf; intro a hf
      refine done_l ?_
      refine t_normal ?_
      refine c_ret ?_
      refine e_res1 hf.defers rfl (res_tmp hf rfl .nil) ?_
      refine ⟨?_, hS.sub (by repeat (first | exact Sub.refl | exact Sub.none | (apply Sub.cons; (focus ((repeat (first | exact Sel.head | apply Sel.tail)); done))) | apply Sub.skip))⟩
      clear hf hS
      rfl
      )

theorem bucket_app (a b : List UInt8) : bucketF (a ++ b) = (bucketF a + bucketF b) % 4 := by
  have key : ∀ (b : List UInt8) (n m : Nat), b.foldl (fun n c => (n + c.toNat) % 4) ((n + m) % 4) = (n + b.foldl (fun n c => (n + c.toNat) % 4) (m % 4)) % 4 := by
    intro b
    induction b with
    | nil => intro n m; simp
    | cons c r ih => intro n m; simp only [List.foldl_cons]; rw [show ((n + m) % 4 + c.toNat) % 4 = (n + (m % 4 + c.toNat)) % 4 from by omega]; exact ih n (m % 4 + c.toNat)
  unfold bucketF
  rw [List.foldl_append]
  have h := key b (a.foldl (fun n c => (n + c.toNat) % 4) 0) 0
  have hl := bucketF_lt a
  unfold bucketF at hl
  rw [Nat.add_zero, Nat.mod_eq_of_lt hl] at h
  exact h
theorem bucket_law1 (a b : List UInt8) : ((bucketF (a ++ b) : Nat) : Int) = ((bucketF a : Nat) + (bucketF b : Nat) : Int) % 4 := by rw [bucket_app]; omega
theorem bucket_law2 (a b : List UInt8) : ((bucketF (a ++ b) : Nat) : Int) = ((bucketF (b ++ a) : Nat) : Int) := by rw [bucket_app, bucket_app, Nat.add_comm]
theorem hexd_inv : ∀ n : Nat, n < 16 → digF (hexd n) = n := by
  have h : ∀ k : Fin 16, digF (hexd k.val) = k.val := by decide
  intro n hn; exact h ⟨n, hn⟩
theorem esc_inv (c : UInt8) : escF (hexd (c.toNat / 16)) (hexd (c.toNat % 16)) = c := by
  have hc := c.toNat_lt
  unfold escF
  rw [hexd_inv _ (by omega), hexd_inv _ (by omega)]
  rw [show ((((c.toNat / 16 : Nat) : Int)) * 16 + ((c.toNat % 16 : Nat) : Int)).toNat = c.toNat from by omega]
  simp
theorem parse_text (a : List UInt8) : parseF (textF a) = some a := by
  induction a with
  | nil => rfl
  | cons c r ih =>
    rw [textF_cons]
    have hc := c.toNat_lt
    by_cases hp : plainP c
    · rw [encF_pos hp, List.singleton_append, parse_cons, if_pos hp, ih]; rfl
    · rw [encF_neg hp]
      simp only [List.cons_append, List.nil_append]
      rw [parse_cons, if_neg (by decide), if_neg (by decide)]
      simp only []
      rw [if_neg (by rw [hexd_inv _ (by omega), hexd_inv _ (by omega)]; omega), esc_inv, if_neg hp, ih]
      rfl
theorem text_inj (a b : List UInt8) : (textF a = textF b) ↔ (a = b) := by
  constructor
  · intro h
    have := parse_text a
    rw [h, parse_text b] at this
    cases this; rfl
  · intro h; rw [h]
theorem parse_inv {s k : List UInt8} (h : parseF s = some k) : textF k = s := (parse_raw _ s k (Nat.le_refl _) h).2
theorem encF_ge (c : UInt8) : 1 ≤ (encF c).length := by unfold encF; split <;> simp
theorem textF_ge (bs : List UInt8) : bs.length ≤ (textF bs).length := by
  induction bs with
  | nil => simp
  | cons c r ih => rw [textF_cons, List.length_append]; have := encF_ge c; simp; omega
theorem hexd_chars : ∀ n : Nat, n < 16 → plainP (hexd n) := by
  have h : ∀ k : Fin 16, plainP (hexd k.val) := by decide
  intro n hn; exact h ⟨n, hn⟩
theorem text_chars (k : List UInt8) : ∀ c ∈ textF k, plainP c ∨ c.toNat = 37 := by
  induction k with
  | nil => simp [textF]
  | cons d r ih =>
    intro c hc
    rw [textF_cons, List.mem_append] at hc
    have hd := d.toNat_lt
    rcases hc with hc | hc
    · by_cases hp : plainP d
      · rw [encF_pos hp] at hc; simp at hc; subst hc; exact .inl hp
      · rw [encF_neg hp] at hc
        simp at hc
        rcases hc with rfl | rfl | rfl
        · exact .inr rfl
        · exact .inl (hexd_chars _ (by omega))
        · exact .inl (hexd_chars _ (by omega))
    · exact ih c hc
theorem resP_cases (o : Option (List UInt8)) : ∃ k ok, resP o = .tuple #[.string (str k), .bool ok] ∧ (ok = true → o = some k) ∧ (ok = false → o = none ∧ k = []) := by
  cases o with
  | none => exact ⟨[], false, rfl, by simp, by simp⟩
  | some k => exact ⟨k, true, rfl, by simp, by simp⟩

end Go.Proofs.Ytgmbhbnhfmfidaa
