/-
  The statement FrameTakes of the given rows: proved.
  Conditions: none beyond those of the given row.
-/
import Derived.Test.YtbfjfffeeelikaaRows
import Derived.Test.YtbfjfffeeelikaaOp2
import Derived.Test.YtbfjfffeeelikaaWFrameTakes
import Derived.WalkKit
import Derived.ProofKit
import Derived.OpenShut
import Derived.ShutString
import Derived.ChangeOld
import Derived.Below
import Derived.SizedLaws
import Derived.Lib.SmallJoins
namespace Go.Proofs.Ytbfjfffeeelikaa.frameTakes
open Go.ChangeShapes Go.WideShapes Go.ChangeAt Go.RowKit Go.Joins Go.Sl Go.OpenShut
open Go.ChangeMaps (open_string shut_string)
set_option linter.unusedVariables false
set_option linter.unusedSimpArgs false
theorem own : ownKnob Try.prog.godebug = none := by kernel_rfl
theorem laidOut : laidOutB Try.prog = true := by kernel_rfl
theorem sum_ones {α : Type} (l : List α) : (l.map fun _ => 1).sum = l.length := by induction l with | nil => rfl | cons x l ih => simp only [List.map_cons, List.sum_cons, List.length_cons, ih]; omega
theorem bulk_sum {H : Type} : ∀ l : List (DataW H), Rows.uptoBulkAll l = (l.map Rows.uptoBulk).sum
  | [] => rfl
  | d :: l => by simp only [Rows.uptoBulkAll, List.map_cons, List.sum_cons, bulk_sum l]
theorem bulkB {H : Type} : Bulk (H := H) Rows.uptoBulk where
  one := fun d => by
    cases d with
    | lit l => cases l <;> simp [Rows.uptoBulk]
    | _ => simp [Rows.uptoBulk]
  str := fun bs => by simp [Rows.uptoBulk]
  slice := fun l r => by simp only [Rows.uptoBulk, bulk_sum]; omega
  agg := fun l => by simp only [Rows.uptoBulk, bulk_sum]; omega
set_option maxRecDepth 100000 in
set_option maxHeartbeats 1000000 in
theorem lifted (os : Os) (started : os.Started) (H : Type) (enc : TypeId × Value → H) (F : Stop.Interp) :
    ReturnsInHanded {} Try.checked os 6 .any ((Rows.OpenSpec.upto Rows.frameTakesSpec).pre6 enc Try.prog Try.f6 Rows.frameTakesUptoRow.domain false) (((Rows.OpenSpec.upto Rows.frameTakesSpec).at F).post enc Try.prog Try.f6 false true false false) := by
  refine returnsInHanded_of_cond_sized (C := Try.checked) (s := (Rows.OpenSpec.upto Rows.frameTakesSpec)) (k := Rows.uptoSmall) rfl own started (by kernel_rfl) Try.func6
    (OpenSpec.witness (enc := enc) (C := Try.checked) (s := (Rows.OpenSpec.upto Rows.frameTakesSpec)) (k := Rows.uptoSmall) rfl false ⟨#[], #[.slice none 0 0, .slice none 0 0, .slice none 0 0, .int .u8 0], []⟩ 8 (by kernel_rfl) (by kernel_rfl) (by kernel_rfl) (x := ([.nil, .nil, .nil, .lit (.int .u8 0)], [], [])) (by kernel_rfl) rfl (by kernel_rfl)) ?_
  intro W base args ds gs before hval0 hW hcnd hk0 hsz0 _
  have hk1 : Rows.uptoBulkAll (ds ++ gs) ≤ 1048576 := of_decide_eq_true hk0
  have hsz : (DataW.weightsEach Try.prog (Try.f6.params.toList ++ Rows.frameTakesSpec.plain.varTypes Try.prog) (ds ++ gs)).all (· ≤ reachBytes) = true := hsz0
  have hval : ∀ (j : Nat) t v, Try.f6.params[j]? = some t → args[j]? = some v → Value.okWide Try.prog W .any base t v := hval0
  have hW' := hW
  obtain ⟨p, q, hA0, hV, rfl, hfz, hnd⟩ := hW
  have hA : DataW.TrodAll enc Try.prog W 0 (fun _ => true) true Try.f6.params.toList args.toList ds p := hA0
  rw [Try.params6] at hA hval hsz
  obtain ⟨v0, vs0, d0, ds0, p0, q0, hargs, rfl, rfl, h0, r0⟩ := trodAll_cons hA
  obtain ⟨v1, vs1, d1, ds1, p1, q1, rfl, rfl, rfl, h1, r1⟩ := trodAll_cons r0
  obtain ⟨v2, vs2, d2, ds2, p2, q2, rfl, rfl, rfl, h2, r2⟩ := trodAll_cons r1
  obtain ⟨v3, vs3, d3, ds3, p3, q3, rfl, rfl, rfl, h3, r3⟩ := trodAll_cons r2
  obtain ⟨rfl, rfl, rfl⟩ := trodAll_nil r3
  obtain rfl : args = #[v0, v1, v2, v3] := by cases args; simp_all
  obtain ⟨rfl, rfl⟩ := trodVars_none hV
  simp only [List.append_nil, Rows.uptoBulkAll] at hk1
  have k0 := h0
  have lt0 : ∀ x ∈ p0, x.block < W.heap.size := by obtain ⟨m, hm⟩ := k0; exact DataW.trod_lt m _ _ _ hm
  obtain ⟨⟨q0, cap0, l0⟩, e0, ⟨sl0, le0, mx0, by0, nil0, all0⟩, bk0⟩ := argb_one bulkB (by kernel_rfl) (opb_slice (sz := 1) (by' := 24) Try.underlying34 (by kernel_rfl) (by kernel_rfl) (opb_slice (sz := 1) (by' := 1) Try.underlying22 (by kernel_rfl) (by kernel_rfl) (op_one (op_u8 Try.underlying5)))) (hval 0 34 v0 rfl rfl) h0 (arg_weights hsz (j := 0) (t := 34) rfl rfl)
  obtain rfl : v0 = .slice q0 l0.length cap0 := by simpa using e0
  (try simp only [flat_bv] at sl0)
  dsimp only [maxLen] at sl0 le0 mx0 by0 nil0 all0 bk0
  have k1 := h1
  have lt1 : ∀ x ∈ p1, x.block < W.heap.size := by obtain ⟨m, hm⟩ := k1; exact DataW.trod_lt m _ _ _ hm
  obtain ⟨⟨q1, cap1, l1⟩, e1, ⟨sl1, le1, mx1, by1, nil1, all1⟩, bk1⟩ := argb_one bulkB (by kernel_rfl) (opb_slice (sz := 1) (by' := 1) Try.underlying22 (by kernel_rfl) (by kernel_rfl) (op_one (op_u8 Try.underlying5))) (hval 1 22 v1 rfl rfl) h1 (arg_weights hsz (j := 1) (t := 22) rfl rfl)
  obtain rfl : v1 = .slice q1 l1.length cap1 := by simpa using e1
  (try simp only [flat_bv] at sl1)
  dsimp only [maxLen] at sl1 le1 mx1 by1 nil1 all1 bk1
  have k2 := h2
  have lt2 : ∀ x ∈ p2, x.block < W.heap.size := by obtain ⟨m, hm⟩ := k2; exact DataW.trod_lt m _ _ _ hm
  obtain ⟨⟨q2, cap2, l2⟩, e2, ⟨sl2, le2, mx2, by2, nil2, all2⟩, bk2⟩ := argb_one bulkB (by kernel_rfl) (opb_slice (sz := 1) (by' := 8) Try.underlying35 (by kernel_rfl) (by kernel_rfl) (op_one (op_i64 Try.underlying3))) (hval 2 35 v2 rfl rfl) h2 (arg_weights hsz (j := 2) (t := 35) rfl rfl)
  obtain rfl : v2 = .slice q2 l2.length cap2 := by simpa using e2
  (try simp only [flat_bv] at sl2)
  dsimp only [maxLen] at sl2 le2 mx2 by2 nil2 all2 bk2
  have k3 := h3
  have lt3 : ∀ x ∈ p3, x.block < W.heap.size := by obtain ⟨m, hm⟩ := k3; exact DataW.trod_lt m _ _ _ hm
  obtain ⟨a3, rfl, rfl, rfl, w3⟩ := open_int Try.underlying5 (hval 3 5 v3 rfl rfl) h3
  have b3 : 0 ≤ a3 ∧ a3 ≤ 255 := bounds_u8 w3
  obtain ⟨c3, hc3⟩ : ∃ c : UInt8, a3 = ((c.toNat : Nat) : Int) := ⟨UInt8.ofNat a3.toNat, by simp; omega⟩
  subst hc3
  clear hA0 hval0 hsz0
  refine (FrameTakes_c l0 q0 cap0 l1 q1 cap1 l2 q2 cap2 c3 (Sat.start W) (by omega) (fun w h => BB.ofArg h .head sl0 all0) (by have e := sum_ones l1; omega) le1 (fun w h => h.slOfOld .head sl1) (by omega) (fun w h => h.slOfOld .head (by have h2 := sl2; rw [flat_one] at h2; exact h2))).mono fun e W' he => ?_
  obtain ⟨rfl, bel⟩ : e = .returned (.bool true) ∧ Below W.heap.size W W' := by
    cases e with
    | returned v => obtain ⟨hv1, hv2⟩ := he; exact ⟨by rw [hv1], hv2.below .head⟩
    | panicked c => exact he.elim
    | outgrown => exact he.elim
  exact ⟨_, rfl, _, _, _, [], _, [], hW', trodAll_mk1 (shut_bool Try.underlying4 _), (trodAll_cons_mk (Below.trod laidOut (by kernel_rfl) (of_decide_eq_true (by kernel_rfl)) k0 bel lt0) (trodAll_cons_mk (Below.trod laidOut (by kernel_rfl) (of_decide_eq_true (by kernel_rfl)) k1 bel lt1) (trodAll_cons_mk (Below.trod laidOut (by kernel_rfl) (of_decide_eq_true (by kernel_rfl)) k2 bel lt2) (trodAll_cons_mk (Below.trod laidOut (by kernel_rfl) (of_decide_eq_true (by kernel_rfl)) k3 bel lt3) trodAll_mk0)))), rfl, bel.frame _, fun h => by cases h⟩
theorem over : Rows.frameTakesUptoRow.holds Try.pinned (Rows.OpenSpec.upto Rows.frameTakesSpec) :=
  OpenClaim.holds_of_cond 6 Try.f6 rfl rfl rfl rfl rfl rfl rfl ⟨rfl, rfl, rfl, rfl, rfl⟩ rfl rfl rfl rfl rfl (by kernel_rfl) Try.func6 (by kernel_rfl)
    (of_decide_eq_true (by kernel_rfl)) (by unfold Func.isWrapper; first | (rw [if_pos (by decide +kernel)]; kernel_rfl) | (rw [if_neg (by decide +kernel)]; exact ⟨rfl, rfl⟩))
    (fun os started H enc _ F => lifted os started H enc F)
end Go.Proofs.Ytbfjfffeeelikaa.frameTakes
namespace Go.Proofs.Ytbfjfffeeelikaa
theorem frameTakesUpto_holds : Rows.FrameTakesUptoSaid := frameTakes.over
#print axioms frameTakesUpto_holds
end Go.Proofs.Ytbfjfffeeelikaa
