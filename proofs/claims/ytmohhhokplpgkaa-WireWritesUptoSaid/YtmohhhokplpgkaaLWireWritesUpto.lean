/-
  The statement WireWrites of the given rows: proved.
  Conditions: none beyond those of the given row.
-/
import Derived.Test.YtmohhhokplpgkaaRows
import Derived.Test.YtmohhhokplpgkaaOp2
import Derived.Test.YtmohhhokplpgkaaWWireWrites
import Derived.WalkKit
import Derived.ProofKit
import Derived.OpenShut
import Derived.ShutString
import Derived.ChangeOld
import Derived.Below
import Derived.SizedLaws
import Derived.Lib.SmallJoins
namespace Go.Proofs.Ytmohhhokplpgkaa.wireWrites
open Go.ChangeShapes Go.WideShapes Go.ChangeAt Go.RowKit Go.Joins Go.Sl Go.OpenShut
open Go.ChangeMaps (open_string shut_string)
set_option linter.unusedVariables false
set_option linter.unusedSimpArgs false
theorem own : ownKnob Try.prog.godebug = none := by kernel_rfl
theorem laidOut : laidOutB Try.prog = true := by kernel_rfl
theorem bulk_sum {H : Type} : ∀ l : List (DataW H), Rows.uptoBulkAll l = (l.map Rows.uptoBulk).sum
  | [] => rfl
  | d :: l => by simp only [Rows.uptoBulkAll, List.map_cons, List.sum_cons, bulk_sum l]
theorem bulkB {H : Type} : Bulk (H := H) Rows.uptoBulk where
  one := fun d => by
    cases d with
    | lit l => cases l <;> simp [Rows.uptoBulk]
    | _ => simp [Rows.uptoBulk]
  str := fun bs => by simp [Rows.uptoBulk]
  slice := fun l r => by simp only [Rows.uptoBulk, bulk_sum]; omega
  agg := fun l => by simp only [Rows.uptoBulk, bulk_sum]; omega
set_option maxRecDepth 100000 in
set_option maxHeartbeats 1000000 in
theorem lifted (os : Os) (started : os.Started) (H : Type) (enc : TypeId × Value → H) (F : Stop.Interp) :
    ReturnsInHanded {} Try.checked os 5 .any ((Rows.OpenSpec.upto Rows.wireWritesSpec).pre6 enc Try.prog Try.f5 Rows.wireWritesUptoRow.domain false) (((Rows.OpenSpec.upto Rows.wireWritesSpec).at F).post enc Try.prog Try.f5 false true false false) := by
  refine returnsInHanded_of_cond_sized (C := Try.checked) (s := (Rows.OpenSpec.upto Rows.wireWritesSpec)) (k := Rows.uptoSmall) rfl own started (by kernel_rfl) Try.func5
    (OpenSpec.witness (enc := enc) (C := Try.checked) (s := (Rows.OpenSpec.upto Rows.wireWritesSpec)) (k := Rows.uptoSmall) rfl false ⟨#[], #[.int .i64 0, .slice none 0 0], []⟩ 8 (by kernel_rfl) (by kernel_rfl) (by kernel_rfl) (x := ([.lit (.int .i64 0), .nil], [], [])) (by kernel_rfl) rfl (by kernel_rfl)) ?_
  intro W base args ds gs before hval0 hW hcnd hk0 hsz0 _
  have hk1 : Rows.uptoBulkAll (ds ++ gs) ≤ 1048576 := of_decide_eq_true hk0
  have hsz : (DataW.weightsEach Try.prog (Try.f5.params.toList ++ Rows.wireWritesSpec.plain.varTypes Try.prog) (ds ++ gs)).all (· ≤ reachBytes) = true := hsz0
  have hval : ∀ (j : Nat) t v, Try.f5.params[j]? = some t → args[j]? = some v → Value.okWide Try.prog W .any base t v := hval0
  have hW' := hW
  obtain ⟨p, q, hA0, hV, rfl, hfz, hnd⟩ := hW
  have hA : DataW.TrodAll enc Try.prog W 0 (fun _ => true) true Try.f5.params.toList args.toList ds p := hA0
  rw [Try.params5] at hA hval hsz
  obtain ⟨v0, vs0, d0, ds0, p0, q0, hargs, rfl, rfl, h0, r0⟩ := trodAll_cons hA
  obtain ⟨v1, vs1, d1, ds1, p1, q1, rfl, rfl, rfl, h1, r1⟩ := trodAll_cons r0
  obtain ⟨rfl, rfl, rfl⟩ := trodAll_nil r1
  obtain rfl : args = #[v0, v1] := by cases args; simp_all
  obtain ⟨rfl, rfl⟩ := trodVars_none hV
  simp only [List.append_nil, Rows.uptoBulkAll] at hk1
  have k0 := h0
  have lt0 : ∀ x ∈ p0, x.block < W.heap.size := by obtain ⟨m, hm⟩ := k0; exact DataW.trod_lt m _ _ _ hm
  obtain ⟨a0, rfl, rfl, rfl, w0⟩ := open_int Try.underlying3 (hval 0 3 v0 rfl rfl) h0
  have b0 : -9223372036854775808 ≤ a0 ∧ a0 ≤ 9223372036854775807 := bounds_i64 w0
  have k1 := h1
  have lt1 : ∀ x ∈ p1, x.block < W.heap.size := by obtain ⟨m, hm⟩ := k1; exact DataW.trod_lt m _ _ _ hm
  obtain ⟨⟨q1, cap1, l1⟩, e1, ⟨sl1, le1, mx1, by1, nil1, all1⟩, bk1⟩ := argb_one bulkB (by kernel_rfl) (opb_slice (sz := 6) (by' := 64) Try.underlying37 (by kernel_rfl) (by kernel_rfl) (opb_struct (fs := [(3, 0, 1), (22, 1, 1), (2, 2, 1), (4, 3, 1), (29, 4, 1), (3, 5, 1)]) (by kernel_rfl) (by kernel_rfl) (opb_fcons (op_one (op_i64 Try.underlying3)) (opb_fcons (op_one (op_u64 Try.underlying22)) (opb_fcons (op_one (op_i64 Try.underlying2)) (opb_fcons (op_one (op_bool Try.underlying4)) (opb_fcons (opb_slice (sz := 1) (by' := 1) Try.underlying29 (by kernel_rfl) (by kernel_rfl) (op_one (op_u8 Try.underlying5))) (opb_fcons (op_one (op_i64 Try.underlying3)) (opb_fnil _))))))))) (hval 1 37 v1 rfl rfl) h1 (arg_weights hsz (j := 1) (t := 37) rfl rfl)
  obtain rfl : v1 = .slice q1 l1.length cap1 := by simpa using e1
  (try simp only [flat_bv] at sl1)
  dsimp only [maxLen] at sl1 le1 mx1 by1 nil1 all1 bk1
  clear hA0 hval0 hsz0
  refine (WireWrites_c a0 l1 q1 cap1 (Sat.start W) b0 (Nat.le_trans bulk_calls (Nat.le_trans bk1 (by omega))) (fun x hx => CallOk.of (all1 x hx)) (fun w h => h.slOfOld .head sl1)).mono fun e W' he => ?_
  obtain ⟨rfl, bel⟩ : e = .returned (.bool true) ∧ Below W.heap.size W W' := by
    cases e with
    | returned v => obtain ⟨hv1, hv2⟩ := he; exact ⟨by rw [hv1], hv2.below .head⟩
    | panicked c => exact he.elim
    | outgrown => exact he.elim
  exact ⟨_, rfl, _, _, _, [], _, [], hW', trodAll_mk1 (shut_bool Try.underlying4 _), (trodAll_cons_mk (Below.trod laidOut (by kernel_rfl) (of_decide_eq_true (by kernel_rfl)) k0 bel lt0) (trodAll_cons_mk (Below.trod laidOut (by kernel_rfl) (of_decide_eq_true (by kernel_rfl)) k1 bel lt1) trodAll_mk0)), rfl, bel.frame _, fun h => by cases h⟩
theorem over : Rows.wireWritesUptoRow.holds Try.pinned (Rows.OpenSpec.upto Rows.wireWritesSpec) :=
  OpenClaim.holds_of_cond 5 Try.f5 rfl rfl rfl rfl rfl rfl rfl ⟨rfl, rfl, rfl, rfl, rfl⟩ rfl rfl rfl rfl rfl (by kernel_rfl) Try.func5 (by kernel_rfl)
    (of_decide_eq_true (by kernel_rfl)) (by unfold Func.isWrapper; first | (rw [if_pos (by decide +kernel)]; kernel_rfl) | (rw [if_neg (by decide +kernel)]; exact ⟨rfl, rfl⟩))
    (fun os started H enc _ F => lifted os started H enc F)
end Go.Proofs.Ytmohhhokplpgkaa.wireWrites
namespace Go.Proofs.Ytmohhhokplpgkaa
theorem wireWritesUpto_holds : Rows.WireWritesUptoSaid := wireWrites.over
#print axioms wireWritesUpto_holds
end Go.Proofs.Ytmohhhokplpgkaa
