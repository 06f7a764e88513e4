/-
  The statement NetOnce of the given rows: proved.
  Conditions: none beyond those of the given row.
-/
import Derived.Test.YtcflbdpjoanbgaaRows
import Derived.Test.YtcflbdpjoanbgaaWNetOnce
import Derived.WalkKit
import Derived.ProofKit
import Derived.OpenShut
import Derived.ShutString
import Derived.ChangeOld
import Derived.Below
import Derived.SizedLaws
import Derived.Lib.SmallJoins
namespace Go.Proofs.Ytcflbdpjoanbgaa.netOnce
open Go.ChangeShapes Go.WideShapes Go.ChangeAt Go.RowKit Go.Joins Go.Sl Go.OpenShut
open Go.ChangeMaps (open_string shut_string)
set_option linter.unusedVariables false
set_option linter.unusedSimpArgs false
theorem own : ownKnob Try.prog.godebug = none := by kernel_rfl
theorem laidOut : laidOutB Try.prog = true := by kernel_rfl

set_option maxRecDepth 100000 in
set_option maxHeartbeats 1000000 in
theorem lifted (os : Os) (started : os.Started) (H : Type) (enc : TypeId × Value → H) :
    ReturnsInHanded {} Try.checked os 5 .any (Rows.netOnceSpec.pre6 enc Try.prog Try.f5 Rows.netOnceRow.domain false) (Rows.netOnceSpec.post enc Try.prog Try.f5 false true false false) := by
  refine returnsInHanded_of_change_sized (C := Try.checked) own started (by kernel_rfl) Try.func5
    (ChangeSpec.witness6 (enc := enc) (C := Try.checked) false ⟨#[], #[.int .i64 0, .slice none 0 0, .slice none 0 0], []⟩ 8 (by kernel_rfl) (by kernel_rfl) (by kernel_rfl) (by kernel_rfl)) ?_
  intro W base args ds gs before hval0 hW hcnd hsz0 _
  have hsz : (DataW.weightsEach Try.prog (Try.f5.params.toList ++ Rows.netOnceSpec.plain.varTypes Try.prog) (ds ++ gs)).all (· ≤ reachBytes) = true := hsz0
  have hval : ∀ (j : Nat) t v, Try.f5.params[j]? = some t → args[j]? = some v → Value.okWide Try.prog W .any base t v := hval0
  have hW' := hW
  obtain ⟨p, q, hA0, hV, rfl, hfz, hnd⟩ := hW
  have hA : DataW.TrodAll enc Try.prog W 0 (fun _ => true) true Try.f5.params.toList args.toList ds p := hA0
  rw [Try.params5] at hA hval hsz
  obtain ⟨v0, vs0, d0, ds0, p0, q0, hargs, rfl, rfl, h0, r0⟩ := trodAll_cons hA
  obtain ⟨v1, vs1, d1, ds1, p1, q1, rfl, rfl, rfl, h1, r1⟩ := trodAll_cons r0
  obtain ⟨v2, vs2, d2, ds2, p2, q2, rfl, rfl, rfl, h2, r2⟩ := trodAll_cons r1
  obtain ⟨rfl, rfl, rfl⟩ := trodAll_nil r2
  obtain rfl : args = #[v0, v1, v2] := by cases args; simp_all
  obtain ⟨rfl, rfl⟩ := trodVars_none hV
  have k0 := h0
  have lt0 : ∀ x ∈ p0, x.block < W.heap.size := by obtain ⟨m, hm⟩ := k0; exact DataW.trod_lt m _ _ _ hm
  obtain ⟨a0, rfl, rfl, rfl, w0⟩ := open_int Try.underlying3 (hval 0 3 v0 rfl rfl) h0
  have b0 : -9223372036854775808 ≤ a0 ∧ a0 ≤ 9223372036854775807 := bounds_i64 w0
  have k1 := h1
  have lt1 : ∀ x ∈ p1, x.block < W.heap.size := by obtain ⟨m, hm⟩ := k1; exact DataW.trod_lt m _ _ _ hm
  obtain ⟨⟨q1, cap1, l1⟩, e1, sl1, le1, mx1, by1, nil1, all1⟩ := arg_one (by kernel_rfl) (op_slice (sz := 1) (by' := 8) Try.underlying41 (by kernel_rfl) (by kernel_rfl) (op_i64 Try.underlying3)) (hval 1 41 v1 rfl rfl) h1 (arg_weights hsz (j := 1) (t := 41) rfl rfl)
  obtain rfl : v1 = .slice q1 l1.length cap1 := by simpa using e1
  (try simp only [flat_bv] at sl1)
  dsimp only [maxLen] at sl1 le1 mx1 by1 nil1 all1
  have k2 := h2
  have lt2 : ∀ x ∈ p2, x.block < W.heap.size := by obtain ⟨m, hm⟩ := k2; exact DataW.trod_lt m _ _ _ hm
  obtain ⟨⟨q2, cap2, l2⟩, e2, sl2, le2, mx2, by2, nil2, all2⟩ := arg_one (by kernel_rfl) (op_slice (sz := 1) (by' := 8) Try.underlying41 (by kernel_rfl) (by kernel_rfl) (op_i64 Try.underlying3)) (hval 2 41 v2 rfl rfl) h2 (arg_weights hsz (j := 2) (t := 41) rfl rfl)
  obtain rfl : v2 = .slice q2 l2.length cap2 := by simpa using e2
  (try simp only [flat_bv] at sl2)
  dsimp only [maxLen] at sl2 le2 mx2 by2 nil2 all2
  clear hA0 hval0 hsz0
  refine (NetOnce_c a0 l1 l2 q1 q2 cap1 cap2 (Sat.start W) (by omega) (by omega) (fun w h => h.slOfOld .head sl1) (fun w h => h.slOfOld .head sl2)).mono fun e W' he => ?_
  obtain ⟨rfl, bel⟩ : e = .returned (.bool true) ∧ Below W.heap.size W W' := by
    cases e with
    | returned v => obtain ⟨hv1, hv2⟩ := he; exact ⟨by rw [hv1], hv2.below .head⟩
    | panicked c => exact he.elim
    | outgrown => exact he.elim
  exact ⟨_, rfl, _, _, _, [], _, [], hW', trodAll_mk1 (shut_bool Try.underlying4 _), (trodAll_cons_mk (Below.trod laidOut (by kernel_rfl) (of_decide_eq_true (by kernel_rfl)) k0 bel lt0) (trodAll_cons_mk (Below.trod laidOut (by kernel_rfl) (of_decide_eq_true (by kernel_rfl)) k1 bel lt1) (trodAll_cons_mk (Below.trod laidOut (by kernel_rfl) (of_decide_eq_true (by kernel_rfl)) k2 bel lt2) trodAll_mk0))), rfl, bel.frame _, fun h => by cases h⟩
theorem over : Rows.netOnceRow.holds Try.pinned (OpenSpec.ofChange Rows.netOnceSpec) :=
  OpenClaim.holds_of_wide 5 Try.f5 rfl rfl rfl rfl rfl rfl rfl ⟨rfl, rfl, rfl, rfl, rfl⟩ rfl rfl rfl rfl rfl (by kernel_rfl) Try.func5 (by kernel_rfl)
    (of_decide_eq_true (by kernel_rfl)) (by unfold Func.isWrapper; first | (rw [if_pos (by decide +kernel)]; kernel_rfl) | (rw [if_neg (by decide +kernel)]; exact ⟨rfl, rfl⟩))
    (fun os started H enc _ => lifted os started H enc)
end Go.Proofs.Ytcflbdpjoanbgaa.netOnce
namespace Go.Proofs.Ytcflbdpjoanbgaa
theorem netOnce_holds : Rows.NetOnceSaid := netOnce.over
#print axioms netOnce_holds
end Go.Proofs.Ytcflbdpjoanbgaa
