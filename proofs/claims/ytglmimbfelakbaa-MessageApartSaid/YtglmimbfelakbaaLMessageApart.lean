/-
  The statement MessageApart of the given rows: proved.
  Conditions: none beyond those of the given row.
-/
import Derived.Test.YtglmimbfelakbaaRows
import Derived.Test.YtglmimbfelakbaaWMessageApart
import Derived.WalkKit
import Derived.ProofKit
import Derived.OpenShut
import Derived.ShutString
import Derived.ChangeOld
import Derived.Below
import Derived.SizedLaws
import Derived.Lib.SmallJoins
namespace Go.Proofs.Ytglmimbfelakbaa.messageApart
open Go.ChangeShapes Go.WideShapes Go.ChangeAt Go.RowKit Go.Joins Go.Sl Go.OpenShut
open Go.ChangeMaps (open_string shut_string)
set_option linter.unusedVariables false
set_option linter.unusedSimpArgs false
theorem own : ownKnob Try.prog.godebug = none := by kernel_rfl
theorem laidOut : laidOutB Try.prog = true := by kernel_rfl

set_option maxRecDepth 100000 in
set_option maxHeartbeats 1000000 in
theorem lifted (os : Os) (started : os.Started) (H : Type) (enc : TypeId × Value → H) :
    ReturnsInHanded {} Try.checked os 4 .any (Rows.messageApartSpec.pre6 enc Try.prog Try.f4 Rows.messageApartRow.domain false) (Rows.messageApartSpec.post enc Try.prog Try.f4 false true false false) := by
  refine returnsInHanded_of_change_sized (C := Try.checked) own started (by kernel_rfl) Try.func4
    (ChangeSpec.witness6 (enc := enc) (C := Try.checked) false ⟨#[], #[.agg #[.int .i64 0, .int .i64 0, .int .i64 0, .int .i64 0, .int .i64 0, .string ⟨#[]⟩, .int .i64 0, .slice none 0 0, .slice none 0 0, .slice none 0 0], .agg #[.int .i64 0, .int .i64 0, .int .i64 0, .int .i64 0, .int .i64 0, .string ⟨#[]⟩, .int .i64 0, .slice none 0 0, .slice none 0 0, .slice none 0 0]], []⟩ 8 (by kernel_rfl) (by kernel_rfl) (by kernel_rfl) (by kernel_rfl)) ?_
  intro W base args ds gs before hval0 hW hcnd hsz0 _
  have hsz : (DataW.weightsEach Try.prog (Try.f4.params.toList ++ Rows.messageApartSpec.plain.varTypes Try.prog) (ds ++ gs)).all (· ≤ reachBytes) = true := hsz0
  have hval : ∀ (j : Nat) t v, Try.f4.params[j]? = some t → args[j]? = some v → Value.okWide Try.prog W .any base t v := hval0
  have hW' := hW
  obtain ⟨p, q, hA0, hV, rfl, hfz, hnd⟩ := hW
  have hA : DataW.TrodAll enc Try.prog W 0 (fun _ => true) true Try.f4.params.toList args.toList ds p := hA0
  rw [Try.params4] at hA hval hsz
  obtain ⟨v0, vs0, d0, ds0, p0, q0, hargs, rfl, rfl, h0, r0⟩ := trodAll_cons hA
  obtain ⟨v1, vs1, d1, ds1, p1, q1, rfl, rfl, rfl, h1, r1⟩ := trodAll_cons r0
  obtain ⟨rfl, rfl, rfl⟩ := trodAll_nil r1
  obtain rfl : args = #[v0, v1] := by cases args; simp_all
  obtain ⟨rfl, rfl⟩ := trodVars_none hV
  have k0 := h0
  have lt0 : ∀ x ∈ p0, x.block < W.heap.size := by obtain ⟨m, hm⟩ := k0; exact DataW.trod_lt m _ _ _ hm
  obtain ⟨⟨kd0, fr0, tn0, op0, fo0, ky0, bk0, ⟨qe0, ce0, es0⟩, ⟨qd0, cd0, ds0⟩, ⟨qm0, cm0, ms0⟩, _⟩, rfl, ok0⟩ := arg_agg (by kernel_rfl) (op_struct (fs := [(3, 0, 1), (3, 1, 1), (3, 2, 1), (2, 3, 1), (3, 4, 1), (9, 5, 1), (3, 6, 1), (22, 7, 1), (23, 8, 1), (24, 9, 1)]) (by kernel_rfl) (by kernel_rfl) (op_fcons (op_i64 Try.underlying3) (op_fcons (op_i64 Try.underlying3) (op_fcons (op_i64 Try.underlying3) (op_fcons (op_i64 Try.underlying2) (op_fcons (op_i64 Try.underlying3) (op_fcons (op_str Try.underlying9) (op_fcons (op_i64 Try.underlying3) (op_fcons (op_slice (sz := 10) (by' := 104) Try.underlying22 (by kernel_rfl) (by kernel_rfl) (op_struct (fs := [(9, 0, 1), (40, 1, 9)]) (by kernel_rfl) (by kernel_rfl) (op_fcons (op_str Try.underlying9) (op_fcons (op_struct (fs := [(37, 0, 8), (38, 8, 1)]) (by kernel_rfl) (by kernel_rfl) (op_fcons (op_array (sz := 1) (n := 8) Try.underlying37 (by kernel_rfl) (by kernel_rfl) (op_i64 Try.underlying2)) (op_fcons (op_slice (sz := 4) (by' := 48) Try.underlying38 (by kernel_rfl) (by kernel_rfl) (op_struct (fs := [(42, 0, 2), (29, 2, 1), (4, 3, 1)]) (by kernel_rfl) (by kernel_rfl) (op_fcons (op_struct (fs := [(3, 0, 1), (2, 1, 1)]) (by kernel_rfl) (by kernel_rfl) (op_fcons (op_i64 Try.underlying3) (op_fcons (op_i64 Try.underlying2) (op_fnil _)))) (op_fcons (op_slice (sz := 1) (by' := 1) Try.underlying29 (by kernel_rfl) (by kernel_rfl) (op_u8 Try.underlying5)) (op_fcons (op_bool Try.underlying4) (op_fnil _)))))) (op_fnil _)))) (op_fnil _))))) (op_fcons (op_slice (sz := 10) (by' := 104) Try.underlying23 (by kernel_rfl) (by kernel_rfl) (op_struct (fs := [(9, 0, 1), (37, 1, 8), (50, 9, 1)]) (by kernel_rfl) (by kernel_rfl) (op_fcons (op_str Try.underlying9) (op_fcons (op_array (sz := 1) (n := 8) Try.underlying37 (by kernel_rfl) (by kernel_rfl) (op_i64 Try.underlying2)) (op_fcons (op_slice (sz := 2) (by' := 16) Try.underlying50 (by kernel_rfl) (by kernel_rfl) (op_struct (fs := [(3, 0, 1), (2, 1, 1)]) (by kernel_rfl) (by kernel_rfl) (op_fcons (op_i64 Try.underlying3) (op_fcons (op_i64 Try.underlying2) (op_fnil _))))) (op_fnil _)))))) (op_fcons (op_slice (sz := 2) (by' := 16) Try.underlying24 (by kernel_rfl) (by kernel_rfl) (op_struct (fs := [(3, 0, 1), (2, 1, 1)]) (by kernel_rfl) (by kernel_rfl) (op_fcons (op_i64 Try.underlying3) (op_fcons (op_i64 Try.underlying2) (op_fnil _))))) (op_fnil _)))))))))))) (hval 0 26 v0 rfl rfl) h0 (arg_weights hsz (j := 0) (t := 26) rfl rfl)
  obtain ⟨_, _, _, _, _, hky0, _, oke0, okd0, okm0, _⟩ := ok0
  have lE0 : es0.length ≤ 9223372036854775806 := (by have h1 := oke0.2.1; have h2 := oke0.2.2.2.1; dsimp only at h1 h2; omega)
  have lD0 : ds0.length ≤ 9223372036854775806 := (by have h1 := okd0.2.1; have h2 := okd0.2.2.2.1; dsimp only at h1 h2; omega)
  have lM0 : ms0.length ≤ 9223372036854775806 := (by have h1 := okm0.2.1; have h2 := okm0.2.2.2.1; dsimp only at h1 h2; omega)
  have hE0 : EntsAt W (qe0, ce0, es0) := ⟨slAt_cast oke0.1 (flat_congr fun e => by simp [entC, sibC, i64s, flat_ints]), fun e he => by
    obtain ⟨_, ⟨⟨h8, _⟩, hvs, _⟩, _⟩ := oke0.2.2.2.2.2 e he
    have hlv := hvs.2.1
    have hcv := hvs.2.2.2.1
    refine ⟨h8, slAt_cast hvs.1 (flat_congr fun v => by simp [valC, dotC]), fun v hv => ?_, by omega⟩
    obtain ⟨_, hb, _, _⟩ := hvs.2.2.2.2.2 v hv
    have h3 := hb.2.2.2.1
    exact ⟨slAt_cast hb.1 (flat_bv _), by have := hb.2.1; omega⟩, by have := oke0.2.1; have := oke0.2.2.2.1; dsimp only at *; omega⟩
  have hD0 : DigsAt W (qd0, cd0, ds0) := ⟨slAt_cast okd0.1 (flat_congr fun e => by simp [digC, i64s, flat_ints]), fun e he => by
    obtain ⟨_, ⟨h8, _⟩, hvs, _⟩ := okd0.2.2.2.2.2 e he
    have hlv := hvs.2.1
    have hcv := hvs.2.2.2.1
    exact ⟨h8, slAt_cast hvs.1 (flat_congr fun v => by simp [dotC]), by omega⟩, by have := okd0.2.1; have := okd0.2.2.2.1; dsimp only at *; omega⟩
  have hM0 : DotsAt W (qm0, cm0, ms0) := ⟨slAt_cast okm0.1 (flat_congr fun v => by simp [dotC]), by have := okm0.2.1; have := okm0.2.2.2.1; dsimp only at *; omega⟩
  have k1 := h1
  have lt1 : ∀ x ∈ p1, x.block < W.heap.size := by obtain ⟨m, hm⟩ := k1; exact DataW.trod_lt m _ _ _ hm
  obtain ⟨⟨kd1, fr1, tn1, op1, fo1, ky1, bk1, ⟨qe1, ce1, es1⟩, ⟨qd1, cd1, ds1⟩, ⟨qm1, cm1, ms1⟩, _⟩, rfl, ok1⟩ := arg_agg (by kernel_rfl) (op_struct (fs := [(3, 0, 1), (3, 1, 1), (3, 2, 1), (2, 3, 1), (3, 4, 1), (9, 5, 1), (3, 6, 1), (22, 7, 1), (23, 8, 1), (24, 9, 1)]) (by kernel_rfl) (by kernel_rfl) (op_fcons (op_i64 Try.underlying3) (op_fcons (op_i64 Try.underlying3) (op_fcons (op_i64 Try.underlying3) (op_fcons (op_i64 Try.underlying2) (op_fcons (op_i64 Try.underlying3) (op_fcons (op_str Try.underlying9) (op_fcons (op_i64 Try.underlying3) (op_fcons (op_slice (sz := 10) (by' := 104) Try.underlying22 (by kernel_rfl) (by kernel_rfl) (op_struct (fs := [(9, 0, 1), (40, 1, 9)]) (by kernel_rfl) (by kernel_rfl) (op_fcons (op_str Try.underlying9) (op_fcons (op_struct (fs := [(37, 0, 8), (38, 8, 1)]) (by kernel_rfl) (by kernel_rfl) (op_fcons (op_array (sz := 1) (n := 8) Try.underlying37 (by kernel_rfl) (by kernel_rfl) (op_i64 Try.underlying2)) (op_fcons (op_slice (sz := 4) (by' := 48) Try.underlying38 (by kernel_rfl) (by kernel_rfl) (op_struct (fs := [(42, 0, 2), (29, 2, 1), (4, 3, 1)]) (by kernel_rfl) (by kernel_rfl) (op_fcons (op_struct (fs := [(3, 0, 1), (2, 1, 1)]) (by kernel_rfl) (by kernel_rfl) (op_fcons (op_i64 Try.underlying3) (op_fcons (op_i64 Try.underlying2) (op_fnil _)))) (op_fcons (op_slice (sz := 1) (by' := 1) Try.underlying29 (by kernel_rfl) (by kernel_rfl) (op_u8 Try.underlying5)) (op_fcons (op_bool Try.underlying4) (op_fnil _)))))) (op_fnil _)))) (op_fnil _))))) (op_fcons (op_slice (sz := 10) (by' := 104) Try.underlying23 (by kernel_rfl) (by kernel_rfl) (op_struct (fs := [(9, 0, 1), (37, 1, 8), (50, 9, 1)]) (by kernel_rfl) (by kernel_rfl) (op_fcons (op_str Try.underlying9) (op_fcons (op_array (sz := 1) (n := 8) Try.underlying37 (by kernel_rfl) (by kernel_rfl) (op_i64 Try.underlying2)) (op_fcons (op_slice (sz := 2) (by' := 16) Try.underlying50 (by kernel_rfl) (by kernel_rfl) (op_struct (fs := [(3, 0, 1), (2, 1, 1)]) (by kernel_rfl) (by kernel_rfl) (op_fcons (op_i64 Try.underlying3) (op_fcons (op_i64 Try.underlying2) (op_fnil _))))) (op_fnil _)))))) (op_fcons (op_slice (sz := 2) (by' := 16) Try.underlying24 (by kernel_rfl) (by kernel_rfl) (op_struct (fs := [(3, 0, 1), (2, 1, 1)]) (by kernel_rfl) (by kernel_rfl) (op_fcons (op_i64 Try.underlying3) (op_fcons (op_i64 Try.underlying2) (op_fnil _))))) (op_fnil _)))))))))))) (hval 1 26 v1 rfl rfl) h1 (arg_weights hsz (j := 1) (t := 26) rfl rfl)
  obtain ⟨_, _, _, _, _, hky1, _, oke1, okd1, okm1, _⟩ := ok1
  have lE1 : es1.length ≤ 9223372036854775806 := (by have h1 := oke1.2.1; have h2 := oke1.2.2.2.1; dsimp only at h1 h2; omega)
  have lD1 : ds1.length ≤ 9223372036854775806 := (by have h1 := okd1.2.1; have h2 := okd1.2.2.2.1; dsimp only at h1 h2; omega)
  have lM1 : ms1.length ≤ 9223372036854775806 := (by have h1 := okm1.2.1; have h2 := okm1.2.2.2.1; dsimp only at h1 h2; omega)
  have hE1 : EntsAt W (qe1, ce1, es1) := ⟨slAt_cast oke1.1 (flat_congr fun e => by simp [entC, sibC, i64s, flat_ints]), fun e he => by
    obtain ⟨_, ⟨⟨h8, _⟩, hvs, _⟩, _⟩ := oke1.2.2.2.2.2 e he
    have hlv := hvs.2.1
    have hcv := hvs.2.2.2.1
    refine ⟨h8, slAt_cast hvs.1 (flat_congr fun v => by simp [valC, dotC]), fun v hv => ?_, by omega⟩
    obtain ⟨_, hb, _, _⟩ := hvs.2.2.2.2.2 v hv
    have h3 := hb.2.2.2.1
    exact ⟨slAt_cast hb.1 (flat_bv _), by have := hb.2.1; omega⟩, by have := oke1.2.1; have := oke1.2.2.2.1; dsimp only at *; omega⟩
  have hD1 : DigsAt W (qd1, cd1, ds1) := ⟨slAt_cast okd1.1 (flat_congr fun e => by simp [digC, i64s, flat_ints]), fun e he => by
    obtain ⟨_, ⟨h8, _⟩, hvs, _⟩ := okd1.2.2.2.2.2 e he
    have hlv := hvs.2.1
    have hcv := hvs.2.2.2.1
    exact ⟨h8, slAt_cast hvs.1 (flat_congr fun v => by simp [dotC]), by omega⟩, by have := okd1.2.1; have := okd1.2.2.2.1; dsimp only at *; omega⟩
  have hM1 : DotsAt W (qm1, cm1, ms1) := ⟨slAt_cast okm1.1 (flat_congr fun v => by simp [dotC]), by have := okm1.2.1; have := okm1.2.2.2.1; dsimp only at *; omega⟩
  clear hA0 hval0 hsz0
  refine (MessageApart_c kd0 fr0 tn0 op0 fo0 ky0 bk0 es0 qe0 ce0 ds0 qd0 cd0 ms0 qm0 cm0 kd1 fr1 tn1 op1 fo1 ky1 bk1 es1 qe1 ce1 ds1 qd1 cd1 ms1 qm1 cm1 (Sat.start W) (fun _ h => hE0.old h .head) (fun _ h => hD0.old h .head) (fun _ h => hM0.old h .head) lE0 lD0 lM0 (fun _ h => hE1.old h .head) (fun _ h => hD1.old h .head) (fun _ h => hM1.old h .head) lE1 lD1 lM1).mono fun e W' he => ?_
  obtain ⟨rfl, bel⟩ : e = .returned (.bool true) ∧ Below W.heap.size W W' := by
    cases e with
    | returned v => obtain ⟨hv1, hv2⟩ := he; exact ⟨by rw [hv1], hv2.below .head⟩
    | panicked c => exact he.elim
    | outgrown => exact he.elim
  exact ⟨_, rfl, _, _, _, [], _, [], hW', trodAll_mk1 (shut_bool Try.underlying4 _), (trodAll_cons_mk (Below.trod laidOut (by kernel_rfl) (of_decide_eq_true (by kernel_rfl)) k0 bel lt0) (trodAll_cons_mk (Below.trod laidOut (by kernel_rfl) (of_decide_eq_true (by kernel_rfl)) k1 bel lt1) trodAll_mk0)), rfl, bel.frame _, fun h => by cases h⟩
theorem over : Rows.messageApartRow.holds Try.pinned (OpenSpec.ofChange Rows.messageApartSpec) :=
  OpenClaim.holds_of_wide 4 Try.f4 rfl rfl rfl rfl rfl rfl rfl ⟨rfl, rfl, rfl, rfl, rfl⟩ rfl rfl rfl rfl rfl (by kernel_rfl) Try.func4 (by kernel_rfl)
    (of_decide_eq_true (by kernel_rfl)) (by unfold Func.isWrapper; first | (rw [if_pos (by decide +kernel)]; kernel_rfl) | (rw [if_neg (by decide +kernel)]; exact ⟨rfl, rfl⟩))
    (fun os started H enc _ => lifted os started H enc)
end Go.Proofs.Ytglmimbfelakbaa.messageApart
namespace Go.Proofs.Ytglmimbfelakbaa
theorem messageApart_holds : Rows.MessageApartSaid := messageApart.over
#print axioms messageApart_holds
end Go.Proofs.Ytglmimbfelakbaa
