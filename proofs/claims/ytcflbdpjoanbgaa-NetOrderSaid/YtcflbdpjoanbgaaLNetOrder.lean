/-
  The statement NetOrder of the given rows: proved.
  Conditions: none beyond those of the given row.
-/
import Derived.Test.YtcflbdpjoanbgaaRows
import Derived.Test.YtcflbdpjoanbgaaWNetOrder
import Derived.WalkKit
import Derived.ProofKit
import Derived.OpenShut
import Derived.ShutString
import Derived.ChangeOld
import Derived.Below
import Derived.SizedLaws
import Derived.Lib.SmallJoins
namespace Go.Proofs.Ytcflbdpjoanbgaa.netOrder
open Go.ChangeShapes Go.WideShapes Go.ChangeAt Go.RowKit Go.Joins Go.Sl Go.OpenShut
open Go.ChangeMaps (open_string shut_string)
set_option linter.unusedVariables false
set_option linter.unusedSimpArgs false
theorem own : ownKnob Try.prog.godebug = none := by kernel_rfl
theorem laidOut : laidOutB Try.prog = true := by kernel_rfl

set_option maxRecDepth 100000 in
set_option maxHeartbeats 1000000 in
theorem lifted (os : Os) (started : os.Started) (H : Type) (enc : TypeId × Value → H) :
    ReturnsInHanded {} Try.checked os 4 .any (Rows.netOrderSpec.pre6 enc Try.prog Try.f4 Rows.netOrderRow.domain false) (Rows.netOrderSpec.post enc Try.prog Try.f4 false true false false) := by
  refine returnsInHanded_of_change_sized (C := Try.checked) own started (by kernel_rfl) Try.func4
    (ChangeSpec.witness6 (enc := enc) (C := Try.checked) false ⟨#[], #[.slice none 0 0, .int .i64 0], []⟩ 8 (by kernel_rfl) (by kernel_rfl) (by kernel_rfl) (by kernel_rfl)) ?_
  intro W base args ds gs before hval0 hW hcnd hsz0 _
  have hsz : (DataW.weightsEach Try.prog (Try.f4.params.toList ++ Rows.netOrderSpec.plain.varTypes Try.prog) (ds ++ gs)).all (· ≤ reachBytes) = true := hsz0
  have hval : ∀ (j : Nat) t v, Try.f4.params[j]? = some t → args[j]? = some v → Value.okWide Try.prog W .any base t v := hval0
  have hW' := hW
  obtain ⟨p, q, hA0, hV, rfl, hfz, hnd⟩ := hW
  have hA : DataW.TrodAll enc Try.prog W 0 (fun _ => true) true Try.f4.params.toList args.toList ds p := hA0
  rw [Try.params4] at hA hval hsz
  obtain ⟨v0, vs0, d0, ds0, p0, q0, hargs, rfl, rfl, h0, r0⟩ := trodAll_cons hA
  obtain ⟨v1, vs1, d1, ds1, p1, q1, rfl, rfl, rfl, h1, r1⟩ := trodAll_cons r0
  obtain ⟨rfl, rfl, rfl⟩ := trodAll_nil r1
  obtain rfl : args = #[v0, v1] := by cases args; simp_all
  obtain ⟨rfl, rfl⟩ := trodVars_none hV
  have k0 := h0
  have lt0 : ∀ x ∈ p0, x.block < W.heap.size := by obtain ⟨m, hm⟩ := k0; exact DataW.trod_lt m _ _ _ hm
  obtain ⟨⟨q0, cap0, l0⟩, e0, sl0, le0, mx0, by0, nil0, all0⟩ := arg_one (by kernel_rfl) (op_slice (sz := 10) (by' := 136) Try.underlying25 (by kernel_rfl) (by kernel_rfl) (op_struct (fs := [(3, 0, 1), (3, 1, 1), (3, 2, 1), (2, 3, 1), (3, 4, 1), (9, 5, 1), (3, 6, 1), (26, 7, 1), (27, 8, 1), (28, 9, 1)]) (by kernel_rfl) (by kernel_rfl) (op_fcons (op_i64 Try.underlying3) (op_fcons (op_i64 Try.underlying3) (op_fcons (op_i64 Try.underlying3) (op_fcons (op_i64 Try.underlying2) (op_fcons (op_i64 Try.underlying3) (op_fcons (op_str Try.underlying9) (op_fcons (op_i64 Try.underlying3) (op_fcons (op_slice (sz := 10) (by' := 104) Try.underlying26 (by kernel_rfl) (by kernel_rfl) (op_struct (fs := [(9, 0, 1), (57, 1, 9)]) (by kernel_rfl) (by kernel_rfl) (op_fcons (op_str Try.underlying9) (op_fcons (op_struct (fs := [(54, 0, 8), (55, 8, 1)]) (by kernel_rfl) (by kernel_rfl) (op_fcons (op_array (sz := 1) (n := 8) Try.underlying54 (by kernel_rfl) (by kernel_rfl) (op_i64 Try.underlying2)) (op_fcons (op_slice (sz := 4) (by' := 48) Try.underlying55 (by kernel_rfl) (by kernel_rfl) (op_struct (fs := [(83, 0, 2), (47, 2, 1), (4, 3, 1)]) (by kernel_rfl) (by kernel_rfl) (op_fcons (op_struct (fs := [(3, 0, 1), (2, 1, 1)]) (by kernel_rfl) (by kernel_rfl) (op_fcons (op_i64 Try.underlying3) (op_fcons (op_i64 Try.underlying2) (op_fnil _)))) (op_fcons (op_slice (sz := 1) (by' := 1) Try.underlying47 (by kernel_rfl) (by kernel_rfl) (op_u8 Try.underlying5)) (op_fcons (op_bool Try.underlying4) (op_fnil _)))))) (op_fnil _)))) (op_fnil _))))) (op_fcons (op_slice (sz := 10) (by' := 104) Try.underlying27 (by kernel_rfl) (by kernel_rfl) (op_struct (fs := [(9, 0, 1), (54, 1, 8), (60, 9, 1)]) (by kernel_rfl) (by kernel_rfl) (op_fcons (op_str Try.underlying9) (op_fcons (op_array (sz := 1) (n := 8) Try.underlying54 (by kernel_rfl) (by kernel_rfl) (op_i64 Try.underlying2)) (op_fcons (op_slice (sz := 2) (by' := 16) Try.underlying60 (by kernel_rfl) (by kernel_rfl) (op_struct (fs := [(3, 0, 1), (2, 1, 1)]) (by kernel_rfl) (by kernel_rfl) (op_fcons (op_i64 Try.underlying3) (op_fcons (op_i64 Try.underlying2) (op_fnil _))))) (op_fnil _)))))) (op_fcons (op_slice (sz := 2) (by' := 16) Try.underlying28 (by kernel_rfl) (by kernel_rfl) (op_struct (fs := [(3, 0, 1), (2, 1, 1)]) (by kernel_rfl) (by kernel_rfl) (op_fcons (op_i64 Try.underlying3) (op_fcons (op_i64 Try.underlying2) (op_fnil _))))) (op_fnil _))))))))))))) (hval 0 25 v0 rfl rfl) h0 (arg_weights hsz (j := 0) (t := 25) rfl rfl)
  obtain rfl : v0 = .slice q0 l0.length cap0 := by simpa using e0
  dsimp only [maxLen] at sl0 le0 mx0 by0 nil0 all0
  have hM0 : MsgsAt W (q0, cap0, l0) := ⟨slAt_cast sl0 (flat_congr fun m => by simp [msgC, slv]), fun m hm => by
    obtain ⟨kd, fr, tn, op, fo, ky, bk, ⟨qe, ce, es⟩, ⟨qd, cd, ds⟩, ⟨qm, cm, ms⟩, _⟩ := m
    obtain ⟨_, _, _, _, _, hky, _, oke, okd, okm, _⟩ := all0 _ hm
    have hE : EntsAt W (qe, ce, es) := ⟨slAt_cast oke.1 (flat_congr fun e => by simp [entC, sibC, i64s, flat_ints]), fun e he => by
      obtain ⟨_, ⟨⟨h8, _⟩, hvs, _⟩, _⟩ := oke.2.2.2.2.2 e he
      have hlv := hvs.2.1
      have hcv := hvs.2.2.2.1
      refine ⟨h8, slAt_cast hvs.1 (flat_congr fun v => by simp [valC, dotC]), fun v hv => ?_, by omega⟩
      obtain ⟨_, hb, _, _⟩ := hvs.2.2.2.2.2 v hv
      have h3 := hb.2.2.2.1
      exact ⟨slAt_cast hb.1 (flat_bv _), by have := hb.2.1; omega⟩, by have := oke.2.1; have := oke.2.2.2.1; dsimp only at *; omega⟩
    have hD : DigsAt W (qd, cd, ds) := ⟨slAt_cast okd.1 (flat_congr fun e => by simp [digC, i64s, flat_ints]), fun e he => by
      obtain ⟨_, ⟨h8, _⟩, hvs, _⟩ := okd.2.2.2.2.2 e he
      have hlv := hvs.2.1
      have hcv := hvs.2.2.2.1
      exact ⟨h8, slAt_cast hvs.1 (flat_congr fun v => by simp [dotC]), by omega⟩, by have := okd.2.1; have := okd.2.2.2.1; dsimp only at *; omega⟩
    have hMm : DotsAt W (qm, cm, ms) := ⟨slAt_cast okm.1 (flat_congr fun v => by simp [dotC]), by have := okm.2.1; have := okm.2.2.2.1; dsimp only at *; omega⟩
    exact ⟨hE, hD, hMm⟩⟩
  have k1 := h1
  have lt1 : ∀ x ∈ p1, x.block < W.heap.size := by obtain ⟨m, hm⟩ := k1; exact DataW.trod_lt m _ _ _ hm
  obtain ⟨a1, rfl, rfl, rfl, w1⟩ := open_int Try.underlying3 (hval 1 3 v1 rfl rfl) h1
  have b1 : -9223372036854775808 ≤ a1 ∧ a1 ≤ 9223372036854775807 := bounds_i64 w1
  clear hA0 hval0 hsz0
  refine (NetOrder_c l0 q0 cap0 a1 (Sat.start W) le0 (by omega) (fun w h => hM0.old h .head)).mono fun e W' he => ?_
  obtain ⟨rfl, bel⟩ : e = .returned (.bool true) ∧ Below W.heap.size W W' := by
    cases e with
    | returned v => obtain ⟨hv1, hv2⟩ := he; exact ⟨by rw [hv1], hv2.below .head⟩
    | panicked c => exact he.elim
    | outgrown => exact he.elim
  exact ⟨_, rfl, _, _, _, [], _, [], hW', trodAll_mk1 (shut_bool Try.underlying4 _), (trodAll_cons_mk (Below.trod laidOut (by kernel_rfl) (of_decide_eq_true (by kernel_rfl)) k0 bel lt0) (trodAll_cons_mk (Below.trod laidOut (by kernel_rfl) (of_decide_eq_true (by kernel_rfl)) k1 bel lt1) trodAll_mk0)), rfl, bel.frame _, fun h => by cases h⟩
theorem over : Rows.netOrderRow.holds Try.pinned (OpenSpec.ofChange Rows.netOrderSpec) :=
  OpenClaim.holds_of_wide 4 Try.f4 rfl rfl rfl rfl rfl rfl rfl ⟨rfl, rfl, rfl, rfl, rfl⟩ rfl rfl rfl rfl rfl (by kernel_rfl) Try.func4 (by kernel_rfl)
    (of_decide_eq_true (by kernel_rfl)) (by unfold Func.isWrapper; first | (rw [if_pos (by decide +kernel)]; kernel_rfl) | (rw [if_neg (by decide +kernel)]; exact ⟨rfl, rfl⟩))
    (fun os started H enc _ => lifted os started H enc)
end Go.Proofs.Ytcflbdpjoanbgaa.netOrder
namespace Go.Proofs.Ytcflbdpjoanbgaa
theorem netOrder_holds : Rows.NetOrderSaid := netOrder.over
#print axioms netOrder_holds
end Go.Proofs.Ytcflbdpjoanbgaa
