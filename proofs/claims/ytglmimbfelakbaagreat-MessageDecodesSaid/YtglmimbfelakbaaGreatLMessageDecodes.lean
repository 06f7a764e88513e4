/-
  The statement MessageDecodes of the given rows: proved.
  Conditions: none beyond those of the given row.
-/
import Derived.Test.YtglmimbfelakbaaGreatRows
import Derived.Test.YtglmimbfelakbaaGreatWMessageDecodes
import Derived.WalkKit
import Derived.ProofKit
import Derived.OpenShut
import Derived.ShutString
import Derived.ChangeOld
import Derived.Below
import Derived.SizedLaws
import Derived.Lib.SmallJoins
namespace Go.Proofs.YtglmimbfelakbaaGreat.messageDecodes
open Go.ChangeShapes Go.WideShapes Go.ChangeAt Go.RowKit Go.Joins Go.Sl Go.OpenShut
open Go.ChangeMaps (open_string shut_string)
set_option linter.unusedVariables false
set_option linter.unusedSimpArgs false
theorem own : ownKnob Tryz.prog.godebug = none := by kernel_rfl
theorem laidOut : laidOutB Tryz.prog = true := by kernel_rfl

set_option maxRecDepth 100000 in
set_option maxHeartbeats 1000000 in
theorem lifted (os : Os) (started : os.Started) (H : Type) (enc : TypeId × Value → H) :
    ReturnsInHanded {} Tryz.checked os 3 .any (Rows.messageDecodesSpec.pre6 enc Tryz.prog Tryz.f3 Rows.messageDecodesRow.domain false) (Rows.messageDecodesSpec.post enc Tryz.prog Tryz.f3 false true false false) := by
  refine returnsInHanded_of_change_sized (C := Tryz.checked) own started (by kernel_rfl) Tryz.func3
    (ChangeSpec.witness6 (enc := enc) (C := Tryz.checked) false ⟨#[], #[.agg #[.int .i64 0, .int .i64 0, .int .i64 0, .int .i64 0, .int .i64 0, .string ⟨#[]⟩, .int .i64 0, .slice none 0 0, .slice none 0 0, .slice none 0 0], .int .i64 0, .slice none 0 0, .int .u8 0, .slice none 0 0], []⟩ 8 (by kernel_rfl) (by kernel_rfl) (by kernel_rfl) (by kernel_rfl)) ?_
  intro W base args ds gs before hval0 hW hcnd hsz0 _
  have hsz : (DataW.weightsEach Tryz.prog (Tryz.f3.params.toList ++ Rows.messageDecodesSpec.plain.varTypes Tryz.prog) (ds ++ gs)).all (· ≤ reachBytes) = true := hsz0
  have hval : ∀ (j : Nat) t v, Tryz.f3.params[j]? = some t → args[j]? = some v → Value.okWide Tryz.prog W .any base t v := hval0
  have hW' := hW
  obtain ⟨p, q, hA0, hV, rfl, hfz, hnd⟩ := hW
  have hA : DataW.TrodAll enc Tryz.prog W 0 (fun _ => true) true Tryz.f3.params.toList args.toList ds p := hA0
  rw [Tryz.params3] at hA hval hsz
  obtain ⟨v0, vs0, d0, ds0, p0, q0, hargs, rfl, rfl, h0, r0⟩ := trodAll_cons hA
  obtain ⟨v1, vs1, d1, ds1, p1, q1, rfl, rfl, rfl, h1, r1⟩ := trodAll_cons r0
  obtain ⟨v2, vs2, d2, ds2, p2, q2, rfl, rfl, rfl, h2, r2⟩ := trodAll_cons r1
  obtain ⟨v3, vs3, d3, ds3, p3, q3, rfl, rfl, rfl, h3, r3⟩ := trodAll_cons r2
  obtain ⟨v4, vs4, d4, ds4, p4, q4, rfl, rfl, rfl, h4, r4⟩ := trodAll_cons r3
  obtain ⟨rfl, rfl, rfl⟩ := trodAll_nil r4
  obtain rfl : args = #[v0, v1, v2, v3, v4] := by cases args; simp_all
  obtain ⟨rfl, rfl⟩ := trodVars_none hV
  have k0 := h0
  have lt0 : ∀ x ∈ p0, x.block < W.heap.size := by obtain ⟨m, hm⟩ := k0; exact DataW.trod_lt m _ _ _ hm
  obtain ⟨⟨kd0, fr0, tn0, op0, fo0, ky0, bk0, ⟨qe0, ce0, es0⟩, ⟨qd0, cd0, ds0⟩, ⟨qm0, cm0, ms0⟩, _⟩, rfl, ok0⟩ := arg_agg (by kernel_rfl) (op_struct (fs := [(3, 0, 1), (3, 1, 1), (3, 2, 1), (2, 3, 1), (3, 4, 1), (9, 5, 1), (3, 6, 1), (22, 7, 1), (23, 8, 1), (24, 9, 1)]) (by kernel_rfl) (by kernel_rfl) (op_fcons (op_i64 Tryz.underlying3) (op_fcons (op_i64 Tryz.underlying3) (op_fcons (op_i64 Tryz.underlying3) (op_fcons (op_i64 Tryz.underlying2) (op_fcons (op_i64 Tryz.underlying3) (op_fcons (op_str Tryz.underlying9) (op_fcons (op_i64 Tryz.underlying3) (op_fcons (op_slice (sz := 10) (by' := 104) Tryz.underlying22 (by kernel_rfl) (by kernel_rfl) (op_struct (fs := [(9, 0, 1), (44, 1, 9)]) (by kernel_rfl) (by kernel_rfl) (op_fcons (op_str Tryz.underlying9) (op_fcons (op_struct (fs := [(41, 0, 8), (42, 8, 1)]) (by kernel_rfl) (by kernel_rfl) (op_fcons (op_array (sz := 1) (n := 8) Tryz.underlying41 (by kernel_rfl) (by kernel_rfl) (op_i64 Tryz.underlying2)) (op_fcons (op_slice (sz := 4) (by' := 48) Tryz.underlying42 (by kernel_rfl) (by kernel_rfl) (op_struct (fs := [(93, 0, 2), (28, 2, 1), (4, 3, 1)]) (by kernel_rfl) (by kernel_rfl) (op_fcons (op_struct (fs := [(3, 0, 1), (2, 1, 1)]) (by kernel_rfl) (by kernel_rfl) (op_fcons (op_i64 Tryz.underlying3) (op_fcons (op_i64 Tryz.underlying2) (op_fnil _)))) (op_fcons (op_slice (sz := 1) (by' := 1) Tryz.underlying28 (by kernel_rfl) (by kernel_rfl) (op_u8 Tryz.underlying5)) (op_fcons (op_bool Tryz.underlying4) (op_fnil _)))))) (op_fnil _)))) (op_fnil _))))) (op_fcons (op_slice (sz := 10) (by' := 104) Tryz.underlying23 (by kernel_rfl) (by kernel_rfl) (op_struct (fs := [(9, 0, 1), (41, 1, 8), (47, 9, 1)]) (by kernel_rfl) (by kernel_rfl) (op_fcons (op_str Tryz.underlying9) (op_fcons (op_array (sz := 1) (n := 8) Tryz.underlying41 (by kernel_rfl) (by kernel_rfl) (op_i64 Tryz.underlying2)) (op_fcons (op_slice (sz := 2) (by' := 16) Tryz.underlying47 (by kernel_rfl) (by kernel_rfl) (op_struct (fs := [(3, 0, 1), (2, 1, 1)]) (by kernel_rfl) (by kernel_rfl) (op_fcons (op_i64 Tryz.underlying3) (op_fcons (op_i64 Tryz.underlying2) (op_fnil _))))) (op_fnil _)))))) (op_fcons (op_slice (sz := 2) (by' := 16) Tryz.underlying24 (by kernel_rfl) (by kernel_rfl) (op_struct (fs := [(3, 0, 1), (2, 1, 1)]) (by kernel_rfl) (by kernel_rfl) (op_fcons (op_i64 Tryz.underlying3) (op_fcons (op_i64 Tryz.underlying2) (op_fnil _))))) (op_fnil _)))))))))))) (hval 0 26 v0 rfl rfl) h0 (arg_weights hsz (j := 0) (t := 26) rfl rfl)
  obtain ⟨_, _, _, _, _, hky0, _, oke0, okd0, okm0, _⟩ := ok0
  have lE0 : es0.length ≤ 9223372036854775806 := (by have h1 := oke0.2.1; have h2 := oke0.2.2.2.1; dsimp only at h1 h2; omega)
  have lD0 : ds0.length ≤ 9223372036854775806 := (by have h1 := okd0.2.1; have h2 := okd0.2.2.2.1; dsimp only at h1 h2; omega)
  have lM0 : ms0.length ≤ 9223372036854775806 := (by have h1 := okm0.2.1; have h2 := okm0.2.2.2.1; dsimp only at h1 h2; omega)
  have hE0 : EntsAt W (qe0, ce0, es0) := ⟨slAt_cast oke0.1 (flat_congr fun e => by simp [entC, sibC, i64s, flat_ints]), fun e he => by
    obtain ⟨_, ⟨⟨h8, _⟩, hvs, _⟩, _⟩ := oke0.2.2.2.2.2 e he
    have hlv := hvs.2.1
    have hcv := hvs.2.2.2.1
    refine ⟨h8, slAt_cast hvs.1 (flat_congr fun v => by simp [valC, dotC]), fun v hv => ?_, by omega⟩
    obtain ⟨_, hb, _, _⟩ := hvs.2.2.2.2.2 v hv
    have h3 := hb.2.2.2.1
    exact ⟨slAt_cast hb.1 (flat_bv _), by have := hb.2.1; omega⟩, by have := oke0.2.1; have := oke0.2.2.2.1; dsimp only at *; omega⟩
  have hD0 : DigsAt W (qd0, cd0, ds0) := ⟨slAt_cast okd0.1 (flat_congr fun e => by simp [digC, i64s, flat_ints]), fun e he => by
    obtain ⟨_, ⟨h8, _⟩, hvs, _⟩ := okd0.2.2.2.2.2 e he
    have hlv := hvs.2.1
    have hcv := hvs.2.2.2.1
    exact ⟨h8, slAt_cast hvs.1 (flat_congr fun v => by simp [dotC]), by omega⟩, by have := okd0.2.1; have := okd0.2.2.2.1; dsimp only at *; omega⟩
  have hM0 : DotsAt W (qm0, cm0, ms0) := ⟨slAt_cast okm0.1 (flat_congr fun v => by simp [dotC]), by have := okm0.2.1; have := okm0.2.2.2.1; dsimp only at *; omega⟩
  have k1 := h1
  have lt1 : ∀ x ∈ p1, x.block < W.heap.size := by obtain ⟨m, hm⟩ := k1; exact DataW.trod_lt m _ _ _ hm
  obtain ⟨a1, rfl, rfl, rfl, w1⟩ := open_int Tryz.underlying3 (hval 1 3 v1 rfl rfl) h1
  have b1 : -9223372036854775808 ≤ a1 ∧ a1 ≤ 9223372036854775807 := bounds_i64 w1
  have k2 := h2
  have lt2 : ∀ x ∈ p2, x.block < W.heap.size := by obtain ⟨m, hm⟩ := k2; exact DataW.trod_lt m _ _ _ hm
  obtain ⟨⟨q2, cap2, l2⟩, e2, sl2, le2, mx2, by2, nil2, all2⟩ := arg_one (by kernel_rfl) (op_slice (sz := 1) (by' := 8) Tryz.underlying27 (by kernel_rfl) (by kernel_rfl) (op_i64 Tryz.underlying3)) (hval 2 27 v2 rfl rfl) h2 (arg_weights hsz (j := 2) (t := 27) rfl rfl)
  obtain rfl : v2 = .slice q2 l2.length cap2 := by simpa using e2
  (try simp only [flat_bv] at sl2)
  dsimp only [maxLen] at sl2 le2 mx2 by2 nil2 all2
  have k3 := h3
  have lt3 : ∀ x ∈ p3, x.block < W.heap.size := by obtain ⟨m, hm⟩ := k3; exact DataW.trod_lt m _ _ _ hm
  obtain ⟨a3, rfl, rfl, rfl, w3⟩ := open_int Tryz.underlying5 (hval 3 5 v3 rfl rfl) h3
  have b3 : 0 ≤ a3 ∧ a3 ≤ 255 := bounds_u8 w3
  obtain ⟨c3, hc3⟩ : ∃ c : UInt8, a3 = ((c.toNat : Nat) : Int) := ⟨UInt8.ofNat a3.toNat, by simp; omega⟩
  subst hc3
  have k4 := h4
  have lt4 : ∀ x ∈ p4, x.block < W.heap.size := by obtain ⟨m, hm⟩ := k4; exact DataW.trod_lt m _ _ _ hm
  obtain ⟨⟨q4, cap4, l4⟩, e4, sl4, le4, mx4, by4, nil4, all4⟩ := arg_one (by kernel_rfl) (op_slice (sz := 1) (by' := 1) Tryz.underlying28 (by kernel_rfl) (by kernel_rfl) (op_u8 Tryz.underlying5)) (hval 4 28 v4 rfl rfl) h4 (arg_weights hsz (j := 4) (t := 28) rfl rfl)
  obtain rfl : v4 = .slice q4 l4.length cap4 := by simpa using e4
  (try simp only [flat_bv] at sl4)
  dsimp only [maxLen] at sl4 le4 mx4 by4 nil4 all4
  clear hA0 hval0 hsz0
  refine (MessageDecodes_c kd0 fr0 tn0 op0 fo0 ky0 bk0 es0 qe0 ce0 ds0 qd0 cd0 ms0 qm0 cm0 a1 l2 q2 cap2 c3 l4 q4 cap4 (Sat.start W) (fun _ h => hE0.old h .head) (fun _ h => hD0.old h .head) (fun _ h => hM0.old h .head) lE0 lD0 lM0 (by omega) (fun w h => h.slOfOld .head (slAt_cast sl2 (flat_ints l2))) (by omega) le4 (fun w h => h.slOfOld .head sl4)).mono fun e W' he => ?_
  obtain ⟨rfl, bel⟩ : e = .returned (.bool true) ∧ Below W.heap.size W W' := by
    cases e with
    | returned v => obtain ⟨hv1, hv2⟩ := he; exact ⟨by rw [hv1], hv2.below .head⟩
    | panicked c => exact he.elim
    | outgrown => exact he.elim
  exact ⟨_, rfl, _, _, _, [], _, [], hW', trodAll_mk1 (shut_bool Tryz.underlying4 _), (trodAll_cons_mk (Below.trod laidOut (by kernel_rfl) (of_decide_eq_true (by kernel_rfl)) k0 bel lt0) (trodAll_cons_mk (Below.trod laidOut (by kernel_rfl) (of_decide_eq_true (by kernel_rfl)) k1 bel lt1) (trodAll_cons_mk (Below.trod laidOut (by kernel_rfl) (of_decide_eq_true (by kernel_rfl)) k2 bel lt2) (trodAll_cons_mk (Below.trod laidOut (by kernel_rfl) (of_decide_eq_true (by kernel_rfl)) k3 bel lt3) (trodAll_cons_mk (Below.trod laidOut (by kernel_rfl) (of_decide_eq_true (by kernel_rfl)) k4 bel lt4) trodAll_mk0))))), rfl, bel.frame _, fun h => by cases h⟩
theorem over : Rows.messageDecodesRow.holds Tryz.pinned (OpenSpec.ofChange Rows.messageDecodesSpec) :=
  OpenClaim.holds_of_wide 3 Tryz.f3 rfl rfl rfl rfl rfl rfl rfl ⟨rfl, rfl, rfl, rfl, rfl⟩ rfl rfl rfl rfl rfl (by kernel_rfl) Tryz.func3 (by kernel_rfl)
    (of_decide_eq_true (by kernel_rfl)) (by unfold Func.isWrapper; first | (rw [if_pos (by decide +kernel)]; kernel_rfl) | (rw [if_neg (by decide +kernel)]; exact ⟨rfl, rfl⟩))
    (fun os started H enc _ => lifted os started H enc)
end Go.Proofs.YtglmimbfelakbaaGreat.messageDecodes
namespace Go.Proofs.YtglmimbfelakbaaGreat
theorem messageDecodes_holds : Rows.MessageDecodesSaid := messageDecodes.over
#print axioms messageDecodes_holds
end Go.Proofs.YtglmimbfelakbaaGreat
