/-
  The statement NetPlays of the given rows: proved.
  Conditions: none beyond those of the given row.
-/
import Derived.Test.YtcflbdpjoanbgaaGreatRows
import Derived.Test.YtcflbdpjoanbgaaGreatWNetPlays
import Derived.WalkKit
import Derived.ProofKit
import Derived.OpenShut
import Derived.ShutString
import Derived.ChangeOld
import Derived.Below
import Derived.SizedLaws
import Derived.Lib.SmallJoins
namespace Go.Proofs.YtcflbdpjoanbgaaGreat.netPlays
open Go.ChangeShapes Go.WideShapes Go.ChangeAt Go.RowKit Go.Joins Go.Sl Go.OpenShut
open Go.ChangeMaps (open_string shut_string)
set_option linter.unusedVariables false
set_option linter.unusedSimpArgs false
theorem own : ownKnob Tryz.prog.godebug = none := by kernel_rfl
theorem laidOut : laidOutB Tryz.prog = true := by kernel_rfl

set_option maxRecDepth 100000 in
set_option maxHeartbeats 1000000 in
theorem lifted (os : Os) (started : os.Started) (H : Type) (enc : TypeId × Value → H) :
    ReturnsInHanded {} Tryz.checked os 3 .any (Rows.netPlaysSpec.pre6 enc Tryz.prog Tryz.f3 Rows.netPlaysRow.domain false) (Rows.netPlaysSpec.post enc Tryz.prog Tryz.f3 false true false false) := by
  refine returnsInHanded_of_change_sized (C := Tryz.checked) own started (by kernel_rfl) Tryz.func3
    (ChangeSpec.witness6 (enc := enc) (C := Tryz.checked) false ⟨#[], #[.slice none 0 0], []⟩ 8 (by kernel_rfl) (by kernel_rfl) (by kernel_rfl) (by kernel_rfl)) ?_
  intro W base args ds gs before hval0 hW hcnd hsz0 _
  have hsz : (DataW.weightsEach Tryz.prog (Tryz.f3.params.toList ++ Rows.netPlaysSpec.plain.varTypes Tryz.prog) (ds ++ gs)).all (· ≤ reachBytes) = true := hsz0
  have hval : ∀ (j : Nat) t v, Tryz.f3.params[j]? = some t → args[j]? = some v → Value.okWide Tryz.prog W .any base t v := hval0
  have hW' := hW
  obtain ⟨p, q, hA0, hV, rfl, hfz, hnd⟩ := hW
  have hA : DataW.TrodAll enc Tryz.prog W 0 (fun _ => true) true Tryz.f3.params.toList args.toList ds p := hA0
  rw [Tryz.params3] at hA hval hsz
  obtain ⟨v0, vs0, d0, ds0, p0, q0, hargs, rfl, rfl, h0, r0⟩ := trodAll_cons hA
  obtain ⟨rfl, rfl, rfl⟩ := trodAll_nil r0
  obtain rfl : args = #[v0] := by cases args; simp_all
  obtain ⟨rfl, rfl⟩ := trodVars_none hV
  have k0 := h0
  have lt0 : ∀ x ∈ p0, x.block < W.heap.size := by obtain ⟨m, hm⟩ := k0; exact DataW.trod_lt m _ _ _ hm
  obtain ⟨⟨q0, cap0, l0⟩, e0, sl0, le0, mx0, by0, nil0, all0⟩ := arg_one (by kernel_rfl) (op_slice (sz := 3) (by' := 40) Tryz.underlying22 (by kernel_rfl) (by kernel_rfl) (op_struct (fs := [(3, 0, 1), (3, 1, 1), (25, 2, 1)]) (by kernel_rfl) (by kernel_rfl) (op_fcons (op_i64 Tryz.underlying3) (op_fcons (op_i64 Tryz.underlying3) (op_fcons (op_slice (sz := 10) (by' := 136) Tryz.underlying25 (by kernel_rfl) (by kernel_rfl) (op_struct (fs := [(3, 0, 1), (3, 1, 1), (3, 2, 1), (2, 3, 1), (3, 4, 1), (9, 5, 1), (3, 6, 1), (28, 7, 1), (29, 8, 1), (30, 9, 1)]) (by kernel_rfl) (by kernel_rfl) (op_fcons (op_i64 Tryz.underlying3) (op_fcons (op_i64 Tryz.underlying3) (op_fcons (op_i64 Tryz.underlying3) (op_fcons (op_i64 Tryz.underlying2) (op_fcons (op_i64 Tryz.underlying3) (op_fcons (op_str Tryz.underlying9) (op_fcons (op_i64 Tryz.underlying3) (op_fcons (op_slice (sz := 10) (by' := 104) Tryz.underlying28 (by kernel_rfl) (by kernel_rfl) (op_struct (fs := [(9, 0, 1), (56, 1, 9)]) (by kernel_rfl) (by kernel_rfl) (op_fcons (op_str Tryz.underlying9) (op_fcons (op_struct (fs := [(53, 0, 8), (54, 8, 1)]) (by kernel_rfl) (by kernel_rfl) (op_fcons (op_array (sz := 1) (n := 8) Tryz.underlying53 (by kernel_rfl) (by kernel_rfl) (op_i64 Tryz.underlying2)) (op_fcons (op_slice (sz := 4) (by' := 48) Tryz.underlying54 (by kernel_rfl) (by kernel_rfl) (op_struct (fs := [(87, 0, 2), (34, 2, 1), (4, 3, 1)]) (by kernel_rfl) (by kernel_rfl) (op_fcons (op_struct (fs := [(3, 0, 1), (2, 1, 1)]) (by kernel_rfl) (by kernel_rfl) (op_fcons (op_i64 Tryz.underlying3) (op_fcons (op_i64 Tryz.underlying2) (op_fnil _)))) (op_fcons (op_slice (sz := 1) (by' := 1) Tryz.underlying34 (by kernel_rfl) (by kernel_rfl) (op_u8 Tryz.underlying5)) (op_fcons (op_bool Tryz.underlying4) (op_fnil _)))))) (op_fnil _)))) (op_fnil _))))) (op_fcons (op_slice (sz := 10) (by' := 104) Tryz.underlying29 (by kernel_rfl) (by kernel_rfl) (op_struct (fs := [(9, 0, 1), (53, 1, 8), (59, 9, 1)]) (by kernel_rfl) (by kernel_rfl) (op_fcons (op_str Tryz.underlying9) (op_fcons (op_array (sz := 1) (n := 8) Tryz.underlying53 (by kernel_rfl) (by kernel_rfl) (op_i64 Tryz.underlying2)) (op_fcons (op_slice (sz := 2) (by' := 16) Tryz.underlying59 (by kernel_rfl) (by kernel_rfl) (op_struct (fs := [(3, 0, 1), (2, 1, 1)]) (by kernel_rfl) (by kernel_rfl) (op_fcons (op_i64 Tryz.underlying3) (op_fcons (op_i64 Tryz.underlying2) (op_fnil _))))) (op_fnil _)))))) (op_fcons (op_slice (sz := 2) (by' := 16) Tryz.underlying30 (by kernel_rfl) (by kernel_rfl) (op_struct (fs := [(3, 0, 1), (2, 1, 1)]) (by kernel_rfl) (by kernel_rfl) (op_fcons (op_i64 Tryz.underlying3) (op_fcons (op_i64 Tryz.underlying2) (op_fnil _))))) (op_fnil _))))))))))))) (op_fnil _)))))) (hval 0 22 v0 rfl rfl) h0 (arg_weights hsz (j := 0) (t := 22) rfl rfl)
  obtain rfl : v0 = .slice q0 l0.length cap0 := by simpa using e0
  dsimp only [maxLen] at sl0 le0 mx0 by0 nil0 all0
  have hM0 : ∀ x ∈ l0, MsgsAt W x.2.2.1 := fun x hx => ⟨slAt_cast (all0 x hx).2.2.1.1 (flat_congr fun m => by simp [msgC, slv]), fun m hm => by
    obtain ⟨kd, fr, tn, op, fo, ky, bk, ⟨qe, ce, es⟩, ⟨qd, cd, ds⟩, ⟨qm, cm, ms⟩, _⟩ := m
    obtain ⟨_, _, _, _, _, hky, _, oke, okd, okm, _⟩ := (all0 x hx).2.2.1.2.2.2.2.2 _ hm
    have hE : EntsAt W (qe, ce, es) := ⟨slAt_cast oke.1 (flat_congr fun e => by simp [entC, sibC, i64s, flat_ints]), fun e he => by
      obtain ⟨_, ⟨⟨h8, _⟩, hvs, _⟩, _⟩ := oke.2.2.2.2.2 e he
      have hlv := hvs.2.1
      have hcv := hvs.2.2.2.1
      refine ⟨h8, slAt_cast hvs.1 (flat_congr fun v => by simp [valC, dotC]), fun v hv => ?_, by omega⟩
      obtain ⟨_, hb, _, _⟩ := hvs.2.2.2.2.2 v hv
      have h3 := hb.2.2.2.1
      exact ⟨slAt_cast hb.1 (flat_bv _), by have := hb.2.1; omega⟩, by have := oke.2.1; have := oke.2.2.2.1; dsimp only at *; omega⟩
    have hD : DigsAt W (qd, cd, ds) := ⟨slAt_cast okd.1 (flat_congr fun e => by simp [digC, i64s, flat_ints]), fun e he => by
      obtain ⟨_, ⟨h8, _⟩, hvs, _⟩ := okd.2.2.2.2.2 e he
      have hlv := hvs.2.1
      have hcv := hvs.2.2.2.1
      exact ⟨h8, slAt_cast hvs.1 (flat_congr fun v => by simp [dotC]), by omega⟩, by have := okd.2.1; have := okd.2.2.2.1; dsimp only at *; omega⟩
    have hMm : DotsAt W (qm, cm, ms) := ⟨slAt_cast okm.1 (flat_congr fun v => by simp [dotC]), by have := okm.2.1; have := okm.2.2.2.1; dsimp only at *; omega⟩
    exact ⟨hE, hD, hMm⟩⟩
  clear hA0 hval0 hsz0
  refine (NetPlays_c l0 q0 cap0 (Sat.start W) (by omega) (fun x hx w h => (hM0 x hx).old h .head) (fun w h => h.slOfOld .head (slAt_cast sl0 (flat_congr fun x => by simp [callN, slv])))).mono fun e W' he => ?_
  obtain ⟨rfl, bel⟩ : e = .returned (.bool true) ∧ Below W.heap.size W W' := by
    cases e with
    | returned v => obtain ⟨hv1, hv2⟩ := he; exact ⟨by rw [hv1], hv2.below .head⟩
    | panicked c => exact he.elim
    | outgrown => exact he.elim
  exact ⟨_, rfl, _, _, _, [], _, [], hW', trodAll_mk1 (shut_bool Tryz.underlying4 _), (trodAll_cons_mk (Below.trod laidOut (by kernel_rfl) (of_decide_eq_true (by kernel_rfl)) k0 bel lt0) trodAll_mk0), rfl, bel.frame _, fun h => by cases h⟩
theorem over : Rows.netPlaysRow.holds Tryz.pinned (OpenSpec.ofChange Rows.netPlaysSpec) :=
  OpenClaim.holds_of_wide 3 Tryz.f3 rfl rfl rfl rfl rfl rfl rfl ⟨rfl, rfl, rfl, rfl, rfl⟩ rfl rfl rfl rfl rfl (by kernel_rfl) Tryz.func3 (by kernel_rfl)
    (of_decide_eq_true (by kernel_rfl)) (by unfold Func.isWrapper; first | (rw [if_pos (by decide +kernel)]; kernel_rfl) | (rw [if_neg (by decide +kernel)]; exact ⟨rfl, rfl⟩))
    (fun os started H enc _ => lifted os started H enc)
end Go.Proofs.YtcflbdpjoanbgaaGreat.netPlays
namespace Go.Proofs.YtcflbdpjoanbgaaGreat
theorem netPlays_holds : Rows.NetPlaysSaid := netPlays.over
#print axioms netPlays_holds
end Go.Proofs.YtcflbdpjoanbgaaGreat
