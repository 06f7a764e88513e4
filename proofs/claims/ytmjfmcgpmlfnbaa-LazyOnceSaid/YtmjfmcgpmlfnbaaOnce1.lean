/-
  sync.Once, one goroutine.
  Conditions: none.
-/
import Derived.Tactics
import Derived.Tactics2
import Derived.Defers
import Derived.Laws.Pointers
import Derived.Laws.LoneSync
import Derived.RegionTactic
import Derived.RegionCalls
import Derived.ChangeAlike
import Derived.Test.YtmjfmcgpmlfnbaaRows
import Derived.Test.YtmjfmcgpmlfnbaaOp1
import Derived.Test.YtmjfmcgpmlfnbaaFl1
import Derived.Test.YtmjfmcgpmlfnbaaLp1
namespace Go.Proofs.Ytmjfmcgpmlfnbaa
open Go Go.Sl
set_option linter.unusedVariables false
set_option linter.unusedSimpArgs false

theorem o_disable (w : World) : (callFunc 45 #[]).run Try.prog w = .ok (.value (.tuple #[])) w := run_call_mark0 Try.func45 (by kernel_rfl) (by kernel_rfl) (by kernel_rfl) .disable (by kernel_rfl) w
theorem o_enable (w : World) : (callFunc 47 #[]).run Try.prog w = .ok (.value (.tuple #[])) w := run_call_mark0 Try.func47 (by kernel_rfl) (by kernel_rfl) (by kernel_rfl) .enable (by kernel_rfl) w
theorem o_acquire (a : Addr) (w : World) : (callFunc 48 #[.pointer (some a)]).run Try.prog w = .ok (.value (.tuple #[])) w := run_call_marked Try.func48 (by kernel_rfl) (by kernel_rfl) (by kernel_rfl) .acquire (by kernel_rfl) a w
theorem o_releaseMerge (a : Addr) (w : World) : (callFunc 50 #[.pointer (some a)]).run Try.prog w = .ok (.value (.tuple #[])) w := run_call_marked Try.func50 (by kernel_rfl) (by kernel_rfl) (by kernel_rfl) .releaseMerge (by kernel_rfl) a w
set_option maxRecDepth 100000 in
theorem o_store (a : Addr) (x : Value) (u : FrameMode) (w : World) (hc : w.cell? a = some x) (hz : w.frozen? a = false) :
    CallsD Try.prog 39 #[.pointer (some a), .bool true] u w fun e u' w' => u' = u ∧ (e = .returned (.tuple #[]) ∧ w' = w.drew.setCell a (.int .u32 1)) := by
  have hc' : w.drew.cell? a = some x := by go_simp
  have hz' : w.drew.frozen? a = false := by go_simp
  have hst := run_call_store (P := Try.prog) Try.func43 (by kernel_rfl) (by kernel_rfl) (by kernel_rfl) (by kernel_rfl) (k := .u32) (y := 1) hc' hz'
  go_enter_d Try.func39, Try.ntmps39
  go_wp2
  go_region_calls
  all_goals (go_end0; exact ⟨rfl, rfl⟩)
set_option maxRecDepth 100000 in
theorem o_unlock (a : Addr) (u : FrameMode) (w : World) (hc : w.cell? a = some (.int .i32 1)) (hz : w.frozen? a = false) :
    CallsD Try.prog 38 #[.pointer (some a)] u w fun e u' w' => u' = u ∧ (e = .returned (.tuple #[]) ∧ w' = w.setCell a (.int .i32 0)) := by
  have hd := o_disable
  have he := o_enable
  have hr := o_releaseMerge
  have hadd := run_call_add (P := Try.prog) Try.func51 (by kernel_rfl) (by kernel_rfl) (by kernel_rfl) .i32 (by kernel_rfl) (y := -1) (s := 0) hc hz (by simp [go_sem]; rfl)
  have hcv := run_convert_to_unsafe (P := Try.prog) (src := 79) (dst := 83) Try.underlying79 Try.underlying83 (by kernel_rfl) hc
  go_enter_d Try.func38, Try.ntmps38
  go_wp2
  go_end0
  go_wp2
  go_end0
  exact ⟨rfl, rfl⟩
set_option maxRecDepth 100000 in
theorem o_lock (a : Addr) (w : World) (hc : w.cell? a = some (.int .i32 0)) (hz : w.frozen? a = false) :
    Calls Try.prog 37 #[.pointer (some a)] w fun e w' => e = .returned (.tuple #[]) ∧ w' = w.setCell a (.int .i32 1) := by
  have hd := o_disable
  have he := o_enable
  have ha := o_acquire
  have hcas := run_call_cas_hit (P := Try.prog) Try.func46 (by kernel_rfl) (by kernel_rfl) (by kernel_rfl) .i32 (by kernel_rfl) (y := 1) hc hz
  have hc' : (w.setCell a (.int .i32 1)).cell? a = some (.int .i32 1) := World.cell?_setCell_same w a _ hc
  have hcv := run_convert_to_unsafe (P := Try.prog) (src := 79) (dst := 83) Try.underlying79 Try.underlying83 (by kernel_rfl) hc'
  go_enter Try.func37, Try.ntmps37
  go_wp2
  first | go_end0 | (simp only [Exit.inBlock, Exit.then]; refine bodyPost_ret (results_none rfl _ _ _) rfl ?_) | refine bodyPost_ret (results_none rfl _ _ _) rfl ?_
  go_wp2
  go_end0
  exact ⟨rfl, rfl⟩
theorem o_load32 {a : Addr} {x : Int} {w : World} (hc : w.cell? a = some (.int .u32 x)) : (callFunc 36 #[.pointer (some a)]).run Try.prog w = .ok (.value (.int .u32 x)) w := run_call_load Try.func36 (by kernel_rfl) (by kernel_rfl) (by kernel_rfl) .u32 (by kernel_rfl) hc
theorem o_add64 {a : Addr} {x y : Int} {w : World} (hc : w.cell? a = some (.int .i64 x)) (hz : w.frozen? a = false) : (callFunc 40 #[.pointer (some a), .int .i64 y]).run Try.prog w = .ok (.value (.int .i64 (IntKind.i64.wrap (x + y)))) (w.setCell a (.int .i64 (IntKind.i64.wrap (x + y)))) := run_call_add Try.func40 (by kernel_rfl) (by kernel_rfl) (by kernel_rfl) .i64 (by kernel_rfl) hc hz rfl
set_option maxRecDepth 100000 in
/-- (*sync.Once).doSlow, not yet done and the lock free: the function is called, what it leaves stays, but that it is done and the lock free. -/
theorem o_slow {W : World} {R : List HP} {w : World} {p off T fk : Nat} {cs us caps : List Value} {α : Type} {cs' : α → List Value} {R' : α → List HP} (hS : Sat W (Blk p cs T :: R) w) (h0 : cs[off]? = some (.int .u32 0)) (h1 : cs[off + 1]? = some (.int .i32 0))
    (hfb : fnB Try.prog fk = true) (hcall : ∀ w, Sat W (Blk p (cs.set (off + 1) (.int .i32 1)) T :: R) w → Calls Try.prog fk (us ++ [] ++ caps).toArray w (Ret fun v w' => v = .tuple #[] ∧ ∃ x, Sat W (Blk p (cs' x) T :: R' x) w' ∧ (∃ y, (cs' x)[off]? = some y) ∧ (cs' x)[off + 1]? = some (.int .i32 1))) :
    Calls Try.prog 33 [.pointer (some ⟨p, off, none⟩), .func (.func fk) us.toArray caps.toArray].toArray w (Ret fun v w' => v = .tuple #[] ∧ ∃ x, Sat W (Blk p (((cs' x).set off (.int .u32 1)).set (off + 1) (.int .i32 0)) T :: R' x) w') := by
  have c0 := hS.cell .head h0
  have c1 := hS.cell .head h1
  have f1 := hS.frozen .head (i := off + 1) (List.getElem?_eq_some_iff.1 h1).1
  have hS1 := hS.set (off + 1) (.int .i32 1)
  have hl := o_load32 (w := w.setCell ⟨p, off + 1, none⟩ (.int .i32 1)) (a := ⟨p, off, none⟩) (x := 0) ((World.cell?_setCell_other _ ⟨p, off + 1, none⟩ ⟨p, off, none⟩ _ (by simp)).trans c0)
  have hnot : ∀ (x : Bool) (w : World), (Op.unary .not (.bool x)).run Try.prog w = .ok (.bool (!x)) w := fun _ _ => rfl
  have hcf : ∀ w, (callFunc fk (us ++ [] ++ caps).toArray).run Try.prog w = .ok (.enter fk (us ++ [] ++ caps).toArray) w := run_callFunc hfb
  simp only [List.append_nil] at hcf hcall
  go_enter_defers Try.func33, Try.ntmps33
  go_wp2_with (go_at_call 37; refine (o_lock ⟨p, off + 1, none⟩ _ (by go_simp) (by go_simp)).mono ?_; rintro e w' ⟨rfl, rfl⟩)
  go_wp2
  refine (hcall _ hS1).mono ?_
  intro e w2 he
  cases e with
  | panicked ch => exact he.elim
  | outgrown => exact he.elim
  | returned v =>
    obtain ⟨_, x, hS2, ⟨y, hy⟩, h12⟩ := he
    go_wp2
    refine leaves_cons (f := 39) (args := #[.pointer (some ⟨p, off, none⟩), .bool true]) (by simp) (by simp [go_sem]) ?_
    refine (o_store ⟨p, off, none⟩ y .returning _ (hS2.cell .head hy) (hS2.frozen .head (List.getElem?_eq_some_iff.1 hy).1)).mono ?_
    rintro e u' w'' ⟨rfl, rfl, rfl⟩
    have hS3 := (hS2.drew.set off (.int .u32 1))
    have h13 : ((cs' x).set off (.int .u32 1))[off + 1]? = some (.int .i32 1) := by rw [List.getElem?_set_ne (by omega)]; exact h12
    refine leaves_cons (f := 38) (args := #[.pointer (some ⟨p, off + 1, none⟩)]) (by simp [settle]) (by simp [go_sem]) ?_
    refine (o_unlock ⟨p, off + 1, none⟩ _ _ (hS3.cell .head h13) (hS3.frozen .head (List.getElem?_eq_some_iff.1 h13).1)).mono ?_
    rintro e u' w'' ⟨rfl, rfl, rfl⟩
    have hS4 := hS3.set (off + 1) (.int .i32 0)
    exact ⟨.tuple #[], by simp [results, Try.results33], rfl, x, hS4⟩

theorem o_load64 {a : Addr} {x : Int} {w : World} (hc : w.cell? a = some (.int .i64 x)) : (callFunc 35 #[.pointer (some a)]).run Try.prog w = .ok (.value (.int .i64 x)) w := run_call_load Try.func35 (by kernel_rfl) (by kernel_rfl) (by kernel_rfl) .i64 (by kernel_rfl) hc
end Go.Proofs.Ytmjfmcgpmlfnbaa
