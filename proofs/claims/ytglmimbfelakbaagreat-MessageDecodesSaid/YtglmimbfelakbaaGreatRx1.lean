/-
  A reader of bytes that lie in memory that stays with its owner.
  Conditions: none; it speaks of every program of the model.
-/
import Derived.Test.YtglmimbfelakbaaGreatWr1
namespace Go.Sl
open Go
set_option linter.unusedSimpArgs false
set_option linter.unusedVariables false

/-- The piece X, which lets a slice be read as ys. -/
def VwX (X : HP) (q : Option Addr) (n sz : Nat) (ys : List Value) : HP := fun m => X m ∧ ∀ w : World, (∀ b o, m b = some o → w.heap[b]? = some o) → SlAt w q n sz ys
theorem Sat.vwx {W w : World} {l l' : List HP} {X : HP} {q : Option Addr} {n sz : Nat} {ys : List Value} (h : Sat W l w) (s : Sel (VwX X q n sz ys) l l') : SlAt w q n sz ys := by
  obtain ⟨_, _, hv, _, _, hs, _⟩ := (h.sel s).has
  exact hv.2 w hs
theorem Sat.vwxImp {W w : World} {l : List HP} {X : HP} {q q' : Option Addr} {n sz n' sz' : Nat} {ys ys' : List Value} (h : Sat W (VwX X q n sz ys :: l) w) (f : ∀ w, SlAt w q n sz ys → SlAt w q' n' sz' ys') : Sat W (VwX X q' n' sz' ys' :: l) w :=
  h.head fun _ hv => ⟨hv.1, fun w hw => f w (hv.2 w hw)⟩
theorem Sat.vwxBack {W w : World} {l : List HP} {X : HP} {q : Option Addr} {n sz : Nat} {ys : List Value} (h : Sat W (VwX X q n sz ys :: l) w) : Sat W (X :: l) w := h.head fun _ hv => hv.1
theorem has_tailAll {R : List HP} : ∀ {ps : List HP} {m : PH}, Has (ps ++ R) m → Has (ps ++ [All R]) m
  | [], m, h => Has.all (ps := R) (l := []) (by rw [List.append_nil]; exact h)
  | _ :: _, _, ⟨h1, h2, a, b, c, d, e⟩ => ⟨h1, h2, a, has_tailAll b, c, d, e⟩
theorem has_tailUn {R : List HP} : ∀ {ps : List HP} {m : PH}, Has (ps ++ [All R]) m → Has (ps ++ R) m
  | [], m, h => by have := Has.unall (ps := R) (l := []) h; rwa [List.append_nil] at this
  | _ :: _, _, ⟨h1, h2, a, b, c, d, e⟩ => ⟨h1, h2, a, has_tailUn b, c, d, e⟩
theorem Sat.tailAll {W w : World} {ps R : List HP} (h : Sat W (ps ++ R) w) : Sat W (ps ++ [All R]) w := h.imp fun _ => has_tailAll
theorem Sat.tailUn {W w : World} {ps R : List HP} (h : Sat W (ps ++ [All R]) w) : Sat W (ps ++ R) w := h.imp fun _ => has_tailUn
theorem slAt_heap {w w' : World} {q : Option Addr} {n sz : Nat} {ys : List Value} (h : w.heap = w'.heap) (hs : SlAt w q n sz ys) : SlAt w' q n sz ys :=
  ⟨hs.1, fun hn => let ⟨a, ha, h2⟩ := hs.2 hn; ⟨a, ha, fun j u hu => by have := h2 j u hu; unfold World.cell? at this ⊢; rw [← h]; exact this⟩⟩
theorem Sat.toVwX {W w : World} {R l : List HP} {q : Option Addr} {n sz : Nat} {ys : List Value} (h : Sat W (All R :: l) w) (hv : ∀ w, Sat W R w → SlAt w q n sz ys) : Sat W (VwX (All R) q n sz ys :: l) w := by
  obtain ⟨h1, h2, a, b, c, d, e⟩ := h.has
  refine ⟨h.os, h.tape, h.output, h1, h2, ⟨a, fun w' hw' => ?_⟩, b, c, d, e⟩
  have hs : Sat W R { w with heap := w'.heap } := ⟨h.os, h.tape, h.output, Has.mono (fun b o hb => hw' b o hb) a⟩
  exact slAt_heap (w := { w with heap := w'.heap }) rfl (hv { w with heap := w'.heap } hs)
/-- A reader: what is left, the error; X keeps the bytes. -/
def RdX (X : HP) (T p : Nat) (s : RS) : HP := Ex fun q : Option Addr × Nat => All [Blk p [.slice q.1 s.1.length q.2, .int .i64 s.2] T, VwX X q.1 s.1.length 1 (bvs s.1), Fact (s.1.length ≤ q.2)]
theorem rdx_open {W w : World} {l : List HP} {X : HP} {T p : Nat} {s : RS} (h : Sat W (RdX X T p s :: l) w) : ∃ q cap, s.1.length ≤ cap ∧ Sat W (Blk p [.slice q s.1.length cap, .int .i64 s.2] T :: VwX X q s.1.length 1 (bvs s.1) :: l) w := by
  obtain ⟨⟨q, cap⟩, h⟩ := h.unex
  have h2 := h.unall
  have h3 := (h2.sel (.tail (.tail .head))).unfact.1
  exact ⟨q, cap, h3, h2.sub (.cons .head (.cons .head (.skip .refl)))⟩
theorem rdx_shut {W w : World} {l : List HP} {X : HP} {T p n cap : Nat} {q : Option Addr} {e : Int} {s : RS} {ys : List Value} (h : Sat W (Blk p [.slice q n cap, .int .i64 e] T :: VwX X q n 1 ys :: l) w) (hn : n = s.1.length) (hy : ys = bvs s.1) (he : e = s.2) (hc : n ≤ cap) : Sat W (RdX X T p s :: l) w := by
  subst hn; subst hy; subst he
  refine Sat.ex (q, cap) (Sat.all ?_)
  exact (h.fact hc).sub (.cons (.tail .head) (.cons (.tail .head) .refl))
theorem rdx_shutNil {W w : World} {l : List HP} {X : HP} {T p : Nat} {q : Option Addr} {n : Nat} {ys : List Value} {e : Int} {s : RS} (h : Sat W (Blk p [.slice none 0 0, .int .i64 e] T :: VwX X q n 1 ys :: l) w) (hs : s = ([], e)) : Sat W (RdX X T p s :: l) w := by
  subst hs
  have h1 : Sat W (VwX X q n 1 ys :: Blk p [.slice none 0 0, .int .i64 e] T :: l) w := h.sub (.cons (.tail .head) .refl)
  have h2 := h1.vwxImp (q' := none) (n' := 0) (sz' := 1) (ys' := []) (fun w _ => SlAt.nil w none 1)
  exact rdx_shut (s := ([], e)) (n := 0) (ys := []) (h2.sub (.cons (.tail .head) .refl)) rfl rfl rfl (Nat.le_refl _)
theorem rdx_shutDrop {W w : World} {l : List HP} {X : HP} {T p n cap k : Nat} {q : Option Addr} {e : Int} {s : RS} {bs : List UInt8} (h : Sat W (Blk p [.slice (if cap = k then q else q.map (·.add (k * 1))) (n - k) (cap - k), .int .i64 e] T :: VwX X q n 1 (bvs bs) :: l) w) (hn : n = bs.length) (hk : k ≤ n) (hc : n ≤ cap) (hs : s = (bs.drop k, e)) : Sat W (RdX X T p s :: l) w := by
  subst hs; subst hn
  have h2 : Sat W (VwX X q bs.length 1 (bvs bs) :: Blk p [.slice (if cap = k then q else q.map (·.add (k * 1))) (bs.length - k) (cap - k), .int .i64 e] T :: l) w := h.sub (.cons (.tail .head) .refl)
  have h3 := h2.vwxImp (fun w hw => hw.drop hk hc)
  refine rdx_shut (s := (bs.drop k, e)) (h3.sub (.cons (.tail .head) .refl)) (by simp) (by rw [bvs_drop]) rfl (by omega)
end Go.Sl
