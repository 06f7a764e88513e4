/-
  New blocks in a region whose order is open: they may come up at any time beside a row of calls.
  Conditions: none; it speaks of every program of the model.
-/
import Derived.Test.YtcflbdpjoanbgaaGreatSl9
namespace Go.Sl
open Go
set_option linter.unusedSimpArgs false
set_option linter.unusedVariables false

/-- A new block of a region: which operation, into which slot, of which type, its cells. -/
structure Flt where
  i : Nat
  d : Nat
  t : Nat
  vs : List Value

def fslots : List Flt → List (Option Nat) → List (Nat × Value)
  | f :: fs, some b :: os => (f.d, .pointer (some ⟨b, 0, none⟩)) :: fslots fs os
  | _ :: fs, none :: os => fslots fs os
  | _, _ => []
def fpcs : List Flt → List (Option Nat) → List HP
  | f :: fs, some b :: os => Blk b f.vs f.t :: fpcs fs os
  | _ :: fs, none :: os => fpcs fs os
  | _, _ => []
def fmark (listed : Array Bool) : List Flt → List (Option Nat) → Array Bool
  | f :: fs, some _ :: os => (fmark listed fs os).setIfInBounds f.i true
  | _ :: fs, none :: os => fmark listed fs os
  | _, _ => listed
def fmarkB (listed : Array Bool) : List Flt → List Bool → Array Bool
  | f :: fs, true :: os => (fmarkB listed fs os).setIfInBounds f.i true
  | _ :: fs, false :: os => fmarkB listed fs os
  | _, _ => listed
def fpend : List (Option Nat) → Nat
  | none :: os => fpend os + 1
  | some _ :: os => fpend os
  | [] => 0
def patterns : Nat → List (List Bool)
  | 0 => [[]]
  | k + 1 => (patterns k).flatMap fun l => [true :: l, false :: l]
theorem mem_patterns : ∀ (l : List Bool), l ∈ patterns l.length
  | [] => by simp [patterns]
  | b :: l => by
    simp only [List.length_cons, patterns, List.mem_flatMap]
    exact ⟨l, mem_patterns l, by cases b <;> simp⟩
theorem fmark_bool (listed : Array Bool) : ∀ (fs : List Flt) (os : List (Option Nat)), fmark listed fs os = fmarkB listed fs (os.map (·.isSome))
  | [], os => by cases os <;> simp [fmark, fmarkB]
  | _ :: _, [] => rfl
  | f :: fs, some b :: os => by simp [fmark, fmarkB, fmark_bool listed fs os]
  | f :: fs, none :: os => by simp [fmark, fmarkB, fmark_bool listed fs os]
def ready? (ops : Array Oper) (listed : Array Bool) : List Nat := Region.ready .any ops listed
/-- At every time what may come up is c, or one of the new blocks that are not there yet. -/
def fcheck (ops : Array Oper) (listed : Array Bool) (fs : List Flt) (c : Option Nat) : Bool :=
  (patterns fs.length).all fun bs => (!(Region.ready .any ops (fmarkB listed fs bs)).isEmpty || (c.isNone && bs.all id)) && (c.isNone && bs.all id || (Region.ready .any ops (fmarkB listed fs bs)).all fun j => c == some j || (fs.zip bs).any fun x => x.1.i == j && !x.2)
theorem fcheck_out {ops : Array Oper} {listed : Array Bool} {fs : List Flt} {c : Option Nat} (h : fcheck ops listed fs c = true) (os : List (Option Nat)) (ho : os.length = fs.length) (hc : c ≠ none ∨ fpend os ≠ 0) :
    Region.ready .any ops (fmark listed fs os) ≠ [] ∧ ∀ j ∈ Region.ready .any ops (fmark listed fs os), c = some j ∨ ∃ (k : Nat) (f : Flt), fs[k]? = some f ∧ os[k]? = some none ∧ f.i = j := by
  have h1 := List.all_eq_true.1 h (os.map (·.isSome)) (by have := mem_patterns (os.map (·.isSome)); simpa [ho] using this)
  rw [← fmark_bool] at h1
  have hn : (c.isNone && (os.map (·.isSome)).all id) = false := by
    rcases hc with hc | hc
    · cases c <;> simp_all
    · rw [Bool.and_eq_false_iff]
      right
      clear h1 h ho
      induction os with
      | nil => simp [fpend] at hc
      | cons o os ih => cases o with
        | none => simp
        | some b => simp only [fpend] at hc; simpa using ih hc
  rw [hn] at h1
  simp only [Bool.or_false, Bool.false_or, Bool.and_eq_true, Bool.not_eq_true', List.isEmpty_eq_false_iff, List.all_eq_true, Bool.or_eq_true, beq_iff_eq, List.any_eq_true] at h1
  refine ⟨h1.1, fun j hj => ?_⟩
  rcases h1.2 j hj with h2 | ⟨x, hx, h2⟩
  · exact .inl h2
  · right
    obtain ⟨k, hk⟩ := List.mem_iff_getElem?.1 hx
    rw [List.getElem?_zip_eq_some] at hk
    obtain ⟨hk1, hk2⟩ := hk
    simp only [List.getElem?_map, Option.map_eq_some_iff] at hk2
    obtain ⟨o, ho1, ho2⟩ := hk2
    refine ⟨k, x.1, hk1, ?_, h2.1⟩
    rw [ho1]
    cases o with
    | none => rfl
    | some b => exact absurd (show true = false from ho2.trans h2.2) (by simp)

theorem set_comm (l : Array Bool) (i j : Nat) : (l.setIfInBounds i true).setIfInBounds j true = (l.setIfInBounds j true).setIfInBounds i true := by
  apply Array.ext_getElem?
  intro k
  simp only [Array.getElem?_setIfInBounds]
  by_cases h1 : i = k <;> by_cases h2 : j = k <;> simp [h1, h2]
theorem fmark_set (listed : Array Bool) (c : Nat) : ∀ (fs : List Flt) (os : List (Option Nat)), (fmark listed fs os).setIfInBounds c true = fmark (listed.setIfInBounds c true) fs os
  | [], os => by cases os <;> simp [fmark]
  | _ :: _, [] => rfl
  | f :: fs, some b :: os => by simp only [fmark]; rw [set_comm, fmark_set listed c fs os]
  | f :: fs, none :: os => by simp only [fmark]; exact fmark_set listed c fs os
theorem fmark_put (listed : Array Bool) : ∀ (fs : List Flt) (os : List (Option Nat)) (k : Nat) (f : Flt) (b : Nat), fs[k]? = some f → os[k]? = some none → (fmark listed fs os).setIfInBounds f.i true = fmark listed fs (os.set k (some b))
  | [], os, k, f, b, h, _ => by simp at h
  | _ :: _, [], k, f, b, _, h => by simp at h
  | g :: fs, o :: os, 0, f, b, h, h2 => by
    simp at h h2; subst h; subst h2; simp [fmark]
  | g :: fs, o :: os, k + 1, f, b, h, h2 => by
    simp only [List.getElem?_cons_succ] at h h2
    have ih := fmark_put listed fs os k f b h h2
    cases o with
    | none => simp only [fmark, List.set_cons_succ]; exact ih
    | some c => simp only [fmark, List.set_cons_succ]; rw [set_comm, ih]
theorem fpend_put : ∀ (os : List (Option Nat)) (k b : Nat), os[k]? = some none → fpend os = fpend (os.set k (some b)) + 1
  | [], k, b, h => by simp at h
  | o :: os, 0, b, h => by simp at h; subst h; simp [fpend]
  | o :: os, k + 1, b, h => by
    simp only [List.getElem?_cons_succ] at h
    have ih := fpend_put os k b h
    cases o <;> simp only [fpend, List.set_cons_succ, ih]
/-- The slot of a new block, put where it belongs. -/
theorem lk_put : ∀ (fs : List Flt) (os : List (Option Nat)) (k : Nat) (f : Flt) (b : Nat), (fs.map (·.d)).Nodup → fs[k]? = some f → os[k]? = some none → ∀ t v, lk (fslots fs (os.set k (some b))) t = some v → lk ((f.d, .pointer (some ⟨b, 0, none⟩)) :: fslots fs os) t = some v
  | [], os, k, f, b, _, h, _ => by simp at h
  | _ :: _, [], k, f, b, _, _, h => by simp at h
  | g :: fs, o :: os, 0, f, b, _, h, h2 => by
    simp at h h2; subst h; subst h2; simp [fslots]
  | g :: fs, o :: os, k + 1, f, b, hn, h, h2 => by
    intro t v ht
    simp only [List.getElem?_cons_succ] at h h2
    simp only [List.map_cons, List.nodup_cons] at hn
    have hne : g.d ≠ f.d := fun e => hn.1 (e ▸ List.mem_map.2 ⟨f, List.mem_iff_getElem?.2 ⟨k, h⟩, rfl⟩)
    have ih := lk_put fs os k f b hn.2 h h2 t v
    cases o with
    | none => simp only [fslots, List.set_cons_succ] at ht ⊢; exact ih ht
    | some c =>
      simp only [fslots, List.set_cons_succ, lk] at ht ih ⊢
      by_cases e1 : g.d = t
      · subst e1
        rw [nb_self] at ht ⊢
        rw [nb_ne (Ne.symm hne)]
        exact ht
      · rw [nb_ne e1] at ht
        have := ih ht
        by_cases e2 : f.d = t
        · rw [e2, nb_self] at this ⊢; exact this
        · rw [nb_ne e2] at this ⊢; rw [nb_ne e1]; exact this
theorem lk_append : ∀ (L X : List (Nat × Value)) (t : Nat), lk (L ++ X) t = match lk L t with | some v => some v | none => lk X t
  | [], X, t => rfl
  | (k, v) :: L, X, t => by
    simp only [List.cons_append, lk]
    cases Nat.beq k t with
    | true => rfl
    | false => exact lk_append L X t
theorem has_mid : ∀ (Ps : List HP) (p : HP) (Y : List HP) (m : PH), Has (p :: (Ps ++ Y)) m → Has (Ps ++ p :: Y) m
  | [], p, Y, m, h => h
  | q :: Ps, p, Y, m, h => Has.tail (fun m h => has_mid Ps p Y m h) h.swap
theorem fpcs_put : ∀ (fs : List Flt) (os : List (Option Nat)) (k : Nat) (f : Flt) (b : Nat) (Rs : List HP), fs[k]? = some f → os[k]? = some none → ∀ m, Has (Blk b f.vs f.t :: (fpcs fs os ++ Rs)) m → Has (fpcs fs (os.set k (some b)) ++ Rs) m
  | [], os, k, f, b, Rs, h, _ => by simp at h
  | _ :: _, [], k, f, b, Rs, _, h => by simp at h
  | g :: fs, o :: os, 0, f, b, Rs, h, h2 => by
    simp at h h2; subst h; subst h2; intro m hm; exact hm
  | g :: fs, o :: os, k + 1, f, b, Rs, h, h2 => by
    intro m hm
    simp only [List.getElem?_cons_succ] at h h2
    have ih := fpcs_put fs os k f b Rs h h2
    cases o with
    | none => exact ih m hm
    | some c => exact Has.tail ih (Has.swap hm)

/-- L is M, then X. -/
inductive Pre {α : Type _} (X : List α) : List α → List α → Prop
  | nil : Pre X [] X
  | cons {k : α} {M L : List α} : Pre X M L → Pre X (k :: M) (k :: L)
theorem Pre.out {α : Type _} {X M L : List α} (h : Pre X M L) : L = M ++ X := by
  induction h with
  | nil => rfl
  | cons _ ih => rw [ih]; rfl

section
variable {P : Program} {ops : Array Oper} {Q : Exit → Act → World → Prop} {S : World → Prop} {W : World} {n : Nat}

/-- Each new block of the list is what it says. -/
inductive AllF (P : Program) (ops : Array Oper) (n : Nat) : List Flt → Prop
  | nil : AllF P ops n []
  | cons {i d t : Nat} {vs : List Value} {fs : List Flt} {o : Oper} {z : Value} : ops[i]? = some o → o.guard = none → o.op = .alloc t → (P.info? t).bind (·.zero) = some z → z.cells = vs.toArray → o.dst = some d → Nat.blt d n = true → AllF P ops n fs → AllF P ops n (⟨i, d, t, vs⟩ :: fs)
theorem AllF.get {fs : List Flt} (h : AllF P ops n fs) : ∀ {k : Nat} {f : Flt}, fs[k]? = some f → ∃ (o : Oper) (z : Value), ops[f.i]? = some o ∧ o.guard = none ∧ o.op = .alloc f.t ∧ (P.info? f.t).bind (·.zero) = some z ∧ z.cells = f.vs.toArray ∧ o.dst = some f.d ∧ Nat.blt f.d n = true := by
  induction h with
  | nil => intro k f h; simp at h
  | cons h1 h2 h3 h4 h5 h6 h7 _ ih =>
    intro k f hk
    cases k with
    | zero => simp at hk; subst hk; exact ⟨_, _, h1, h2, h3, h4, h5, h6, h7⟩
    | succ k => exact ih (by simpa using hk)

/-- None of the slots of the new blocks is among those of L. -/
def clear (fs : List Flt) (L : List (Nat × Value)) : Bool := fs.all fun f => (lk L f.d).isNone

theorem any_float {fs : List Flt} {F : Nat} {listed : Array Bool} {L : List (Nat × Value)} {Ps Rs : List HP} (c : Option Nat) (hal : AllF P ops n fs) (hnd : (fs.map (·.d)).Nodup) (hcl : clear fs L = true) (hck : fcheck ops listed fs c = true)
    (hSo : ∀ os w, Sat W (Ps ++ (fpcs fs os ++ Rs)) w → S w)
    (step : ∀ (os : List (Option Nat)) a w, os.length = fs.length → (c ≠ none ∨ fpend os = 0) → Fits n a (L ++ fslots fs os) → Sat W (Ps ++ (fpcs fs os ++ Rs)) w → match c with
      | some i => wpOp P ops Q i (fun a' w' => S w' ∧ wpAnyH P .any ops Q S (F + fpend os) (fmark (listed.setIfInBounds i true) fs os) a' w') a w
      | none => wpAnyH P .any ops Q S (F + 1) (fmark listed fs os) a w) :
    ∀ (k : Nat) (os : List (Option Nat)) a w, fpend os = k → os.length = fs.length → Fits n a (L ++ fslots fs os) → Sat W (Ps ++ (fpcs fs os ++ Rs)) w → wpAnyH P .any ops Q S (F + 1 + k) (fmark listed fs os) a w := by
  intro k
  induction k with
  | zero =>
    intro os a w hk ho hf hS
    cases c with
    | none => exact step os a w ho (.inr hk) hf hS
    | some i =>
      obtain ⟨h1, h2⟩ := fcheck_out hck os ho (.inl (by simp))
      refine wpAnyH_all rfl h1 fun j hj => ?_
      rcases h2 j hj with h3 | ⟨k, f, hk1, hk2, _⟩
      · cases h3
        have := step os a w ho (.inl (by simp)) hf hS
        simp only [hk, Nat.add_zero] at this
        rw [fmark_set]
        exact this
      · exfalso
        have := fpend_put os k 0 hk2
        omega
  | succ k ih =>
    intro os a w hk ho hf hS
    obtain ⟨h1, h2⟩ := fcheck_out hck os ho (.inr (by omega))
    refine wpAnyH_all (fuel := F + 1 + k) rfl h1 fun j hj => ?_
    rcases h2 j hj with h3 | ⟨q, f, hk1, hk2, rfl⟩
    · subst h3
      have := step os a w ho (.inl (by simp)) hf hS
      simp only [hk] at this
      rw [show F + 1 + k = F + (k + 1) from by omega, fmark_set]
      exact this
    · obtain ⟨o, z, hi, hg, hop, hz, hcs, hd, hlt⟩ := hal.get hk1
      have hq : f.d ∉ [] := by simp
      have hclf : lk L f.d = none := by
        have := List.all_eq_true.1 hcl f (List.mem_iff_getElem?.2 ⟨q, hk1⟩)
        simpa using this
      unfold wpOp
      simp only [hi]
      have hst : opWp P ops Q o (fun a' w' => S w' ∧ wpAnyH P .any ops Q S (F + 1 + k) ((fmark listed fs os).setIfInBounds f.i true) a' w') a w := by
        refine st_alloc hf (Wn.none hg) hS hop hz hcs hd hlt fun b a' w' hf' hS' => ?_
        have hS2 : Sat W (Ps ++ (fpcs fs (os.set q (some b)) ++ Rs)) w' := hS'.imp fun m hm => by
          have h5 := has_mid Ps _ _ m hm
          have : ∀ (Ps : List HP) m, Has (Ps ++ Blk b f.vs f.t :: (fpcs fs os ++ Rs)) m → Has (Ps ++ (fpcs fs (os.set q (some b)) ++ Rs)) m := by
            intro Ps
            induction Ps with
            | nil => exact fun m hm => fpcs_put fs os q f b Rs hk1 hk2 m hm
            | cons p Ps ih => exact fun m hm => Has.tail ih hm
          exact this Ps m h5
        have hf2 : Fits n a' (L ++ fslots fs (os.set q (some b))) := by
          refine ⟨hf'.size, hf'.defers, fun t v ht => hf'.get t v ?_⟩
          rw [lk_append] at ht
          simp only [lk]
          by_cases e : f.d = t
          · subst e
            rw [hclf] at ht
            have := lk_put fs os q f b hnd hk1 hk2 f.d v ht
            simp only [lk, nb_self] at this ⊢
            exact this
          · rw [nb_ne e]
            simp only [cond_false]
            rw [lk_append]
            cases hl : lk L t with
            | some u => rw [hl] at ht; exact ht
            | none =>
              rw [hl] at ht
              have := lk_put fs os q f b hnd hk1 hk2 t v ht
              simp only [lk, nb_ne e] at this
              exact this
        refine ⟨hSo _ _ hS2, ?_⟩
        rw [fmark_put listed fs os q f b hk1 hk2]
        exact ih (os.set q (some b)) a' w' (by have := fpend_put os q b hk2; omega) (by simp [ho]) hf2 hS2
      exact hst

/-- The first step of a row beside new blocks. -/
theorem float_first {fs : List Flt} {F fuel i : Nat} {o : Oper} {listed : Array Bool} {L : List (Nat × Value)} {Ps Rs Ls : List HP} {a : Act} {w : World} (hi : ops[i]? = some o) (hal : AllF P ops n fs) (hnd : (fs.map (·.d)).Nodup) (hcl : clear fs L = true) (hck : fcheck ops listed fs (some i) = true)
    (hfu : fuel = F + 1 + fs.length) (hf : Fits n a L) (hS : Sat W Ls w) (hp : Pre Rs Ps Ls)
    (hSo : ∀ os w, Sat W (Ps ++ (fpcs fs os ++ Rs)) w → S w)
    (step : ∀ (os : List (Option Nat)) a w, os.length = fs.length → Fits n a (L ++ fslots fs os) → Sat W (Ps ++ (fpcs fs os ++ Rs)) w → opWp P ops Q o (fun a' w' => S w' ∧ wpAnyH P .any ops Q S (F + fpend os) (fmark (listed.setIfInBounds i true) fs os) a' w') a w) :
    wpAnyH P .any ops Q S fuel listed a w := by
  have hno : ∀ fs : List Flt, fslots fs (List.replicate fs.length none) = [] ∧ fpcs fs (List.replicate fs.length none) = [] ∧ fmark listed fs (List.replicate fs.length none) = listed ∧ fpend (List.replicate fs.length none) = fs.length := by
    intro fs
    induction fs with
    | nil => simp [fslots, fpcs, fmark, fpend]
    | cons f fs ih => simp only [List.length_cons, List.replicate_succ, fslots, fpcs, fmark, fpend]; exact ⟨ih.1, ih.2.1, ih.2.2.1, by rw [ih.2.2.2]⟩
  obtain ⟨e1, e2, e3, e4⟩ := hno fs
  rw [hp.out] at hS
  have := any_float (Q := Q) (S := S) (W := W) (F := F) (listed := listed) (L := L) (Ps := Ps) (Rs := Rs) (some i) hal hnd hcl hck hSo (fun os a w ho _ hf hS => by
    have := step os a w ho hf hS
    unfold wpOp
    simp only [hi]
    exact this) fs.length (List.replicate fs.length none) a w e4 (by simp) (by rw [e1]; simpa using hf) (by rw [e2]; simpa using hS)
  rw [e3] at this
  rw [hfu]
  exact this
/-- A further step. -/
theorem float_next {fs : List Flt} {F i : Nat} {o : Oper} {listed : Array Bool} {L M : List (Nat × Value)} {Ps Rs Ls : List HP} {os : List (Option Nat)} {a : Act} {w : World} (hi : ops[i]? = some o) (hal : AllF P ops n fs) (hnd : (fs.map (·.d)).Nodup) (ho : os.length = fs.length) (hf : Fits n a L) (hpf : Pre (fslots fs os) M L) (hS : Sat W Ls w) (hp : Pre (fpcs fs os ++ Rs) Ps Ls)
    (hcl : clear fs M = true) (hck : fcheck ops listed fs (some i) = true) (hSo : ∀ os w, Sat W (Ps ++ (fpcs fs os ++ Rs)) w → S w)
    (step : ∀ (os : List (Option Nat)) a w, os.length = fs.length → Fits n a (M ++ fslots fs os) → Sat W (Ps ++ (fpcs fs os ++ Rs)) w → opWp P ops Q o (fun a' w' => S w' ∧ wpAnyH P .any ops Q S (F + fpend os) (fmark (listed.setIfInBounds i true) fs os) a' w') a w) :
    wpAnyH P .any ops Q S (F + 1 + fpend os) (fmark listed fs os) a w :=
  any_float (Q := Q) (S := S) (W := W) (F := F) (listed := listed) (L := M) (Ps := Ps) (Rs := Rs) (some i) hal hnd hcl hck hSo (fun os a w ho _ hf hS => by
    have := step os a w ho hf hS
    unfold wpOp
    simp only [hi]
    exact this) (fpend os) os a w rfl ho (by rw [← hpf.out]; exact hf) (by rw [← hp.out]; exact hS)
theorem none_all (listed : Array Bool) (fs : List Flt) : fslots fs (List.replicate fs.length none) = [] ∧ fpcs fs (List.replicate fs.length none) = [] ∧ fmark listed fs (List.replicate fs.length none) = listed ∧ fpend (List.replicate fs.length none) = fs.length := by
  induction fs with
  | nil => simp [fslots, fpcs, fmark, fpend]
  | cons f fs ih => simp only [List.length_cons, List.replicate_succ, fslots, fpcs, fmark, fpend]; exact ⟨ih.1, ih.2.1, ih.2.2.1, by rw [ih.2.2.2]⟩
/-- All the new blocks are there. -/
theorem float_last {fs : List Flt} {F : Nat} {listed : Array Bool} {L M : List (Nat × Value)} {Ps Rs Ls : List HP} {os : List (Option Nat)} {a : Act} {w : World} (hal : AllF P ops n fs) (hnd : (fs.map (·.d)).Nodup) (ho : os.length = fs.length) (hf : Fits n a L) (hpf : Pre (fslots fs os) M L) (hS : Sat W Ls w) (hp : Pre (fpcs fs os ++ Rs) Ps Ls)
    (hcl : clear fs M = true) (hck : fcheck ops listed fs none = true) (hSo : ∀ os w, Sat W (Ps ++ (fpcs fs os ++ Rs)) w → S w)
    (last : ∀ (bs : List Nat) a w, bs.length = fs.length → Fits n a (M ++ fslots fs (bs.map some)) → Sat W (Ps ++ (fpcs fs (bs.map some) ++ Rs)) w → wpAnyH P .any ops Q S (F + 1) (fmarkB listed fs (List.replicate fs.length true)) a w) :
    wpAnyH P .any ops Q S (F + 1 + fpend os) (fmark listed fs os) a w :=
  any_float (Q := Q) (S := S) (W := W) (F := F) (listed := listed) (L := M) (Ps := Ps) (Rs := Rs) none hal hnd hcl hck hSo (fun os a w ho hz hf hS => by
    have hz : fpend os = 0 := hz.resolve_left (by simp)
    have hall : ∀ os : List (Option Nat), fpend os = 0 → ∃ bs : List Nat, os = bs.map some := by
      intro os
      induction os with
      | nil => intro _; exact ⟨[], rfl⟩
      | cons o os ih =>
        intro h
        cases o with
        | none => simp [fpend] at h
        | some b => obtain ⟨bs, rfl⟩ := ih (by simpa [fpend] using h); exact ⟨b :: bs, rfl⟩
    obtain ⟨bs, rfl⟩ := hall os hz
    have e : (bs.map some).map (·.isSome) = List.replicate fs.length true := by
      rw [← ho, List.length_map]
      have key : ∀ bs : List Nat, (bs.map some).map (·.isSome) = List.replicate bs.length true := by
        intro bs
        induction bs with
        | nil => rfl
        | cons b bs ih => exact congrArg (true :: ·) ih
      exact key bs
    have := last bs a w (by simpa using ho) hf hS
    rw [fmark_bool, e]
    exact this) (fpend os) os a w rfl ho (by rw [← hpf.out]; exact hf) (by rw [← hp.out]; exact hS)
theorem float_only {fs : List Flt} {F fuel : Nat} {listed : Array Bool} {L : List (Nat × Value)} {Ps Rs Ls : List HP} {a : Act} {w : World} (hal : AllF P ops n fs) (hnd : (fs.map (·.d)).Nodup) (hcl : clear fs L = true) (hck : fcheck ops listed fs none = true)
    (hfu : fuel = F + 1 + fs.length) (hf : Fits n a L) (hS : Sat W Ls w) (hp : Pre Rs Ps Ls) (hSo : ∀ os w, Sat W (Ps ++ (fpcs fs os ++ Rs)) w → S w)
    (last : ∀ (bs : List Nat) a w, bs.length = fs.length → Fits n a (L ++ fslots fs (bs.map some)) → Sat W (Ps ++ (fpcs fs (bs.map some) ++ Rs)) w → wpAnyH P .any ops Q S (F + 1) (fmarkB listed fs (List.replicate fs.length true)) a w) :
    wpAnyH P .any ops Q S fuel listed a w := by
  obtain ⟨e1, e2, e3, e4⟩ := none_all listed fs
  rw [hp.out] at hS
  have := float_last (Q := Q) (S := S) (W := W) (F := F) (listed := listed) (L := L ++ fslots fs (List.replicate fs.length none)) (M := L) (Ps := Ps) (Rs := Rs) (os := List.replicate fs.length none) (a := a) (w := w) hal hnd (by simp) (by rw [e1]; simpa using hf) (by
    have : ∀ (M X : List (Nat × Value)), Pre X M (M ++ X) := by
      intro M X
      induction M with
      | nil => exact .nil
      | cons k M ih => exact .cons ih
    exact this _ _) (Ls := Ps ++ (fpcs fs (List.replicate fs.length none) ++ Rs)) (by rw [e2]; simpa using hS) (by
    have : ∀ (M X : List HP), Pre X M (M ++ X) := by
      intro M X
      induction M with
      | nil => exact .nil
      | cons k M ih => exact .cons ih
    exact this _ _) hcl hck hSo last
  rw [e3, e4] at this
  rw [hfu]
  exact this
end
theorem len_1 {l : List Nat} (h : l.length = 1) : ∃ x0, l = [x0] := by
  match l, h with
  | [x0], _ => exact ⟨x0, rfl⟩
theorem len_2 {l : List Nat} (h : l.length = 2) : ∃ x0 x1, l = [x0, x1] := by
  match l, h with
  | [x0, x1], _ => exact ⟨x0, x1, rfl⟩
theorem len_3 {l : List Nat} (h : l.length = 3) : ∃ x0 x1 x2, l = [x0, x1, x2] := by
  match l, h with
  | [x0, x1, x2], _ => exact ⟨x0, x1, x2, rfl⟩
theorem len_4 {l : List Nat} (h : l.length = 4) : ∃ x0 x1 x2 x3, l = [x0, x1, x2, x3] := by
  match l, h with
  | [x0, x1, x2, x3], _ => exact ⟨x0, x1, x2, x3, rfl⟩
theorem len_5 {l : List Nat} (h : l.length = 5) : ∃ x0 x1 x2 x3 x4, l = [x0, x1, x2, x3, x4] := by
  match l, h with
  | [x0, x1, x2, x3, x4], _ => exact ⟨x0, x1, x2, x3, x4, rfl⟩
theorem len_6 {l : List Nat} (h : l.length = 6) : ∃ x0 x1 x2 x3 x4 x5, l = [x0, x1, x2, x3, x4, x5] := by
  match l, h with
  | [x0, x1, x2, x3, x4, x5], _ => exact ⟨x0, x1, x2, x3, x4, x5, rfl⟩
theorem len_7 {l : List Nat} (h : l.length = 7) : ∃ x0 x1 x2 x3 x4 x5 x6, l = [x0, x1, x2, x3, x4, x5, x6] := by
  match l, h with
  | [x0, x1, x2, x3, x4, x5, x6], _ => exact ⟨x0, x1, x2, x3, x4, x5, x6, rfl⟩
theorem len_8 {l : List Nat} (h : l.length = 8) : ∃ x0 x1 x2 x3 x4 x5 x6 x7, l = [x0, x1, x2, x3, x4, x5, x6, x7] := by
  match l, h with
  | [x0, x1, x2, x3, x4, x5, x6, x7], _ => exact ⟨x0, x1, x2, x3, x4, x5, x6, x7, rfl⟩
end Go.Sl
