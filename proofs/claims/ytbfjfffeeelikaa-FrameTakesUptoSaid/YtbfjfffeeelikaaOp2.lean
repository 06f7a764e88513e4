/-
  Reading an argument by its type's shape, with a bound on how much there is of it.
  Conditions: none; it speaks of every program of the model.
-/
import Derived.Test.YtbfjfffeeelikaaOp1
import Derived.JoinedCond
import Derived.Deep.CondSized
namespace Go.Sl
open Go
set_option linter.unusedSimpArgs false
set_option linter.unusedVariables false

/-- A measure of data that counts every part. -/
structure Bulk {H : Type} (μ : DataW H → Nat) : Prop where
  one : ∀ d, 1 ≤ μ d
  str : ∀ bs, bs.length ≤ μ (.lit (.string bs))
  slice : ∀ l r, (l.map μ).sum ≤ μ (.slice l r)
  agg : ∀ l, (l.map μ).sum ≤ μ (.agg l)
/-- As OpR; the size of what is read is at most its measure. -/
def OpB (P : Program) (W : World) (t : TypeId) {α : Type} (cells : α → List Value) (ok : α → Prop) (size : α → Nat) : Prop :=
  ∀ (H : Type) (enc : TypeId × Value → H) (μ : DataW H → Nat), Bulk μ → ∀ (fuel : Nat) (cs : List Value) (x : DataW H × List MemPlace), DataW.trod enc P W 0 (fun _ => true) true fuel t cs = some x → (∀ n ∈ x.1.weights P t, n ≤ reachBytes) → ∃ a : α, cs = cells a ∧ ok a ∧ size a ≤ μ x.1

section
variable {P : Program} {W : World} {t : TypeId}
theorem op_one {α : Type} {cells : α → List Value} {ok : α → Prop} (h : OpR P W t cells ok) : OpB P W t cells ok (fun _ => 1) := fun H enc μ hμ fuel cs x hx hw =>
  let ⟨a, h1, h2⟩ := h H enc fuel cs x hx hw
  ⟨a, h1, h2, hμ.one _⟩
theorem sum_le_mem {l : List Nat} {n : Nat} (h : n ∈ l) : n ≤ l.sum := by
  induction l with
  | nil => cases h
  | cons a l ih => rcases List.mem_cons.1 h with rfl | h2
                   · simp
                   · have := ih h2; simp; omega
theorem opb_slice {β : Type} {cells : β → List Value} {ok : β → Prop} {size : β → Nat} {e : TypeId} {sz by' : Nat} (ht : P.underlying t = some (.slice e)) (hc : P.cellsOf e = sz) (hb : P.bytesOf e = by') (he : OpB P W e cells ok size) :
    OpB P W t (fun a : Sli β => [.slice a.1 a.2.2.length a.2.1]) (Sli.ok P W e sz by' cells ok) (fun a => (a.2.2.map size).sum) := fun H enc μ hμ fuel cs x h hw => by
  rcases Deep.open_slice ht h with ⟨rfl, rfl⟩ | ⟨a, len, cap, m, n, D, Pl, rfl, _, hl, hm, hmm, rfl, hx⟩
  · exact ⟨(none, 0, []), rfl, ⟨SlAt.nil _ _ _, Nat.le_refl _, by simp [maxLen], by simp, fun _ => rfl, fun b h => by cases h⟩, by simp⟩
  · have hmm' : m = cap := by simpa using hmm
    subst hmm'
    have hD : ∀ i, i < m → D i ∈ (List.range len).map D ++ (List.range (m - len)).map fun j => D (len + j) := fun i hi => by
      by_cases h1 : i < len
      · exact List.mem_append_left _ (List.mem_map.2 ⟨i, List.mem_range.2 h1, rfl⟩)
      · exact List.mem_append_right _ (List.mem_map.2 ⟨i - len, List.mem_range.2 (by omega), by rw [show len + (i - len) = i from by omega]⟩)
    have hwt : ∀ i, i < m → ∀ k ∈ (D i).weights P e, k ≤ reachBytes := fun i hi k hk => by
      apply hw
      simp only [DataW.weights, ht, List.mem_cons, List.mem_append]
      rcases List.mem_append.1 (hD i hi) with h1 | h1
      · exact .inr (.inl (weightsAll_mem h1 k hk))
      · exact .inr (.inr (weightsAll_mem h1 k hk))
    have hel : ∀ i, i < m → ∃ b : β, W.cells? 0 (a.add (i * sz)) sz = some (cells b) ∧ ok b ∧ size b ≤ μ (D i) := fun i hi => by
      obtain ⟨cs', h1, h2⟩ := hx i hi
      obtain ⟨b, rfl, hok⟩ := he H enc μ hμ n cs' _ h2 (hwt i hi)
      exact ⟨b, by rw [← hc]; exact h1, hok⟩
    have hlist : ∀ k, k ≤ m → ∃ L : List β, L.length = k ∧ (L.map size).sum ≤ (((List.range k).map D).map μ).sum ∧ ∀ i b, L[i]? = some b → W.cells? 0 (a.add (i * sz)) sz = some (cells b) ∧ ok b := by
      intro k
      induction k with
      | zero => intro _; exact ⟨[], rfl, by simp, fun i b h => by simp at h⟩
      | succ k ih =>
        intro hk
        obtain ⟨L, hL, hLs, hLi⟩ := ih (by omega)
        obtain ⟨b, hb0, hb1, hb2⟩ := hel k (by omega)
        refine ⟨L ++ [b], by simp [hL], by rw [List.range_succ]; simp only [List.map_append, List.sum_append, List.map_cons, List.map_nil, List.sum_cons, List.sum_nil] at hLs ⊢; omega, fun i b' hi => ?_⟩
        by_cases h1 : i < k
        · rw [List.getElem?_append_left (by omega)] at hi; exact hLi i b' hi
        · rw [List.getElem?_append_right (by omega), hL] at hi
          have : i = k := by
            rcases Nat.eq_zero_or_pos (i - k) with h2 | h2
            · omega
            · rw [List.getElem?_eq_none (by simp; omega)] at hi; cases hi
          subst this
          simp at hi
          subst hi
          exact ⟨hb0, hb1⟩
    obtain ⟨L, rfl, hLs, hLi⟩ := hlist len hl
    have hlen : ∀ b ∈ L, (cells b).length = sz := fun b hb' => by
      obtain ⟨i, hi⟩ := List.mem_iff_getElem?.1 hb'
      exact (World.cells?_some (hLi i b hi).1).2.1
    refine ⟨(some a, m, L), rfl, ⟨⟨?_, fun _ => ⟨a, rfl, fun j u hu => ?_⟩⟩, hl, hm, ?_, fun h => (by cases h), fun b hb' => ?_⟩, Nat.le_trans hLs (hμ.slice _ _)⟩
    · clear hLs hLi hel hwt hD hx hw h hmm hl
      show (L.flatMap cells).length = L.length * sz
      induction L with
      | nil => simp
      | cons b L ih => rw [List.flatMap_cons, List.length_append, hlen b (by simp), ih (fun b h => hlen b (by simp [h])), List.length_cons, Nat.add_mul]; omega
    · have := flat_at (w := W) (a := a) (sz := sz) L 0 (fun i b hi => by
        obtain ⟨_, h1, h2⟩ := World.cells?_some (hLi i b hi).1
        refine ⟨h1, fun k u hk => ?_⟩
        have hk' : k < sz := by have := (List.getElem?_eq_some_iff.1 hk).1; omega
        have h3 := h2 k hk'
        rw [add_add, Nat.zero_add] at *
        rw [h3, hk]) j u hu
      simpa using this
    · have := hw ((L.length + (m - L.length)) * P.bytesOf e) (by simp [DataW.weights, ht])
      rw [show L.length + (m - L.length) = m from by omega, hb] at this
      exact this
    · obtain ⟨i, hi⟩ := List.mem_iff_getElem?.1 hb'
      exact (hLi i b hi).2
/-- Fields one behind the other from off on. -/
def OpFb (P : Program) (W : World) (fs : List (TypeId × Nat × Nat)) (off : Nat) {α : Type} (cells : α → List Value) (ok : α → Prop) (size : α → Nat) : Prop :=
  ∀ (H : Type) (enc : TypeId × Value → H) (μ : DataW H → Nat), Bulk μ → ∀ (n : Nat) (cs : List Value) (xs : List (DataW H × List MemPlace)), xs.length = fs.length → cs.length = off + (fs.map (·.2.2)).sum → (∀ (i : Nat) f, fs[i]? = some f → DataW.trod enc P W 0 (fun _ => true) true n f.1 ((cs.drop f.2.1).take f.2.2) = xs[i]?) →
    (∀ k ∈ DataW.weightsEach P (fs.map (·.1)) (xs.map (·.1)), k ≤ reachBytes) → ∃ a : α, cs.drop off = cells a ∧ ok a ∧ size a ≤ ((xs.map (·.1)).map μ).sum
theorem opb_fnil (off : Nat) : OpFb P W [] off (fun _ : Unit => []) (fun _ => True) (fun _ => 0) := fun H enc μ hμ n cs xs _ hl _ _ => ⟨(), by rw [List.drop_of_length_le]; simp at hl; omega, trivial, Nat.zero_le _⟩
theorem opb_fcons {α β : Type} {c1 : α → List Value} {k1 : α → Prop} {s1 : α → Nat} {c2 : β → List Value} {k2 : β → Prop} {s2 : β → Nat} {u off sz : Nat} {fs : List (TypeId × Nat × Nat)} (h1 : OpB P W u c1 k1 s1) (h2 : OpFb P W fs (off + sz) c2 k2 s2) :
    OpFb P W ((u, off, sz) :: fs) off (fun a : α × β => c1 a.1 ++ c2 a.2) (fun a => k1 a.1 ∧ k2 a.2) (fun a => s1 a.1 + s2 a.2) := fun H enc μ hμ n cs xs hx hl hf hw => by
  cases xs with
  | nil => simp at hx
  | cons x xs =>
    have h0 := hf 0 (u, off, sz) rfl
    simp only [List.getElem?_cons_zero] at h0
    obtain ⟨a, ha, hka, hsa⟩ := h1 H enc μ hμ n _ x h0 (fun k hk => hw k (by simp only [List.map_cons, DataW.weightsEach, List.mem_append]; exact .inl hk))
    obtain ⟨b, hb, hkb, hsb⟩ := h2 H enc μ hμ n cs xs (by simpa using hx) (by simp at hl ⊢; omega) (fun i f hi => by simpa using hf (i + 1) f (by simpa using hi)) (fun k hk => hw k (by simp only [List.map_cons, DataW.weightsEach, List.mem_append]; exact .inr hk))
    refine ⟨(a, b), ?_, ⟨hka, hkb⟩, by simp only [List.map_cons, List.sum_cons]; omega⟩
    simp only
    rw [← ha, ← hb, ← List.drop_drop]
    exact (List.take_append_drop sz (cs.drop off)).symm
theorem opb_struct {α : Type} {c : α → List Value} {k : α → Prop} {s : α → Nat} {fs : List (TypeId × Nat × Nat)} (hfs : fieldsO P t = some fs) (hsz : P.cellsOf t = (fs.map (·.2.2)).sum) (h : OpFb P W fs 0 c k s) : OpB P W t c k s := fun H enc μ hμ fuel cs x hx hw => by
  unfold fieldsO at hfs
  split at hfs
  · rename_i fa hu
    simp only [Option.some.injEq] at hfs
    subst hfs
    obtain ⟨xs, n, _, rfl, hl, hlen, hf⟩ := DataW.trod_struct hu hx
    obtain ⟨a, ha, hk, hs⟩ := h H enc μ hμ n cs xs (by simpa using hlen) (by rw [hl, hsz]; omega) (fun i f hi => by
      simp only [List.getElem?_map, Option.map_eq_some_iff] at hi
      obtain ⟨f', hf', rfl⟩ := hi
      exact hf i f' (by simpa using hf')) (fun k hk => hw k (by
        simp only [DataW.weights, hu]
        simpa [List.map_map, Function.comp_def] using hk))
    exact ⟨a, by simpa using ha, hk, Nat.le_trans hs (hμ.agg _)⟩
  · cases hfs
theorem argb_one {H : Type} {enc : TypeId × Value → H} {r : Reach} {b : Nat} {v : Value} {d : DataW H} {ps : List MemPlace} {α : Type} {cells : α → List Value} {ok : α → Prop} {size : α → Nat} {μ : DataW H → Nat} (hμ : Bulk μ) (ht : aggO P t = some false) (ho : OpB P W t cells ok size) (hval : Value.okWide P W r b t v) (hd : DataW.Trod enc P W 0 (fun _ => true) true t v d ps) (hw : ∀ n ∈ d.weights P t, n ≤ reachBytes) : ∃ a : α, [v] = cells a ∧ ok a ∧ size a ≤ μ d := by
  obtain ⟨fuel, hf⟩ := hd
  obtain ⟨a, h1, h2, h3⟩ := ho H enc μ hμ fuel _ _ hf hw
  rw [okWide_cells ht hval] at h1
  exact ⟨a, h1, h2, h3⟩
end
end Go.Sl
