/-
  Reading an argument by its type's shape: whole numbers, bools, texts, slices, structs, arrays, put together.
  Conditions: none; it speaks of every program of the model.
-/
import Derived.Test.YtcflbdpjoanbgaaGreatSl9
import Derived.WalkKit
import Derived.ProofKit
import Derived.OpenShut
import Derived.ShutString
import Derived.ChangeOld
import Derived.Below
import Derived.SizedLaws
import Derived.Lib.SmallJoins
import Derived.Deep.Slices
namespace Go.Sl
open Go
set_option linter.unusedSimpArgs false
set_option linter.unusedVariables false

/-- What reads at type t is the cells of some a, of which ok holds. -/
def OpR (P : Program) (W : World) (t : TypeId) {α : Type} (cells : α → List Value) (ok : α → Prop) : Prop :=
  ∀ (H : Type) (enc : TypeId × Value → H) (fuel : Nat) (cs : List Value) (x : DataW H × List MemPlace), DataW.trod enc P W 0 (fun _ => true) true fuel t cs = some x → (∀ n ∈ x.1.weights P t, n ≤ reachBytes) → ∃ a : α, cs = cells a ∧ ok a

section
variable {P : Program} {W : World} {t : TypeId}

theorem op_i64 (ht : P.underlying t = some (.int .i64)) : OpR P W t (fun n : Int => [.int .i64 n]) (fun n => -9223372036854775808 ≤ n ∧ n ≤ 9223372036854775807) := fun H enc fuel cs x h _ => by
  obtain ⟨n, rfl, _, hw⟩ := DataW.trod_int ht h
  exact ⟨n, rfl, bounds_i64 hw⟩
theorem op_i32 (ht : P.underlying t = some (.int .i32)) : OpR P W t (fun n : Int => [.int .i32 n]) (fun n => -2147483648 ≤ n ∧ n ≤ 2147483647) := fun H enc fuel cs x h _ => by
  obtain ⟨n, rfl, _, hw⟩ := DataW.trod_int ht h
  exact ⟨n, rfl, bounds_i32 hw⟩
theorem op_u64 (ht : P.underlying t = some (.int .u64)) : OpR P W t (fun n : Nat => [.int .u64 (n : Nat)]) (fun n => n < 18446744073709551616) := fun H enc fuel cs x h _ => by
  obtain ⟨n, rfl, _, hw⟩ := DataW.trod_int ht h
  have := bounds_u64 hw
  exact ⟨n.toNat, by simp only []; rw [show ((n.toNat : Nat) : Int) = n from by omega], by omega⟩
theorem op_u32 (ht : P.underlying t = some (.int .u32)) : OpR P W t (fun n : Nat => [.int .u32 (n : Nat)]) (fun n => n < 4294967296) := fun H enc fuel cs x h _ => by
  obtain ⟨n, rfl, _, hw⟩ := DataW.trod_int ht h
  have := bounds_u32 hw
  exact ⟨n.toNat, by simp only []; rw [show ((n.toNat : Nat) : Int) = n from by omega], by omega⟩
theorem op_u8 (ht : P.underlying t = some (.int .u8)) : OpR P W t (fun c : UInt8 => [bv c]) (fun _ => True) := fun H enc fuel cs x h _ => by
  obtain ⟨n, rfl, _, hw⟩ := DataW.trod_int ht h
  have := bounds_u8 hw
  refine ⟨UInt8.ofNat n.toNat, ?_, trivial⟩
  have e : (((UInt8.ofNat n.toNat).toNat : Nat) : Int) = n := by simp; omega
  show _ = [Value.int .u8 ((UInt8.ofNat n.toNat).toNat : Nat)]
  rw [e]
theorem op_bool (ht : P.underlying t = some .bool) : OpR P W t (fun b : Bool => [.bool b]) (fun _ => True) := fun H enc fuel cs x h _ => by
  obtain ⟨b, rfl, _⟩ := DataW.trod_bool ht h
  exact ⟨b, rfl, trivial⟩
theorem op_str (ht : P.underlying t = some .string) : OpR P W t (fun bs : List UInt8 => [.string (str bs)]) (fun bs => bs.length ≤ 140737488351232) := fun H enc fuel cs x h hw => by
  obtain ⟨s, rfl, rfl, _⟩ := DataW.trod_string ht h
  refine ⟨s.data.toList, by simp [str], ?_⟩
  have := hw s.data.toList.length (by simp [DataW.weights])
  simpa [reachBytes] using this

theorem flat_at {β : Type} {cells : β → List Value} {sz : Nat} {w : World} {a : Addr} : ∀ (L : List β) (i0 : Nat), (∀ (i : Nat) b, L[i]? = some b → (cells b).length = sz ∧ ∀ (k : Nat) u, (cells b)[k]? = some u → w.cell? (a.add ((i0 + i) * sz + k)) = some u) →
    ∀ (j : Nat) u, (L.flatMap cells)[j]? = some u → w.cell? (a.add (i0 * sz + j)) = some u
  | [], _, _, j, u, h => by simp at h
  | b :: L, i0, hb, j, u, h => by
    obtain ⟨h1, h2⟩ := hb 0 b rfl
    rw [List.flatMap_cons] at h
    by_cases hj : j < sz
    · rw [List.getElem?_append_left (by omega)] at h
      simpa using h2 j u h
    · rw [List.getElem?_append_right (by omega), h1] at h
      have ih := flat_at L (i0 + 1) (fun i b' hb' => by
        have := hb (i + 1) b' (by simpa using hb')
        rwa [show i0 + (i + 1) = i0 + 1 + i from by omega] at this) (j - sz) u h
      rwa [show (i0 + 1) * sz + (j - sz) = i0 * sz + j from by rw [Nat.add_mul]; omega] at ih

/-- A slice: where it begins, its room, its elements. -/
abbrev Sli (β : Type) := Option Addr × Nat × List β
def Sli.ok {β : Type} (P : Program) (W : World) (e : TypeId) (sz by' : Nat) (cells : β → List Value) (ok : β → Prop) (a : Sli β) : Prop :=
  SlAt W a.1 a.2.2.length sz (a.2.2.flatMap cells) ∧ a.2.2.length ≤ a.2.1 ∧ a.2.1 ≤ maxLen ∧ a.2.1 * by' ≤ 140737488351232 ∧ (a.1 = none → a.2.1 = 0) ∧ ∀ b ∈ a.2.2, ok b
theorem weightsAll_mem {H : Type} {e : TypeId} : ∀ {l : List (DataW H)} {d : DataW H}, d ∈ l → ∀ n ∈ d.weights P e, n ∈ DataW.weightsAll P e l
  | d' :: l, d, hd, n, hn => by
    simp only [DataW.weightsAll, List.mem_append]
    rcases List.mem_cons.1 hd with rfl | h
    · exact .inl hn
    · exact .inr (weightsAll_mem h n hn)
theorem op_slice {β : Type} {cells : β → List Value} {ok : β → Prop} {e : TypeId} {sz by' : Nat} (ht : P.underlying t = some (.slice e)) (hc : P.cellsOf e = sz) (hb : P.bytesOf e = by') (he : OpR P W e cells ok) :
    OpR P W t (fun a : Sli β => [.slice a.1 a.2.2.length a.2.1]) (Sli.ok P W e sz by' cells ok) := fun H enc fuel cs x h hw => by
  rcases Deep.open_slice ht h with ⟨rfl, rfl⟩ | ⟨a, len, cap, m, n, D, Pl, rfl, _, hl, hm, hmm, rfl, hx⟩
  · exact ⟨(none, 0, []), rfl, SlAt.nil _ _ _, Nat.le_refl _, by simp [maxLen], by simp, fun _ => rfl, fun b h => by cases h⟩
  · have hmm' : m = cap := by simpa using hmm
    subst hmm'
    have hD : ∀ i, i < m → D i ∈ (List.range len).map D ++ (List.range (m - len)).map fun j => D (len + j) := fun i hi => by
      by_cases h1 : i < len
      · exact List.mem_append_left _ (List.mem_map.2 ⟨i, List.mem_range.2 h1, rfl⟩)
      · exact List.mem_append_right _ (List.mem_map.2 ⟨i - len, List.mem_range.2 (by omega), by rw [show len + (i - len) = i from by omega]⟩)
    have hwt : ∀ i, i < m → ∀ k ∈ (D i).weights P e, k ≤ reachBytes := fun i hi k hk => by
      apply hw
      simp only [DataW.weights, ht, List.mem_cons, List.mem_append]
      rcases List.mem_append.1 (hD i hi) with h1 | h1
      · exact .inr (.inl (weightsAll_mem h1 k hk))
      · exact .inr (.inr (weightsAll_mem h1 k hk))
    have hel : ∀ i, i < m → ∃ b : β, W.cells? 0 (a.add (i * sz)) sz = some (cells b) ∧ ok b := fun i hi => by
      obtain ⟨cs', h1, h2⟩ := hx i hi
      obtain ⟨b, rfl, hok⟩ := he H enc n cs' _ h2 (hwt i hi)
      exact ⟨b, by rw [← hc]; exact h1, hok⟩
    have hlist : ∀ k, k ≤ m → ∃ L : List β, L.length = k ∧ ∀ i b, L[i]? = some b → W.cells? 0 (a.add (i * sz)) sz = some (cells b) ∧ ok b := by
      intro k
      induction k with
      | zero => intro _; exact ⟨[], rfl, fun i b h => by simp at h⟩
      | succ k ih =>
        intro hk
        obtain ⟨L, hL, hLi⟩ := ih (by omega)
        obtain ⟨b, hb1⟩ := hel k (by omega)
        refine ⟨L ++ [b], by simp [hL], fun i b' hi => ?_⟩
        by_cases h1 : i < k
        · rw [List.getElem?_append_left (by omega)] at hi; exact hLi i b' hi
        · rw [List.getElem?_append_right (by omega), hL] at hi
          have : i = k := by
            rcases Nat.eq_zero_or_pos (i - k) with h2 | h2
            · omega
            · rw [List.getElem?_eq_none (by simp; omega)] at hi; cases hi
          subst this
          simp at hi
          subst hi
          exact hb1
    obtain ⟨L, rfl, hLi⟩ := hlist len hl
    have hlen : ∀ b ∈ L, (cells b).length = sz := fun b hb' => by
      obtain ⟨i, hi⟩ := List.mem_iff_getElem?.1 hb'
      exact (World.cells?_some (hLi i b hi).1).2.1
    refine ⟨(some a, m, L), rfl, ⟨?_, fun _ => ⟨a, rfl, fun j u hu => ?_⟩⟩, hl, hm, ?_, fun h => (by cases h), fun b hb' => ?_⟩
    · clear hLi hel hwt hD hx hw h hmm hl
      show (L.flatMap cells).length = L.length * sz
      induction L with
      | nil => simp
      | cons b L ih => rw [List.flatMap_cons, List.length_append, hlen b (by simp), ih (fun b h => hlen b (by simp [h])), List.length_cons, Nat.add_mul]; omega
    · have := flat_at (w := W) (a := a) (sz := sz) L 0 (fun i b hi => by
        obtain ⟨_, h1, h2⟩ := World.cells?_some (hLi i b hi).1
        refine ⟨h1, fun k u hk => ?_⟩
        have hk' : k < sz := by have := (List.getElem?_eq_some_iff.1 hk).1; omega
        have h3 := h2 k hk'
        rw [add_add, Nat.zero_add] at *
        rw [h3, hk]) j u hu
      simpa using this
    · have := hw ((L.length + (m - L.length)) * P.bytesOf e) (by simp [DataW.weights, ht])
      rw [show L.length + (m - L.length) = m from by omega, hb] at this
      exact this
    · obtain ⟨i, hi⟩ := List.mem_iff_getElem?.1 hb'
      exact (hLi i b hi).2
theorem flat_bv (bs : List UInt8) : bs.flatMap (fun c => [bv c]) = bvs bs := by
  induction bs with
  | nil => rfl
  | cons c r ih => rw [List.flatMap_cons, ih]; rfl

/-- The fields of a struct: type, where it begins, how many cells. -/
def fieldsO (P : Program) (t : TypeId) : Option (List (TypeId × Nat × Nat)) := match P.underlying t with
  | some (.struct fs) => some (fs.toList.map fun f => (f.type, f.offset, P.cellsOf f.type))
  | _ => none
/-- Fields one behind the other from off on. -/
def OpFs (P : Program) (W : World) (fs : List (TypeId × Nat × Nat)) (off : Nat) {α : Type} (cells : α → List Value) (ok : α → Prop) : Prop :=
  ∀ (H : Type) (enc : TypeId × Value → H) (n : Nat) (cs : List Value) (xs : List (DataW H × List MemPlace)), xs.length = fs.length → cs.length = off + (fs.map (·.2.2)).sum → (∀ (i : Nat) f, fs[i]? = some f → DataW.trod enc P W 0 (fun _ => true) true n f.1 ((cs.drop f.2.1).take f.2.2) = xs[i]?) →
    (∀ k ∈ DataW.weightsEach P (fs.map (·.1)) (xs.map (·.1)), k ≤ reachBytes) → ∃ a : α, cs.drop off = cells a ∧ ok a
theorem op_fnil (off : Nat) : OpFs P W [] off (fun _ : Unit => []) (fun _ => True) := fun H enc n cs xs _ hl _ _ => ⟨(), by rw [List.drop_of_length_le]; simp at hl; omega, trivial⟩
theorem op_fcons {α β : Type} {c1 : α → List Value} {k1 : α → Prop} {c2 : β → List Value} {k2 : β → Prop} {u off sz : Nat} {fs : List (TypeId × Nat × Nat)} (h1 : OpR P W u c1 k1) (h2 : OpFs P W fs (off + sz) c2 k2) :
    OpFs P W ((u, off, sz) :: fs) off (fun a : α × β => c1 a.1 ++ c2 a.2) (fun a => k1 a.1 ∧ k2 a.2) := fun H enc n cs xs hx hl hf hw => by
  cases xs with
  | nil => simp at hx
  | cons x xs =>
    have h0 := hf 0 (u, off, sz) rfl
    simp only [List.getElem?_cons_zero] at h0
    obtain ⟨a, ha, hka⟩ := h1 H enc n _ x h0 (fun k hk => hw k (by simp only [List.map_cons, DataW.weightsEach, List.mem_append]; exact .inl hk))
    obtain ⟨b, hb, hkb⟩ := h2 H enc n cs xs (by simpa using hx) (by simp at hl ⊢; omega) (fun i f hi => by simpa using hf (i + 1) f (by simpa using hi)) (fun k hk => hw k (by simp only [List.map_cons, DataW.weightsEach, List.mem_append]; exact .inr hk))
    refine ⟨(a, b), ?_, hka, hkb⟩
    simp only
    rw [← ha, ← hb, ← List.drop_drop]
    exact (List.take_append_drop sz (cs.drop off)).symm
theorem op_struct {α : Type} {c : α → List Value} {k : α → Prop} {fs : List (TypeId × Nat × Nat)} (hfs : fieldsO P t = some fs) (hsz : P.cellsOf t = (fs.map (·.2.2)).sum) (h : OpFs P W fs 0 c k) : OpR P W t c k := fun H enc fuel cs x hx hw => by
  unfold fieldsO at hfs
  split at hfs
  · rename_i fa hu
    simp only [Option.some.injEq] at hfs
    subst hfs
    obtain ⟨xs, n, _, rfl, hl, hlen, hf⟩ := DataW.trod_struct hu hx
    obtain ⟨a, ha, hk⟩ := h H enc n cs xs (by simpa using hlen) (by rw [hl, hsz]; omega) (fun i f hi => by
      simp only [List.getElem?_map, Option.map_eq_some_iff] at hi
      obtain ⟨f', hf', rfl⟩ := hi
      exact hf i f' (by simpa using hf')) (fun k hk => hw k (by
        simp only [DataW.weights, hu]
        simpa [List.map_map, Function.comp_def] using hk))
    exact ⟨a, by simpa using ha, hk⟩
  · cases hfs

/-- An array. -/
theorem op_array {β : Type} {cells : β → List Value} {ok : β → Prop} {e : TypeId} {n sz : Nat} (ht : P.underlying t = some (.array n e)) (hc : P.cellsOf e = sz) (hct : P.cellsOf t = n * sz) (he : OpR P W e cells ok) :
    OpR P W t (fun a : List β => a.flatMap cells) (fun a => a.length = n ∧ ∀ b ∈ a, ok b) := fun H enc fuel cs x h hw => by
  obtain ⟨xs, m, _, rfl, hl, hlen, hf⟩ := DataW.trod_array ht h
  have hwt : ∀ k ∈ DataW.weightsAll P e (xs.map (·.1)), k ≤ reachBytes := fun k hk => hw k (by simp only [DataW.weights, ht]; exact hk)
  have key : ∀ j, j ≤ n → ∃ L : List β, L.length = j ∧ cs.take (j * sz) = L.flatMap cells ∧ ∀ b ∈ L, ok b := by
    intro j
    induction j with
    | zero => intro _; exact ⟨[], rfl, by simp, fun b h => by cases h⟩
    | succ j ih =>
      intro hj
      obtain ⟨L, hL, hLc, hLo⟩ := ih (by omega)
      have h1 := hf j (by omega)
      rw [hc, List.getElem?_eq_getElem (show j < xs.length by omega)] at h1
      obtain ⟨b, hb, hbo⟩ := he H enc m _ _ h1 (fun k hk => hwt k (weightsAll_mem (List.mem_map.2 ⟨xs[j], List.getElem_mem _, rfl⟩) k hk))
      refine ⟨L ++ [b], by simp [hL], ?_, fun b' hb' => ?_⟩
      · rw [List.flatMap_append, ← hLc, List.flatMap_cons, List.flatMap_nil, List.append_nil, ← hb, Nat.add_mul, Nat.one_mul, List.take_add]
      · rcases List.mem_append.1 hb' with h2 | h2
        · exact hLo b' h2
        · simp at h2; subst h2; exact hbo
  obtain ⟨L, hL, hLc, hLo⟩ := key n (Nat.le_refl _)
  refine ⟨L, ?_, hL, hLo⟩
  show cs = L.flatMap cells
  rw [← hLc, List.take_of_length_le (by omega)]

theorem okWide_cells {r : Reach} {b : Nat} {v : Value} (ht : aggO P t = some false) (h : Value.okWide P W r b t v) : v.cells = #[v] := by
  unfold aggO at ht
  cases hu : P.underlying t with
  | none => rw [hu] at ht; cases ht
  | some d =>
    rw [hu] at ht
    simp only [Value.okWide, hu] at h
    cases v with
    | agg cs => cases d <;> simp_all [Cell.okWide, Cell.ok]
    | _ => rfl
theorem okWide_agg {r : Reach} {b : Nat} {v : Value} (ht : aggO P t = some true) (h : Value.okWide P W r b t v) : ∃ cs, v = .agg cs := by
  unfold aggO at ht
  cases hu : P.underlying t with
  | none => rw [hu] at ht; cases ht
  | some d =>
    rw [hu] at ht
    simp only [Value.okWide, hu] at h
    cases d <;> simp_all
    · obtain ⟨cs, rfl, _⟩ := h; exact ⟨cs, rfl⟩
    · obtain ⟨cs, rfl, _⟩ := h; exact ⟨cs, rfl⟩

/-- An argument read by its shape: of one cell. -/
theorem arg_one {H : Type} {enc : TypeId × Value → H} {r : Reach} {b : Nat} {v : Value} {d : DataW H} {ps : List MemPlace} {α : Type} {cells : α → List Value} {ok : α → Prop} (ht : aggO P t = some false) (ho : OpR P W t cells ok) (hval : Value.okWide P W r b t v) (hd : DataW.Trod enc P W 0 (fun _ => true) true t v d ps) (hw : ∀ n ∈ d.weights P t, n ≤ reachBytes) : ∃ a : α, [v] = cells a ∧ ok a := by
  obtain ⟨fuel, hf⟩ := hd
  obtain ⟨a, h1, h2⟩ := ho H enc fuel _ _ hf hw
  rw [okWide_cells ht hval] at h1
  exact ⟨a, h1, h2⟩
theorem arg_agg {H : Type} {enc : TypeId × Value → H} {r : Reach} {b : Nat} {v : Value} {d : DataW H} {ps : List MemPlace} {α : Type} {cells : α → List Value} {ok : α → Prop} (ht : aggO P t = some true) (ho : OpR P W t cells ok) (hval : Value.okWide P W r b t v) (hd : DataW.Trod enc P W 0 (fun _ => true) true t v d ps) (hw : ∀ n ∈ d.weights P t, n ≤ reachBytes) : ∃ a : α, v = .agg (cells a).toArray ∧ ok a := by
  obtain ⟨cs, rfl⟩ := okWide_agg ht hval
  obtain ⟨fuel, hf⟩ := hd
  obtain ⟨a, h1, h2⟩ := ho H enc fuel _ _ hf hw
  refine ⟨a, ?_, h2⟩
  rw [← h1]
  simp [Value.cells]
theorem arg_weights {H : Type} {ts : List TypeId} {ds : List (DataW H)} (h : (DataW.weightsEach P ts ds).all (· ≤ reachBytes) = true) {j : Nat} {t : TypeId} {d : DataW H} (ht : ts[j]? = some t) (hd : ds[j]? = some d) : ∀ n ∈ d.weights P t, n ≤ reachBytes := fun n hn => by
  have := List.all_eq_true.1 h n (DataW.weights_mem_each ht hd n hn)
  simpa using this
end

theorem flat_get {β : Type} {cells : β → List Value} {sz : Nat} (hlen : ∀ b, (cells b).length = sz) : ∀ {L : List β} {i : Nat} {x : β} {k : Nat} {u : Value}, L[i]? = some x → (cells x)[k]? = some u → (L.flatMap cells)[i * sz + k]? = some u
  | [], i, x, k, u, h, _ => by simp at h
  | b :: L, 0, x, k, u, h, hu => by
    simp at h
    subst h
    rw [List.flatMap_cons, Nat.zero_mul, Nat.zero_add, List.getElem?_append_left (List.getElem?_eq_some_iff.1 hu).1]
    exact hu
  | b :: L, i + 1, x, k, u, h, hu => by
    rw [List.flatMap_cons, List.getElem?_append_right (by rw [hlen, Nat.add_mul]; omega), hlen, show (i + 1) * sz + k - sz = i * sz + k from by rw [Nat.add_mul]; omega]
    exact flat_get hlen (by simpa using h) hu
/-- One element of a slice of structs. -/
theorem SlAt.elem {β : Type} {cells : β → List Value} {sz n : Nat} {w : World} {ad : Addr} {L : List β} {i : Nat} {x : β} (h : SlAt w (Option.some ad) n sz (L.flatMap cells)) (hlen : ∀ b, (cells b).length = sz) (hx : L[i]? = Option.some x) : AggAt w (ad.add (i * sz)) sz (cells x) :=
  ⟨hlen x, fun k u hu => by rw [add_add]; exact h.get (flat_get hlen hx hu)⟩
theorem flatMap_len {β : Type} {cells : β → List Value} {sz : Nat} (hlen : ∀ b, (cells b).length = sz) (L : List β) : (L.flatMap cells).length = L.length * sz := by
  induction L with
  | nil => simp
  | cons b L ih => rw [List.flatMap_cons, List.length_append, hlen, ih, List.length_cons, Nat.add_mul]; omega
end Go.Sl
