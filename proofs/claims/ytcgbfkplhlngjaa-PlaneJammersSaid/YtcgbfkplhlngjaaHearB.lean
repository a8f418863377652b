/- The table that plane.Hears fills, as it lies in memory. -/
import Derived.Test.YtcgbfkplhlngjaaHearA
namespace Go.Proofs.Ytcgbfkplhlngjaa.PA
open Go.RowKit Go.Shelf Go.Proofs.YtcgbfkplhlngjaaW.PrintWords Go.Proofs.YtcgbfkplhlngjaaW.PrintLast Go.Proofs.YtcgbfkplhlngjaaW.PrintMore
set_option linter.unusedVariables false
set_option linter.unusedSimpArgs false

theorem heap_set_same {W : World} {b j : Nat} {cur : Array Value} {t : TypeId} (h : W.heap[b]? = some (.cells cur t (0, 0))) (u : Value) :
    (W.setCell ⟨b, j, none⟩ u).heap[b]? = some (.cells (cur.setIfInBounds j u) t (0, 0)) := by
  obtain ⟨hlt, hk⟩ := Array.getElem?_eq_some_iff.1 h
  show (W.heap.modify b _)[b]? = _
  rw [Array.getElem?_eq_getElem (by rw [Array.size_modify]; exact hlt), Array.getElem_modify_self, hk]
  rfl
theorem heap_set_other {W : World} {b j c : Nat} (h : c ≠ b) (u : Value) : (W.setCell ⟨b, j, none⟩ u).heap[c]? = W.heap[c]? := Below.heap_setCell _ _ _ _ h
theorem cell_of {W : World} {b : Nat} {cur : Array Value} {t : TypeId} (h : W.heap[b]? = some (.cells cur t (0, 0))) {j : Nat} {u : Value} (hu : cur[j]? = some u) : W.cell? ⟨b, j, none⟩ = some u := by
  simp [World.cell?, h, hu]
theorem frozen_of {W : World} {b : Nat} {cur : Array Value} {t : TypeId} (h : W.heap[b]? = some (.cells cur t (0, 0))) (j : Nat) : W.frozen? ⟨b, j, none⟩ = false := by
  simp [World.frozen?, h]

/-- k rows of n cells each lie behind block g, whose cells lead to them; T says what they hold. -/
structure HTab (W : World) (g n k : Nat) (T : Nat → Nat → Bool) : Prop where
  top : ∃ cur : Array Value, W.heap[g]? = some (.cells cur 36 (0, 0)) ∧ cur.size = n ∧ ∀ i, i < k → cur[i]? = some (.slice (some ⟨g + 2 + i, 0, none⟩) n n)
  row : ∀ i, i < k → ∃ row : Array Value, W.heap[g + 2 + i]? = some (.cells row 4 (0, 0)) ∧ row.size = n ∧ ∀ j, j < n → row[j]? = some (.bool (T i j))
  box : W.heap[g + 1]? = some (.cells #[.slice (some ⟨g, 0, none⟩) n n] 27 (0, 0))
theorem HTab.keep {W W' : World} {g n k : Nat} {T : Nat → Nat → Bool} (h : HTab W g n k T) (hk : ∀ j, j < g + 2 + k → W'.heap[j]? = W.heap[j]?) : HTab W' g n k T := by
  obtain ⟨⟨cur, h1, h2, h3⟩, hr, hb⟩ := h
  exact ⟨⟨cur, (hk g (by omega)).trans h1, h2, h3⟩, fun i hi => by
    obtain ⟨row, r1, r2, r3⟩ := hr i hi
    exact ⟨row, (hk _ (by omega)).trans r1, r2, r3⟩, (hk _ (by omega)).trans hb⟩
def updT (T : Nat → Nat → Bool) (i j : Nat) (v : Bool) : Nat → Nat → Bool := fun a b => if a = i ∧ b = j then v else T a b
theorem HTab.set {W : World} {g n k : Nat} {T : Nat → Nat → Bool} (h : HTab W g n k T) {i j : Nat} (hi : i < k) (hj : j < n) (v : Bool) : HTab (W.setCell ⟨g + 2 + i, j, none⟩ (.bool v)) g n k (updT T i j v) := by
  obtain ⟨⟨cur, h1, h2, h3⟩, hr, hb⟩ := h
  refine ⟨⟨cur, (heap_set_other (by omega) _).trans h1, h2, h3⟩, fun a ha => ?_, (heap_set_other (by omega) _).trans hb⟩
  obtain ⟨row, r1, r2, r3⟩ := hr a ha
  rcases Decidable.em (a = i) with rfl | hai
  · refine ⟨row.setIfInBounds j (.bool v), heap_set_same r1 _, by simp [r2], fun b hb => ?_⟩
    rw [Array.getElem?_setIfInBounds]
    by_cases e : j = b
    · subst e; simp [updT, r2, hj]
    · rw [if_neg e, r3 b hb]; simp [updT, Ne.symm e]
  · exact ⟨row, (heap_set_other (by omega) _).trans r1, r2, fun b hb => by rw [r3 b hb]; simp [updT, hai]⟩
theorem HTab.rowCell {W : World} {g n k : Nat} {T : Nat → Nat → Bool} (h : HTab W g n k T) {i : Nat} (hi : i < k) : W.cell? ⟨g, i, none⟩ = some (.slice (some ⟨g + 2 + i, 0, none⟩) n n) := by
  obtain ⟨⟨cur, h1, h2, h3⟩, _, _⟩ := h
  exact cell_of h1 (h3 i hi)
theorem HTab.cell {W : World} {g n k : Nat} {T : Nat → Nat → Bool} (h : HTab W g n k T) {i j : Nat} (hi : i < k) (hj : j < n) : W.cell? ⟨g + 2 + i, j, none⟩ = some (.bool (T i j)) := by
  obtain ⟨row, r1, r2, r3⟩ := h.row i hi
  exact cell_of r1 (r3 j hj)
theorem HTab.frozen {W : World} {g n k : Nat} {T : Nat → Nat → Bool} (h : HTab W g n k T) {i : Nat} (hi : i < k) (j : Nat) : W.frozen? ⟨g + 2 + i, j, none⟩ = false := by
  obtain ⟨row, r1, r2, r3⟩ := h.row i hi
  exact frozen_of r1 j
theorem HTab.boxCell {W : World} {g n k : Nat} {T : Nat → Nat → Bool} (h : HTab W g n k T) : W.cell? ⟨g + 1, 0, none⟩ = some (.slice (some ⟨g, 0, none⟩) n n) := cell_of h.box rfl
theorem made_at (v : Value) (n i : Nat) (h : i < n) : (madeCells #[v] n)[i]? = some v := by simp [madeCells, h, Nat.mod_one]
/-- One row more has been made and stored. -/
theorem HTab.more {W : World} {g n k : Nat} {T : Nat → Nat → Bool} (h : HTab W g n k T) (hk : k < n) (hs : W.heap.size = g + 2 + k) (hT : ∀ j, T k j = false) :
    HTab ((W.alloc (.cells (madeCells #[.bool false] n) 4)).setCell ⟨g, k, none⟩ (.slice (some ⟨W.heap.size, 0, none⟩) n n)) g n (k + 1) T := by
  obtain ⟨⟨cur, h1, h2, h3⟩, hr, hb⟩ := h
  have al : ∀ j, j < g + 2 + k → (W.alloc (.cells (madeCells #[.bool false] n) 4)).heap[j]? = W.heap[j]? := fun j hj => Below.heap_alloc _ _ _ (by omega)
  refine ⟨⟨cur.setIfInBounds k (.slice (some ⟨W.heap.size, 0, none⟩) n n), heap_set_same ((al g (by omega)).trans h1) _, by simp [h2], fun i hi => ?_⟩, fun i hi => ?_, (heap_set_other (by omega) _).trans ((al _ (by omega)).trans hb)⟩
  · rw [Array.getElem?_setIfInBounds]
    by_cases e : k = i
    · subst e; simp [h2, hk, hs]
    · rw [if_neg e]; exact h3 i (by omega)
  · rcases Decidable.em (i = k) with rfl | hik
    · refine ⟨madeCells #[.bool false] n, (heap_set_other (by omega) _).trans (by rw [← hs]; exact World.alloc_heap_new W _), size_madeCells _ _, fun j hj => ?_⟩
      rw [made_at _ _ _ hj, hT]
    · obtain ⟨row, r1, r2, r3⟩ := hr i (by omega)
      exact ⟨row, (heap_set_other (by omega) _).trans ((al _ (by omega)).trans r1), r2, r3⟩
/-- Where it begins: the outer array and the variable's box have been laid. -/
theorem HTab.start (W : World) (n : Nat) (T : Nat → Nat → Bool) :
    HTab ((W.alloc (.cells (madeCells #[.slice none 0 0] n) 36)).alloc (.cells #[.slice (some ⟨W.heap.size, 0, none⟩) n n] 27)) W.heap.size n 0 T := by
  refine ⟨⟨_, (Below.heap_alloc _ _ _ (by simp)).trans (World.alloc_heap_new W _), size_madeCells _ _, fun i hi => absurd hi (Nat.not_lt_zero _)⟩, fun i hi => absurd hi (Nat.not_lt_zero _), ?_⟩
  have := World.alloc_heap_new (W.alloc (.cells (madeCells #[.slice none 0 0] n) 36)) (.cells #[.slice (some ⟨W.heap.size, 0, none⟩) n n] 27)
  rwa [World.size_alloc] at this

def tabL (T : Nat → Nat → Bool) (n : Nat) : List (List Bool) := (List.range n).map fun i => (List.range n).map fun k => T i k
theorem take_one_drop {l : List Value} {j : Nat} {v : Value} (h : l[j]? = some v) : (l.drop (j * 1)).take 1 = [v] := by
  rw [Nat.mul_one]
  obtain ⟨hj, rfl⟩ := List.getElem?_eq_some_iff.1 h
  rw [List.drop_eq_getElem_cons hj]
  rfl
/-- The filled table as the callers read it. -/
theorem HTab.own {W : World} {g n : Nat} {T : Nat → Nat → Bool} (h : HTab W g n n T) {base : Nat} (hb : base ≤ g) (hn : n ≤ 1000) :
    Kd.S (Kd.slice 4 Kd.bool) 36 W base (fun _ => True) (.slice (some ⟨g, 0, none⟩) n n) (tabL T n) := by
  obtain ⟨⟨cur, h1, h2, h3⟩, hr, _⟩ := h
  have hmax : n ≤ maxLen := by unfold maxLen; omega
  have hlen : (tabL T n).length = n := by simp [tabL]
  refine ⟨fun k => k - (g + 2), fun _ _ => trivial, cur.toList, ⟨by simp [h2, hlen, Kd.tag, Kd.slice], .inr ⟨g, n, cur, by rw [List.length_zipIdx, hlen], hb, h1, by rw [List.length_zipIdx, hlen]; exact Nat.le_refl _, hmax, by simp [h2, Kd.tag, Kd.slice], ?_⟩⟩, by simp [h2, hlen, Kd.tag, Kd.slice], fun j p hj => ?_⟩
  · rw [List.take_of_length_le (by simp [h2, hlen, Kd.tag, Kd.slice])]
  · have hjn : j < n := by
      have := (List.getElem?_eq_some_iff.1 hj).1
      rw [List.length_zipIdx, hlen] at this
      exact this
    have hp : p = ((List.range n).map fun k => T j k, j) := by
      have : (tabL T n)[j]? = some ((List.range n).map fun k => T j k) := by simp [tabL, hjn]
      rw [Kd.zip_at this] at hj
      exact (Option.some.inj hj).symm
    subst hp
    obtain ⟨row, r1, r2, r3⟩ := hr j hjn
    have hv : cur.toList[j]? = some (.slice (some ⟨g + 2 + j, 0, none⟩) n n) := by simpa using h3 j hjn
    change ∃ v, _ = [v] ∧ _
    refine ⟨_, take_one_drop hv, fun k hk => ?_, row.toList, ⟨by simp [r2, Kd.bool, Kd.scalar], .inr ⟨g + 2 + j, n, row, by simp, by omega, r1, by simp, hmax, by simp [r2, Kd.bool, Kd.scalar], ?_⟩⟩, by simp [r2, Kd.bool, Kd.scalar], fun i q hi => ?_⟩
    · have : g + 2 + j = k := by simpa [Value.ownBlock] using hk
      subst this
      refine ⟨⟨trivial, ?_⟩, by simp⟩
      simp [Value.ownBlock]
      omega
    · rw [List.take_of_length_le (by simp [r2, Kd.bool, Kd.scalar])]
    · have hin : i < n := by have := (List.getElem?_eq_some_iff.1 hi).1; simpa using this
      have hq : q = T j i := by
        have : ((List.range n).map fun k => T j k)[i]? = some (T j i) := by simp [hin]
        rw [this] at hi
        exact (Option.some.inj hi).symm
      subst hq
      exact take_one_drop (by simpa using r3 i hin)
end Go.Proofs.Ytcgbfkplhlngjaa.PA
