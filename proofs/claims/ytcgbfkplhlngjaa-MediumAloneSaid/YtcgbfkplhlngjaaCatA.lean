/- medium.Catch: what it computes, and that its call comes to just that. -/
import Derived.Test.YtcgbfkplhlngjaaMedC
namespace Go.Proofs.Ytcgbfkplhlngjaa.PA
open Go.RowKit Go.Shelf Go.Proofs.YtcgbfkplhlngjaaW.PrintWords Go.Proofs.YtcgbfkplhlngjaaW.PrintLast Go.Proofs.YtcgbfkplhlngjaaW.PrintMore
set_option linter.unusedVariables false
set_option linter.unusedSimpArgs false

theorem take1_drop {cs : List Value} {j : Nat} {v : Value} (h : cs[j]? = some v) : (cs.drop (j * 1)).take 1 = [v] := by
  rw [Nat.mul_one]
  obtain ⟨hj, rfl⟩ := List.getElem?_eq_some_iff.1 h
  rw [List.drop_eq_getElem_cons hj]
  rfl
theorem make44 (n : Nat) (hn : n ≤ 1000) (w : World) : (Instr.makeSlice 44 (.int .i64 n) (.int .i64 n)).run Try.prog w = .ok (.slice (some ⟨w.heap.size, 0, none⟩) n n) (w.alloc (.cells (madeCells #[.int .i64 0] n) 3)) := by
  obtain ⟨i0, hi, hz0, hz1, hz2⟩ := info_parts info3
  have := run_make (P := Try.prog) w 44 3 i0 _ (by kernel_rfl) hi hz0 .i64 .i64 n n (by omega) (by omega) (by rw [hz2]; omega) (by omega)
  simp only [Int.toNat_natCast, hz1, Nat.mul_one] at this
  exact this
/-- The radios' box and the result's row, k of its cells filled. -/
structure COut (w1 W : World) (air : Value × Value × Int) (n k : Nat) (T : Nat → Int) : Prop where
  air : W.heap[w1.heap.size]? = some (.cells #[air.1, air.2.1, .int .i64 air.2.2] 74 (0, 0))
  row : ∃ cur : Array Value, W.heap[w1.heap.size + 1]? = some (.cells cur 3 (0, 0)) ∧ cur.size = n ∧ ∀ i, i < n → cur[i]? = some (.int .i64 (if i < k then T i else 0))
  below : Below w1.heap.size w1 W
  size : w1.heap.size + 2 ≤ W.heap.size
section
variable {w1 W W' : World} {air : Value × Value × Int} {n k : Nat} {T : Nat → Int}
theorem COut.step (h : COut w1 W air n k T) (hb : Below W.heap.size W W') : COut w1 W' air n k T := by
  obtain ⟨ha, ⟨cur, h1, h2, h3⟩, hw, hs⟩ := h
  exact ⟨(hb.block _ (by omega)).trans ha, ⟨cur, (hb.block _ (by omega)).trans h1, h2, h3⟩, hw.trans (hb.mono hw.size), Nat.le_trans hs hb.size⟩
theorem COut.cell (h : COut w1 W air n k T) (hk : k < n) : W.cell? ⟨w1.heap.size + 1, k, none⟩ = some (.int .i64 0) := by
  obtain ⟨ha, ⟨cur, h1, h2, h3⟩, hw, hs⟩ := h
  refine cellOf h1 ?_
  rw [h3 k hk, if_neg (Nat.lt_irrefl k)]
theorem COut.frozen (h : COut w1 W air n k T) (j : Nat) : W.frozen? ⟨w1.heap.size + 1, j, none⟩ = false := by
  obtain ⟨ha, ⟨cur, h1, h2, h3⟩, hw, hs⟩ := h
  simp [World.frozen?, h1]
theorem heap_setc {W : World} {b j : Nat} {cur : Array Value} {t : TypeId} (h : W.heap[b]? = some (.cells cur t (0, 0))) (u : Value) :
    (W.setCell ⟨b, j, none⟩ u).heap[b]? = some (.cells (cur.setIfInBounds j u) t (0, 0)) := by
  obtain ⟨hlt, hk⟩ := Array.getElem?_eq_some_iff.1 h
  show (W.heap.modify b _)[b]? = _
  rw [Array.getElem?_eq_getElem (by rw [Array.size_modify]; exact hlt), Array.getElem_modify_self, hk]
  rfl
theorem COut.set (h : COut w1 W air n k T) (hk : k < n) : COut w1 (W.setCell ⟨w1.heap.size + 1, k, none⟩ (.int .i64 (T k))) air n (k + 1) T := by
  obtain ⟨ha, ⟨cur, h1, h2, h3⟩, hw, hs⟩ := h
  refine ⟨(Below.heap_setCell _ _ _ _ (by simp)).trans ha, ⟨cur.setIfInBounds k (.int .i64 (T k)), heap_setc h1 _, by simp [h2], fun i hi => ?_⟩, hw.setCell (p := ⟨w1.heap.size + 1, k, none⟩) (by simp) _, by simpa using hs⟩
  rw [Array.getElem?_setIfInBounds]
  by_cases e : k = i
  · subst e; simp [h2, hk]
  · rw [if_neg e, h3 i hi]
    by_cases e2 : i < k
    · rw [if_pos e2, if_pos (by omega)]
    · rw [if_neg e2, if_neg (by omega)]
theorem COut.airc (h : COut w1 W air n k T) : W.cell? ⟨w1.heap.size, 0, none⟩ = some air.1 ∧ W.cell? ⟨w1.heap.size, 1, none⟩ = some air.2.1 ∧ W.cell? ⟨w1.heap.size, 2, none⟩ = some (.int .i64 air.2.2) :=
  ⟨cellOf h.air rfl, cellOf h.air rfl, cellOf h.air rfl⟩
theorem COut.start (w1 : World) (v1 v2 : Value) (r : Int) (n : Nat) (T : Nat → Int) :
    COut w1 ((w1.alloc (.cells #[v1, v2, .int .i64 r] 74)).alloc (.cells (madeCells #[.int .i64 0] n) 3)) (v1, v2, r) n 0 T := by
  have s1 := World.size_alloc (w := w1) (o := .cells #[v1, v2, .int .i64 r] 74)
  have n1 := World.alloc_heap_new (w1.alloc (.cells #[v1, v2, .int .i64 r] 74)) (.cells (madeCells #[.int .i64 0] n) 3)
  rw [s1] at n1
  exact ⟨(Below.heap_alloc _ _ _ (by rw [s1]; omega)).trans (World.alloc_heap_new w1 _), ⟨_, n1, by simp [madeCells], fun i hi => by simp [madeCells, hi, Nat.mod_one]⟩, below_alloc (below_alloc (Below.refl _ _) _) _, by simp⟩
/-- The filled row as the callers read it. -/
theorem COut.own (h : COut w1 W air n n T) {base : Nat} (hb : base ≤ w1.heap.size + 1) (hn : n ≤ 1000) :
    Kd.R (Kd.int .i64) 3 W base (fun _ => True) (.slice (some ⟨w1.heap.size + 1, 0, none⟩) n n) ((List.range n).map T) := by
  obtain ⟨ha, ⟨cur, h1, h2, h3⟩, hw, hs⟩ := h
  have hmax : n ≤ maxLen := by unfold maxLen; omega
  refine ⟨fun _ _ => trivial, cur.toList, ⟨by simp [h2, Kd.int, Kd.scalar], .inr ⟨w1.heap.size + 1, n, cur, by simp, hb, h1, by simp, hmax, by simp [h2, Kd.int, Kd.scalar], ?_⟩⟩, by simp [h2, Kd.int, Kd.scalar], fun i q hi => ?_⟩
  · rw [List.take_of_length_le (by simp [h2, Kd.int, Kd.scalar])]
  · have hin : i < n := by have := (List.getElem?_eq_some_iff.1 hi).1; simpa using this
    have hq : q = T i := by
      have : ((List.range n).map T)[i]? = some (T i) := by simp [hin]
      rw [this] at hi
      exact (Option.some.inj hi).symm
    subst hq
    have hv : cur.toList[i]? = some (.int .i64 (T i)) := by
      have := h3 i hin
      rw [if_pos hin] at this
      simpa using this
    exact take1_drop hv
end
end Go.Proofs.Ytcgbfkplhlngjaa.PA
