/- The contract of the pairs' iterator of plane.Hears: it hands over pairs of indices, the first less than the second, and all of them if nobody stops it; for every loop body that leaves the box of n alone. -/
import Derived.RangeFuncNested
import Derived.RangeFuncBound
import Derived.RangeFuncCalls
import Derived.RangeFuncLeaves
import Derived.Shelf.Abstract
import Derived.Shelf.RegionOpen
import Derived.WalkKit
import Derived.OwnWalkIn
import Derived.TacticsInMore
import Derived.LoopNIn
import Derived.LoopIn
import Derived.Test.YtcgbfkplhlngjaaPla
namespace Go.Proofs.Ytcgbfkplhlngjaa.PA
open Go.RowKit Go.Shelf Go.Proofs.YtcgbfkplhlngjaaW.PrintWords Go.Proofs.YtcgbfkplhlngjaaW.PrintLast Go.Proofs.YtcgbfkplhlngjaaW.PrintMore
set_option linter.unusedVariables false
set_option linter.unusedSimpArgs false
attribute [local go_sem] Oper.semAt_some

/-- A pair of indices below m, the first less than the second. -/
abbrev Pr (m : Nat) : Type := { p : Nat × Nat // p.1 < p.2 ∧ p.2 < m }
/-- What the iterator wants kept: the block that holds n. -/
def KpB (B : Nat) (W W' : World) : Prop := W'.heap[B]? = W.heap[B]?
theorem kpB_t {B : Nat} {X Y Z : World} (h : KpB B X Y) (k : KpB B Y Z) : KpB B X Z := Eq.trans k h
theorem kpB_b {B : Nat} {w : World} (hB : B < w.heap.size) (W : World) (l : Nat) (o o' : Obj) (hl : w.heap.size ≤ l) (_ : W.heap[l]? = some o) (_ : o.isCells = false) (_ : o.isWalk = false) : KpB B W (W.putObj l o') :=
  World.putObj_heap_other (by omega)

theorem len_step {i k m a : Nat} (h : a ≤ i * m + k) (hi : i < m) (hk : k < m) : a < m * m := by
  have := Nat.mul_le_mul_right m (show i + 1 ≤ m from hi)
  rw [Nat.add_mul] at this
  omega
/-- What has come ahead of the pair (i, k), and how many have. -/
structure Come (m : Nat) (i k : Nat) (pre : List (Pr m)) : Prop where
  all : ∀ x : Pr m, x.1.1 < i ∨ (x.1.1 = i ∧ x.1.2 < k) → x ∈ pre
  len : pre.length ≤ i * m + k
theorem Come.start (m : Nat) : Come m 0 0 [] := ⟨fun x h => by rcases h with h | h <;> omega, by simp⟩
theorem Come.row {m i : Nat} {pre : List (Pr m)} (h : Come m i 0 pre) : Come m i (i + 1) pre :=
  ⟨fun x hx => by
    rcases hx with hx | hx
    · exact h.all x (.inl hx)
    · have := x.2.1; omega, by have := h.len; omega⟩
theorem Come.more {m i k : Nat} {pre : List (Pr m)} (h : Come m i k pre) (x : Pr m) (h1 : x.1.1 = i) (h2 : x.1.2 = k) : Come m i (k + 1) (pre ++ [x]) :=
  ⟨fun y hy => by
    rw [List.mem_append]
    by_cases e : y.1.1 = i ∧ y.1.2 = k
    · exact .inr (by simp; exact Subtype.ext (Prod.ext (by omega) (by omega)))
    · exact .inl (h.all y (by omega)), by have := h.len; simp; omega⟩
theorem Come.next {m i k : Nat} {pre : List (Pr m)} (h : Come m i k pre) (hk : m ≤ k) (hk' : k ≤ m) : Come m (i + 1) 0 pre :=
  ⟨fun x hx => h.all x (by have := x.2.2; omega), by have := h.len; rw [Nat.add_mul]; omega⟩
theorem Come.end_ {m i : Nat} {pre : List (Pr m)} (h : Come m i 0 pre) (hi : m ≤ i) : ∀ x, x ∈ pre := fun x => h.all x (by have := x.2.1; have := x.2.2; omega)

/-- All pairs have come. -/
def AllPr {m : Nat} (ys : List (Pr m)) : Prop := ∀ x, x ∈ ys

set_option maxRecDepth 100000 in
set_option maxHeartbeats 4000000 in
theorem pairs1_in (F : Fence) (n : Nat) (h49 : F.fn 49) (hro : F.round = none) (hn : 1 ≤ n) (l B m : Nat) (hm : m ≤ 1000) (J Jx : List (Pr m) → World → Prop)
    (hY : ∀ pre x W, J pre W → pre.length < m * m → YieldAt F (n - 1) Try.prog l #[.int .i64 x.1.1, .int .i64 x.1.2] W fun e W' =>
      (e = .returned (.bool true) ∧ J (pre ++ [x]) W' ∧ KpB B W W') ∨ (e = .returned (.bool false) ∧ Jx (pre ++ [x]) W'))
    (W : World) (hB : W.heap[B]? = some (.cells #[.int .i64 m] 3 (0, 0))) (h0 : J [] W) :
    CallsIn F n Try.prog 49 #[.func (.yield l) #[] #[], .pointer (some ⟨B, 0, none⟩)] W fun e W' => (∃ v, e = .returned v) ∧
      ((∃ ys : List (Pr m), AllPr ys ∧ J ys W') ∨ (∃ pre, True ∧ Jx pre W')) := by
  have hBc : ∀ {w : World}, w.heap[B]? = some (.cells #[.int .i64 m] 3 (0, 0)) → w.cell? ⟨B, 0, none⟩ = some (.int .i64 m) := fun h => by simp [World.cell?, h]
  refine callsIn_of_wp Try.func49 rfl h49 ?_ hro
  simp only [Try.ntmps49, List.size_toArray, List.length_cons, List.length_nil, Nat.reduceAdd, Nat.reduceSub, Array.replicate_succ, Array.replicate_zero, List.push_toArray, List.append_toArray, List.nil_append, List.cons_append]
  have hc0 := hBc hB
  gi_wp2
  clear hc0
  gi_loopw [6] (fun c wr => ∃ (i : Nat) (pre : List (Pr m)), i ≤ m ∧ c = .int .i64 i ∧ Aside0 (Come m i 0 pre) ∧ Aside0 (J pre wr) ∧ Aside0 (wr.heap[B]? = some (.cells #[.int .i64 m] 3 (0, 0))))
    (fun c _ => m - (intOf c).toNat)
  case atStart => exact ⟨0, [], Nat.zero_le _, rfl, ⟨Come.start m⟩, ⟨h0⟩, ⟨hB⟩⟩
  case round =>
    obtain ⟨i, pre, hi, rfl, HC, HJ, HB⟩ := hrel
    obtain ⟨wo, rfl⟩ : ∃ wo : World, wo = wr := ⟨_, rfl⟩
    by_cases hlt : i < m
    · have hltz : (i : Int) < (m : Int) := by omega
      gi_wp2
      gi_loopw [4] (fun c wr => ∃ (k : Nat) (pre : List (Pr m)), i + 1 ≤ k ∧ k ≤ m ∧ c = .int .i64 k ∧ Aside0 (Come m i k pre) ∧ Aside0 (J pre wr) ∧ Aside0 (wr.heap[B]? = some (.cells #[.int .i64 m] 3 (0, 0))))
        (fun c _ => m - (intOf c).toNat)
      case atStart => exact ⟨i + 1, pre, Nat.le_refl _, hlt, by go_num, ⟨HC.out.row⟩, HJ, HB⟩
      case round =>
        clear HC HJ HB
        obtain ⟨k, pre, hk1, hk2, rfl, HC, HJ, HB⟩ := hrel
        have hc0 := hBc HB.out
        by_cases hkt : k < m
        · have hktz : (k : Int) < (m : Int) := by omega
          obtain ⟨fn, tmps, assign, body, hy, hR⟩ := hY pre ⟨(i, k), by omega, hkt⟩ wr HJ.out (len_step HC.out.len hlt hkt)
          dsimp only at hy
          gi_wp2
          refine hR.mono ?_
          rintro e W3 (⟨rfl, hJ3, hk3⟩ | ⟨rfl, hJx3⟩)
          · gi_wp2
            go_roundw
            case rel => exact ⟨k + 1, _, by omega, by omega, by go_num, ⟨HC.out.more ⟨(i, k), by omega, hkt⟩ rfl rfl⟩, ⟨hJ3⟩, ⟨hk3.trans HB.out⟩⟩
            case measure => simp [intOf]; omega
          · gi_wp2
            refine bodyPost_ret (results_none rfl _ _ _) rfl ?_
            exact ⟨⟨_, rfl⟩, .inr ⟨_, trivial, hJx3⟩⟩
        · have hktz : ¬ (k : Int) < (m : Int) := by omega
          gi_wp2
          go_roundw
          case rel => exact ⟨i + 1, pre, by omega, by go_num, ⟨HC.out.next (by omega) hk2⟩, HJ, HB⟩
          case measure => simp [intOf]; omega
    · have hltz : ¬ (i : Int) < (m : Int) := by omega
      gi_wp2
      go_end0
      exact ⟨⟨_, rfl⟩, .inl ⟨pre, HC.out.end_ (by omega), HJ.out⟩⟩

/-- The pairs' iterator, its box lying in block B. -/
theorem pairs_stops (F : Fence) (n : Nat) (h49 : F.fn 49) (hro : F.round = none) (hn : 1 ≤ n) (B m : Nat) (hm : m ≤ 1000) (w : World) (hB : w.heap[B]? = some (.cells #[.int .i64 m] 3 (0, 0))) :
    SeqStopsK F n Try.prog 49 #[.pointer (some ⟨B, 0, none⟩)] (fun x : Pr m => #[Value.int .i64 x.1.1, Value.int .i64 x.1.2]) (KpB B) AllPr (fun _ => True) (m * m) w := fun l J Jx W hW _ _ hY h0 =>
  pairs1_in F n h49 hro hn l B m hm J Jx hY W ((hW.block B (Array.getElem?_eq_some_iff.1 hB).1).trans hB) h0
end Go.Proofs.Ytcgbfkplhlngjaa.PA
