/- How the arguments of the statements are opened: places, jammers and actions, by value and in slices. -/
import Derived.Test.YtcgbfkplhlngjaaRows
import Derived.Test.YtcgbfkplhlngjaaT0
import Derived.WalkKit
import Derived.ProofKit
import Derived.OpenShut
import Derived.ShutString
import Derived.ChangeOld
import Derived.Below
import Derived.SizedLaws
import Derived.Deep.Slices
namespace Go.Proofs.Ytcgbfkplhlngjaa.PA
open Go.ChangeShapes Go.WideShapes Go.ChangeAt Go.RowKit Go.Deep Go.Proofs.YtcgbfkplhlngjaaW.PrintWords
set_option linter.unusedVariables false
set_option linter.unusedSimpArgs false

section
variable {H : Type} {enc : TypeId × Value → H} {w : World} {base : Nat} {spare : Nat → Bool} {held : Bool}

theorem list_of {α : Type} {Q : Nat → α → Prop} : ∀ n : Nat, (∀ i, i < n → ∃ x, Q i x) → ∃ l : List α, l.length = n ∧ ∀ i x, l[i]? = some x → Q i x
  | 0, _ => ⟨[], rfl, fun i x h => by simp at h⟩
  | n + 1, h => by
    obtain ⟨l, hl, hq⟩ := list_of n fun i hi => h i (by omega)
    obtain ⟨x, hx⟩ := h n (by omega)
    refine ⟨l ++ [x], by simp [hl], fun i y hy => ?_⟩
    rcases Nat.lt_or_ge i l.length with hi | hi
    · rw [List.getElem?_append_left hi] at hy
      exact hq i y hy
    · have hi' : i = n := by
        have := (List.getElem?_eq_some_iff.1 hy).1
        simp at this
        omega
      subst hi'
      have : y = x := by simpa [← hl] using hy.symm
      rwa [this]

/-- A slice whose elements read as a kind's values. -/
theorem open_row {α : Type} (d : Kd α) {r : Reach} {b0 : Nat} {t e : TypeId} {v : Value} {dt : DataW H} {ps : List MemPlace} (ht : Try.prog.underlying t = some (.slice e)) (hsz : Try.prog.cellsOf e = d.sz)
    (el : ∀ n cs y, DataW.trod enc Try.prog w base spare held n e cs = some y → ∃ x : α, d.K w x cs) (hv : Value.okWide Try.prog w r b0 t v) (h : DataW.Trod enc Try.prog w base spare held t v dt ps) :
    ∃ (A : Option Addr) (cap : Nat) (l : List α), v = .slice A l.length cap ∧ l.length ≤ cap ∧ d.C w A l.length l := by
  obtain ⟨A, len, cap, rfl⟩ := okWide_slice ht hv
  obtain ⟨fuel, hf⟩ := h
  rcases open_slice ht hf with ⟨hcs, _⟩ | ⟨a, len', cap', m, n, D, Pl, hcs, hb, hl, hm, hmm, hx, hi⟩
  · simp [Value.cells] at hcs
    obtain ⟨rfl, rfl, rfl⟩ := hcs
    exact ⟨none, 0, [], rfl, Nat.le_refl _, rfl, by simp, fun h => by simp at h⟩
  · simp [Value.cells] at hcs
    obtain ⟨rfl, rfl, rfl⟩ := hcs
    have hlm : len ≤ m := by rw [hmm]; split <;> omega
    obtain ⟨l, hll, hq⟩ := list_of (Q := fun i x => ∃ c, c.length = d.sz ∧ d.K w x c ∧ ∀ k u, c[k]? = some u → w.cell? (a.add (i * d.sz + k)) = some u) len fun i hi' => by
      obtain ⟨cs', hc, htr⟩ := hi i (by omega)
      obtain ⟨x, hx⟩ := el _ _ _ htr
      obtain ⟨_, hcl, hat⟩ := World.cells?_some hc
      rw [hsz] at hcl hat
      refine ⟨x, cs', hcl, hx, fun k u hu => ?_⟩
      have hk : k < d.sz := by have := (List.getElem?_eq_some_iff.1 hu).1; omega
      rw [← Go.Deep.add_add]
      exact (hat k hk).trans hu
    subst hll
    exact ⟨some a, cap, l, rfl, hl, rfl, by unfold maxLen at hm; omega, fun _ => ⟨a, rfl, fun j p hj => hq j p hj⟩⟩

/-- A slice is no longer than its weight allows. -/
theorem sized_row {t e : TypeId} {A : Option Addr} {len cap : Nat} {d : DataW H} {ps : List MemPlace} {ts : List TypeId} {ds : List (DataW H)} {j : Nat}
    (hsz : (DataW.weightsEach Try.prog ts ds).all (· ≤ reachBytes) = true) (ht : ts[j]? = some t) (hd : ds[j]? = some d) (hu : Try.prog.underlying t = some (.slice e)) {B : Nat} (hB : Try.prog.bytesOf e = B)
    (h : DataW.Trod enc Try.prog w base spare held t (.slice A len cap) d ps) : len * B ≤ 140737488351232 := by
  obtain ⟨fuel, hf⟩ := h
  rcases open_slice hu hf with ⟨hcs, _⟩ | ⟨a, len', cap', m, n, D, Pl, hcs, hb, hl, hm, hmm, hx, hi⟩
  · simp [Value.cells] at hcs
    obtain ⟨rfl, rfl, rfl⟩ := hcs
    simp
  · simp [Value.cells] at hcs
    obtain ⟨rfl, rfl, rfl⟩ := hcs
    obtain ⟨hx, _⟩ := Prod.mk.inj hx
    subst hx
    have z := sized_slice hsz ht hd hu
    rw [hB] at z
    simp only [List.length_map, List.length_range] at z
    exact Nat.le_trans (Nat.mul_le_mul_right _ (by omega)) z
theorem trod_int3 {n : Nat} {cs : List Value} {y : DataW H × List MemPlace} (h : DataW.trod enc Try.prog w base spare held n 3 cs = some y) : ∃ x : Int, cs = [.int .i64 x] := by
  obtain ⟨x, rfl, _, _⟩ := DataW.trod_int Try.underlying3 h
  exact ⟨x, rfl⟩
theorem cells25 : Try.prog.cellsOf 25 = 2 := by kernel_rfl
theorem cells42 : Try.prog.cellsOf 42 = 5 := by kernel_rfl
theorem cells48 : Try.prog.cellsOf 48 = 2 := by kernel_rfl
theorem cells50 : Try.prog.cellsOf 50 = 5 := by kernel_rfl
theorem cells3 : Try.prog.cellsOf 3 = 1 := by kernel_rfl

theorem field_some {α : Type} {o : Option α} {xs : List α} {i : Nat} (h : o = xs[i]?) (hi : i < xs.length) : ∃ y, o = some y := ⟨xs[i], h.trans (List.getElem?_eq_getElem hi)⟩
theorem trod_25 {n : Nat} {cs : List Value} {y : DataW H × List MemPlace} (h : DataW.trod enc Try.prog w base spare held n 25 cs = some y) : ∃ x : S25, cs = [.int .i64 x.f0, .int .i64 x.f1] := by
  obtain ⟨xs, n', _, _, hlen, hxl, hf⟩ := DataW.trod_struct Try.underlying25 h
  rw [cells25] at hlen
  match cs, hlen with
  | [c0, c1], _ =>
    obtain ⟨y0, h0⟩ := field_some (hf 0 _ rfl) (by rw [hxl]; decide)
    obtain ⟨y1, h1⟩ := field_some (hf 1 _ rfl) (by rw [hxl]; decide)
    change DataW.trod enc Try.prog w base spare held n' 3 (([c0, c1].drop 0).take (Try.prog.cellsOf 3)) = some y0 at h0
    change DataW.trod enc Try.prog w base spare held n' 3 (([c0, c1].drop 1).take (Try.prog.cellsOf 3)) = some y1 at h1
    rw [cells3] at h0 h1
    obtain ⟨a, ha⟩ := trod_int3 h0
    obtain ⟨b, hb⟩ := trod_int3 h1
    simp at ha hb
    subst ha hb
    exact ⟨⟨a, b⟩, rfl⟩
theorem trod_48 {n : Nat} {cs : List Value} {y : DataW H × List MemPlace} (h : DataW.trod enc Try.prog w base spare held n 48 cs = some y) : ∃ x : S48, cs = [.int .i64 x.f0, .int .i64 x.f1] := by
  obtain ⟨xs, n', _, _, hlen, hxl, hf⟩ := DataW.trod_struct Try.underlying48 h
  rw [cells48] at hlen
  match cs, hlen with
  | [c0, c1], _ =>
    obtain ⟨y0, h0⟩ := field_some (hf 0 _ rfl) (by rw [hxl]; decide)
    obtain ⟨y1, h1⟩ := field_some (hf 1 _ rfl) (by rw [hxl]; decide)
    change DataW.trod enc Try.prog w base spare held n' 3 (([c0, c1].drop 0).take (Try.prog.cellsOf 3)) = some y0 at h0
    change DataW.trod enc Try.prog w base spare held n' 3 (([c0, c1].drop 1).take (Try.prog.cellsOf 3)) = some y1 at h1
    rw [cells3] at h0 h1
    obtain ⟨a, ha⟩ := trod_int3 h0
    obtain ⟨b, hb⟩ := trod_int3 h1
    simp at ha hb
    subst ha hb
    exact ⟨⟨a, b⟩, rfl⟩
theorem trod_42 {n : Nat} {cs : List Value} {y : DataW H × List MemPlace} (h : DataW.trod enc Try.prog w base spare held n 42 cs = some y) : ∃ x : S42, cs = [.int .i64 x.f0.f0, .int .i64 x.f0.f1, .int .i64 x.f1, .int .i64 x.f2, .int .i64 x.f3] := by
  obtain ⟨xs, n', _, _, hlen, hxl, hf⟩ := DataW.trod_struct Try.underlying42 h
  rw [cells42] at hlen
  match cs, hlen with
  | [c0, c1, c2, c3, c4], _ =>
    obtain ⟨y0, h0⟩ := field_some (hf 0 _ rfl) (by rw [hxl]; decide)
    obtain ⟨y1, h1⟩ := field_some (hf 1 _ rfl) (by rw [hxl]; decide)
    obtain ⟨y2, h2⟩ := field_some (hf 2 _ rfl) (by rw [hxl]; decide)
    obtain ⟨y3, h3⟩ := field_some (hf 3 _ rfl) (by rw [hxl]; decide)
    change DataW.trod enc Try.prog w base spare held n' 25 (([c0, c1, c2, c3, c4].drop 0).take (Try.prog.cellsOf 25)) = some y0 at h0
    change DataW.trod enc Try.prog w base spare held n' 3 (([c0, c1, c2, c3, c4].drop 2).take (Try.prog.cellsOf 3)) = some y1 at h1
    change DataW.trod enc Try.prog w base spare held n' 3 (([c0, c1, c2, c3, c4].drop 3).take (Try.prog.cellsOf 3)) = some y2 at h2
    change DataW.trod enc Try.prog w base spare held n' 3 (([c0, c1, c2, c3, c4].drop 4).take (Try.prog.cellsOf 3)) = some y3 at h3
    rw [cells3] at h1 h2 h3
    rw [cells25] at h0
    obtain ⟨p, hp⟩ := trod_25 h0
    obtain ⟨a, ha⟩ := trod_int3 h1
    obtain ⟨b, hb⟩ := trod_int3 h2
    obtain ⟨c, hc⟩ := trod_int3 h3
    simp at ha hb hc hp
    obtain ⟨hp0, hp1⟩ := hp
    subst ha hb hc hp0 hp1
    exact ⟨⟨p, a, b, c⟩, rfl⟩
theorem trod_50 {n : Nat} {cs : List Value} {y : DataW H × List MemPlace} (h : DataW.trod enc Try.prog w base spare held n 50 cs = some y) : ∃ x : S50, cs = [.int .i64 x.f0, .int .i64 x.f1, .int .i64 x.f2, .int .i64 x.f3.f0, .int .i64 x.f3.f1] := by
  obtain ⟨xs, n', _, _, hlen, hxl, hf⟩ := DataW.trod_struct Try.underlying50 h
  rw [cells50] at hlen
  match cs, hlen with
  | [c0, c1, c2, c3, c4], _ =>
    obtain ⟨y0, h0⟩ := field_some (hf 0 _ rfl) (by rw [hxl]; decide)
    obtain ⟨y1, h1⟩ := field_some (hf 1 _ rfl) (by rw [hxl]; decide)
    obtain ⟨y2, h2⟩ := field_some (hf 2 _ rfl) (by rw [hxl]; decide)
    obtain ⟨y3, h3⟩ := field_some (hf 3 _ rfl) (by rw [hxl]; decide)
    change DataW.trod enc Try.prog w base spare held n' 3 (([c0, c1, c2, c3, c4].drop 0).take (Try.prog.cellsOf 3)) = some y0 at h0
    change DataW.trod enc Try.prog w base spare held n' 3 (([c0, c1, c2, c3, c4].drop 1).take (Try.prog.cellsOf 3)) = some y1 at h1
    change DataW.trod enc Try.prog w base spare held n' 3 (([c0, c1, c2, c3, c4].drop 2).take (Try.prog.cellsOf 3)) = some y2 at h2
    change DataW.trod enc Try.prog w base spare held n' 48 (([c0, c1, c2, c3, c4].drop 3).take (Try.prog.cellsOf 48)) = some y3 at h3
    rw [cells3] at h0 h1 h2
    rw [cells48] at h3
    obtain ⟨a, ha⟩ := trod_int3 h0
    obtain ⟨b, hb⟩ := trod_int3 h1
    obtain ⟨c, hc⟩ := trod_int3 h2
    obtain ⟨p, hp⟩ := trod_48 h3
    simp at ha hb hc hp
    obtain ⟨hp0, hp1⟩ := hp
    subst ha hb hc hp0 hp1
    exact ⟨⟨a, b, c, p⟩, rfl⟩

section
variable {r : Reach} {b0 : Nat} {v : Value} {dt : DataW H} {ps : List MemPlace}
theorem open_places (hv : Value.okWide Try.prog w r b0 22 v) (h : DataW.Trod enc Try.prog w base spare held 22 v dt ps) : ∃ (A : Option Addr) (cap : Nat) (l : List S25), v = .slice A l.length cap ∧ l.length ≤ cap ∧ Kd.C k25 w A l.length l :=
  open_row k25 Try.underlying22 cells25 (fun n cs y h => by obtain ⟨x, rfl⟩ := trod_25 h; exact ⟨x, k25_mk w x⟩) hv h
theorem open_jams (hv : Value.okWide Try.prog w r b0 23 v) (h : DataW.Trod enc Try.prog w base spare held 23 v dt ps) : ∃ (A : Option Addr) (cap : Nat) (l : List S42), v = .slice A l.length cap ∧ l.length ≤ cap ∧ Kd.C k42 w A l.length l :=
  open_row k42 Try.underlying23 cells42 (fun n cs y h => by obtain ⟨x, rfl⟩ := trod_42 h; exact ⟨x, k42_mk w x⟩) hv h
theorem open_actions (hv : Value.okWide Try.prog w r b0 40 v) (h : DataW.Trod enc Try.prog w base spare held 40 v dt ps) : ∃ (A : Option Addr) (cap : Nat) (l : List S50), v = .slice A l.length cap ∧ l.length ≤ cap ∧ Kd.C k50 w A l.length l :=
  open_row k50 Try.underlying40 cells50 (fun n cs y h => by obtain ⟨x, rfl⟩ := trod_50 h; exact ⟨x, k50_mk w x⟩) hv h
theorem open_25 (hv : Value.okWide Try.prog w r b0 25 v) (h : DataW.Trod enc Try.prog w base spare held 25 v dt ps) : ∃ x : S25, v = .agg #[.int .i64 x.f0, .int .i64 x.f1] := by
  obtain ⟨cs, rfl, _⟩ := okWide_struct Try.underlying25 hv
  obtain ⟨fuel, hf⟩ := h
  obtain ⟨x, hx⟩ := trod_25 hf
  exact ⟨x, by rw [show cs = _ from Array.toList_inj.1 (hx.trans (by rfl))]⟩
theorem open_42 (hv : Value.okWide Try.prog w r b0 42 v) (h : DataW.Trod enc Try.prog w base spare held 42 v dt ps) : ∃ x : S42, v = .agg #[.int .i64 x.f0.f0, .int .i64 x.f0.f1, .int .i64 x.f1, .int .i64 x.f2, .int .i64 x.f3] := by
  obtain ⟨cs, rfl, _⟩ := okWide_struct Try.underlying42 hv
  obtain ⟨fuel, hf⟩ := h
  obtain ⟨x, hx⟩ := trod_42 hf
  exact ⟨x, by rw [show cs = _ from Array.toList_inj.1 (hx.trans (by rfl))]⟩
theorem open_50 (hv : Value.okWide Try.prog w r b0 50 v) (h : DataW.Trod enc Try.prog w base spare held 50 v dt ps) : ∃ x : S50, v = .agg #[.int .i64 x.f0, .int .i64 x.f1, .int .i64 x.f2, .int .i64 x.f3.f0, .int .i64 x.f3.f1] := by
  obtain ⟨cs, rfl, _⟩ := okWide_struct Try.underlying50 hv
  obtain ⟨fuel, hf⟩ := h
  obtain ⟨x, hx⟩ := trod_50 hf
  exact ⟨x, by rw [show cs = _ from Array.toList_inj.1 (hx.trans (by rfl))]⟩
end
end
end Go.Proofs.Ytcgbfkplhlngjaa.PA
