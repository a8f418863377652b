/- The plain law behind PlaneOthers. -/
import Derived.Test.YtcgbfkplhlngjaaF10
import Derived.Test.YtcgbfkplhlngjaaE16
namespace Go.Proofs.Ytcgbfkplhlngjaa.PA
open Go.RowKit Go.Proofs.YtcgbfkplhlngjaaW.PrintWords Go.Proofs.YtcgbfkplhlngjaaW.PrintLast Go.Proofs.YtcgbfkplhlngjaaW.PrintMore
set_option linter.unusedVariables false
set_option linter.unusedSimpArgs false

theorem square_l0 (t : List (List Bool)) (n : Nat) (h : t.length = n) (hn : n ≤ 1000) (hr : ∀ i, i < n → (t.getD i []).length = n) (d : Nat) : ∀ i : Nat, i + d = n → Ev (fun k => slotmeshlaw16_square.l0 k t (n : Int) (i : Int)) true := by
  induction d with
  | zero =>
    intro i hd
    refine Ev.step (f := fun _ => some true) (fun k => ?_) (Ev.now _)
    simp only [slotmeshlaw16_square.l0]
    rw [if_neg (by omega), h]
    simp
  | succ d ih =>
    intro i hd
    refine Ev.step (f := fun k => slotmeshlaw16_square.l0 k t (n : Int) ((i + 1 : Nat) : Int)) (fun k => ?_) (ih (i + 1) (by omega))
    simp only [slotmeshlaw16_square.l0, rdL3]
    rw [if_pos (by omega), if_pos (by omega), if_pos (by rw [hr i (by omega)]), w64s (n := n) (by omega) (by omega)]
theorem squareE (t : List (List Bool)) (n : Nat) (h : t.length = n) (hn : n ≤ 1000) (hr : ∀ i, i < n → (t.getD i []).length = n) : Ev (fun k => slotmeshlaw16_square.f k t (n : Int)) true := by
  unfold slotmeshlaw16_square.f
  exact square_l0 t n h hn hr n 0 (by omega)
theorem rdOf_at (l : List Bool) (i : Nat) : rdOf false l (i : Int) = l.getD i false := by simp [rdOf]
theorem take_getD {l : List S25} {n i : Nat} (h : i < n) (hn : n ≤ l.length) : (l.take n).getD i z25 = l.getD i z25 := by
  rw [getD_at (by simp; omega), getD_at (by omega)]
  simp
theorem hears_take {l : List S25} {r : Int} {n i k : Nat} (hn : n ≤ l.length) (hi : i < n) (hk : k < n) : ((hearsT (l.take n) r).getD i []).getD k false = ((hearsT l r).getD i []).getD k false := by
  rw [hearsT_at (by simp; omega) (by simp; omega), hearsT_at (by omega) (by omega), take_getD hi hn, take_getD hk hn]

theorem others_l1 (l : List S25) (r : Int) (n : Nat) (hn : n + 1 = l.length) (hl : l.length ≤ 1000) (i : Nat) (hi : i < n) (hnext : Ev (fun k => slotmeshlaw16_PlaneOthers.l0 k true (hearsT l r) (n : Int) (hearsT (l.take n) r) ((i + 1 : Nat) : Int)) true) (d : Nat) :
    ∀ j : Nat, j + d = n → Ev (fun k => slotmeshlaw16_PlaneOthers.l1 k true (hearsT l r) (n : Int) (hearsT (l.take n) r) (i : Int) (j : Int)) true := by
  have hlt : (l.take n).length = n := by simp; omega
  induction d with
  | zero =>
    intro j hd
    refine Ev.step (f := fun k => slotmeshlaw16_PlaneOthers.l0 k true (hearsT l r) (n : Int) (hearsT (l.take n) r) ((i + 1 : Nat) : Int)) (fun k => ?_) hnext
    simp only [slotmeshlaw16_PlaneOthers.l1]
    rw [if_neg (by omega), w64s (n := n) hi (by omega)]
  | succ d ih =>
    intro j hd
    refine Ev.step (f := fun k => slotmeshlaw16_PlaneOthers.l1 k true (hearsT l r) (n : Int) (hearsT (l.take n) r) (i : Int) ((j + 1 : Nat) : Int)) (fun k => ?_) (ih (j + 1) (by omega))
    have hj : j < n := by omega
    simp only [slotmeshlaw16_PlaneOthers.l1, rdL3, rdOf_at]
    rw [if_pos (by omega), if_pos trivial, if_pos (by omega), if_pos (by rw [hearsT_length]; omega), if_pos (by omega), if_pos (by rw [hearsT_row_length (by omega)]; omega), if_pos (by rw [hearsT_length]; omega), if_pos (by rw [hearsT_row_length (by omega)]; omega),
      hears_take (by omega) hi hj, w64s (n := n) hj (by omega), beq_self_eq_true]
theorem others_l0 (l : List S25) (r : Int) (n : Nat) (hn : n + 1 = l.length) (hl : l.length ≤ 1000) (d : Nat) :
    ∀ i : Nat, i + d = n → Ev (fun k => slotmeshlaw16_PlaneOthers.l0 k true (hearsT l r) (n : Int) (hearsT (l.take n) r) (i : Int)) true := by
  induction d with
  | zero =>
    intro i hd
    refine Ev.step (f := fun _ => some true) (fun k => ?_) (Ev.now _)
    simp only [slotmeshlaw16_PlaneOthers.l0]
    rw [if_neg (by omega)]
  | succ d ih =>
    intro i hd
    refine Ev.step (f := fun k => slotmeshlaw16_PlaneOthers.l1 k true (hearsT l r) (n : Int) (hearsT (l.take n) r) (i : Int) ((0 : Nat) : Int)) (fun k => ?_) (others_l1 l r n hn hl i (by omega) (ih (i + 1) (by omega)) n 0 (by omega))
    simp only [slotmeshlaw16_PlaneOthers.l0]
    rw [if_pos (by omega)]
    rfl
theorem places_take {l : List S25} {r : Int} {n : Nat} (h : placesB l r = true) (hn : n ≤ l.length) : placesB (l.take n) r = true := by
  simp only [placesB, Bool.and_eq_true, decide_eq_true_eq] at *
  refine ⟨⟨by simp; omega, h.1.2⟩, ?_⟩
  rw [List.all_eq_true] at *
  exact fun x hx => h.2 x (List.mem_of_mem_take hx)
theorem hears_yes_f {l : List S25} {r : Int} (h : placesB l r = true) (k : Nat) : plane_Hears.f k l r = some (hearsT l r, 0) := by unfold plane_Hears.f; rw [if_pos h]
theorem hears_no_f {l : List S25} {r : Int} (h : ¬ placesB l r = true) (k : Nat) : plane_Hears.f k l r = some ([], 1) := by unfold plane_Hears.f; rw [if_neg h]

theorem pure_PlaneOthers (l : List S25) (r : Int) (_ : l.length * 16 ≤ 140737488351232) (_ : (Lit.int .i64 r).wf = true) : ∃ k, slotmeshlaw16_PlaneOthers.f k l r = some true := by
  have out : ∀ k, slotmeshlaw16_PlaneOthers.j0 (k + 1) l r true true = some true := fun k => by simp [slotmeshlaw16_PlaneOthers.j0]
  refine Ev.rounds ?_
  unfold slotmeshlaw16_PlaneOthers.f slotmeshlaw16_head.f
  simp only [Option.bind_some]
  by_cases h1 : (l.length : Int) > 60
  · simp only [if_pos h1]
    exact Ev.step (f := fun _ => some true) out (Ev.now true)
  simp only [if_neg h1]
  by_cases h2 : (l.length : Int) = 0
  · rw [beq_iff_eq.2 h2]
    exact Ev.step (f := fun _ => some true) out (Ev.now true)
  have h2' : ((l.length : Int) == 0) = false := by simpa using h2
  simp only [h2']
  refine Ev.step (fun k => by simp only [slotmeshlaw16_PlaneOthers.j0]; rfl) ?_
  simp only [Bool.false_eq_true, if_false]
  by_cases hp : placesB l r = true
  · obtain ⟨n, hn⟩ : ∃ n, n + 1 = l.length := ⟨l.length - 1, by omega⟩
    have e1 : wrap64 ((l.length : Int) - 1) = (n : Int) := by rw [w64 (by omega) (by omega)]; omega
    have e2 : wrap64 ((n : Int) + 1) = ((n + 1 : Nat) : Int) := by rw [w64 (by omega) (by omega)]; omega
    have hlt : (l.take n).length = n := by simp; omega
    simp only [hears_yes_f hp, Option.bind_some, if_true, e1]
    simp only [if_pos (show (0 : Int) ≤ (n : Int) by omega), if_pos (show (n : Int) ≤ (l.length : Int) by omega)]
    simp only [Int.toNat_natCast, hears_yes_f (places_take hp (show n ≤ l.length by omega)), Option.bind_some, if_true, e2]
    refine Ev.bind (squareE _ _ (by rw [hearsT_length]; omega) (by omega) fun i hi => by rw [hearsT_row_length (by omega)]; omega) ?_
    simp only [if_true]
    refine Ev.bind (squareE _ _ (by rw [hearsT_length, hlt]) (by omega) fun i hi => by rw [hearsT_row_length (by omega), hlt]) ?_
    refine Ev.step (f := fun k => slotmeshlaw16_PlaneOthers.l0 k true (hearsT l r) (n : Int) (hearsT (l.take n) r) ((0 : Nat) : Int)) (fun k => by simp [slotmeshlaw16_PlaneOthers.j1]) (others_l0 l r n hn (by omega) n 0 (by omega))
  · simp only [hears_no_f hp, Option.bind_some]
    exact Ev.congr (f := fun _ => some true) (fun k => by simp) (Ev.now true)
end Go.Proofs.Ytcgbfkplhlngjaa.PA
