/- The plain law behind PlaneSymmetry. -/
import Derived.Test.YtcgbfkplhlngjaaG4
import Derived.Test.YtcgbfkplhlngjaaE16
namespace Go.Proofs.Ytcgbfkplhlngjaa.PA
open Go.RowKit Go.Proofs.YtcgbfkplhlngjaaW.PrintWords Go.Proofs.YtcgbfkplhlngjaaW.PrintLast Go.Proofs.YtcgbfkplhlngjaaW.PrintMore
set_option linter.unusedVariables false
set_option linter.unusedSimpArgs false

theorem sq_l0 (t : List (List Bool)) (n : Nat) (h : t.length = n) (hn : n ≤ 1000) (hr : ∀ i, i < n → (t.getD i []).length = n) (d : Nat) : ∀ i : Nat, i + d = n → Ev (fun k => slotmeshlaw16_square.l0 k t (n : Int) (i : Int)) true := by
  induction d with
  | zero =>
    intro i hd
    refine Ev.step (f := fun _ => some true) (fun k => ?_) (Ev.now _)
    simp only [slotmeshlaw16_square.l0]
    rw [if_neg (by omega), h]
    simp
  | succ d ih =>
    intro i hd
    refine Ev.step (f := fun k => slotmeshlaw16_square.l0 k t (n : Int) ((i + 1 : Nat) : Int)) (fun k => ?_) (ih (i + 1) (by omega))
    simp only [slotmeshlaw16_square.l0, rdL3]
    rw [if_pos (by omega), if_pos (by omega), if_pos (by rw [hr i (by omega)]), w64s (n := n) (by omega) (by omega)]
theorem rdOfB (l : List Bool) (i : Nat) : rdOf false l (i : Int) = l.getD i false := by simp [rdOf]
theorem dist_comm (a b : S25) (r : Int) : nearB a b r = nearB b a r := by
  unfold nearB distB
  have h1 : (a.f0 - b.f0) * (a.f0 - b.f0) = (b.f0 - a.f0) * (b.f0 - a.f0) := by grind
  have h2 : (a.f1 - b.f1) * (a.f1 - b.f1) = (b.f1 - a.f1) * (b.f1 - a.f1) := by grind
  rw [h1, h2, Bool.and_comm (vldB a) (vldB b)]
theorem near_self {a : S25} {r : Int} (ha : vldB a = true) (hr : radB r = true) : nearB a a r = true := by
  unfold nearB
  rw [ha, hr]
  simp only [Bool.true_and]
  rw [distB_iff]
  have := sq_nonneg r
  simpa using this

theorem sym_l1 (l : List S25) (r : Int) (hl : l.length ≤ 1000) (i : Nat) (hi : i < l.length) (hnext : Ev (fun k => slotmeshlaw16_PlaneSymmetry.l0 k l r true (hearsT l r) ((i + 1 : Nat) : Int)) true) (d : Nat) :
    ∀ j : Nat, j + d = l.length → Ev (fun k => slotmeshlaw16_PlaneSymmetry.l1 k l r true (hearsT l r) (i : Int) (j : Int)) true := by
  induction d with
  | zero =>
    intro j hd
    refine Ev.step (f := fun k => slotmeshlaw16_PlaneSymmetry.l0 k l r true (hearsT l r) ((i + 1 : Nat) : Int)) (fun k => ?_) hnext
    simp only [slotmeshlaw16_PlaneSymmetry.l1]
    rw [if_neg (by omega), w64s (n := l.length) hi (by omega)]
  | succ d ih =>
    intro j hd
    refine Ev.step (f := fun k => slotmeshlaw16_PlaneSymmetry.l1 k l r true (hearsT l r) (i : Int) ((j + 1 : Nat) : Int)) (fun k => ?_) (ih (j + 1) (by omega))
    have hj : j < l.length := by omega
    have e1 : ((hearsT l r).getD i []).getD j false = ((hearsT l r).getD j []).getD i false := by
      rw [hearsT_at hi hj, hearsT_at hj hi, dist_comm]
      congr 1
      rw [Bool.eq_iff_iff]; simp; omega
    simp only [slotmeshlaw16_PlaneSymmetry.l1, rdL3, rdOfB, rd25, near_f, Option.bind_some]
    rw [if_pos (by omega), if_pos trivial, if_pos (by omega), if_pos (by rw [hearsT_length]; omega), if_pos (by omega), if_pos (by rw [hearsT_row_length hi]; omega), if_pos (by rw [hearsT_length]; omega), if_pos (by rw [hearsT_row_length hj]; omega),
      e1, beq_self_eq_true, if_pos rfl, if_pos (by omega), dist_comm (l.getD i z25), beq_self_eq_true, if_pos rfl, w64s (n := l.length) hj (by omega), hearsT_at hj hi]
    by_cases e : i = j
    · rw [if_pos (by omega)]
    · rw [if_neg (by omega)]
      have : (j != i) = true := by simp; omega
      rw [this, Bool.true_and, beq_self_eq_true]
theorem sym_l0 (l : List S25) (r : Int) (hl : l.length ≤ 1000) (hv : ∀ a ∈ l, vldB a = true) (hr : radB r = true) (d : Nat) :
    ∀ i : Nat, i + d = l.length → Ev (fun k => slotmeshlaw16_PlaneSymmetry.l0 k l r true (hearsT l r) (i : Int)) true := by
  induction d with
  | zero =>
    intro i hd
    refine Ev.step (f := fun _ => some true) (fun k => ?_) (Ev.now _)
    simp only [slotmeshlaw16_PlaneSymmetry.l0]
    rw [if_neg (by omega)]
  | succ d ih =>
    intro i hd
    have hi : i < l.length := by omega
    refine Ev.step (f := fun k => slotmeshlaw16_PlaneSymmetry.j1 k l r true (hearsT l r) (i : Int)) (fun k => ?_) (Ev.step (f := fun k => slotmeshlaw16_PlaneSymmetry.l1 k l r true (hearsT l r) (i : Int) ((0 : Nat) : Int)) (fun k => ?_) (sym_l1 l r hl i hi (ih (i + 1) (by omega)) l.length 0 (by omega)))
    · simp only [slotmeshlaw16_PlaneSymmetry.l0, rdL3, rdOfB, rd25, near_f, Option.bind_some]
      rw [if_pos (by omega), if_pos trivial, if_pos (by omega), if_pos (by rw [hearsT_length]; omega), if_pos (by rw [hearsT_row_length hi]; omega), hearsT_at hi hi, if_neg (by simp), near_self (hv _ (by rw [getD_at hi]; exact List.getElem_mem hi)) hr]
    · simp only [slotmeshlaw16_PlaneSymmetry.j1]
      rfl

theorem pure_PlaneSymmetry (l : List S25) (r : Int) (_ : l.length * 16 ≤ 140737488351232) (_ : (Lit.int .i64 r).wf = true) : ∃ k, slotmeshlaw16_PlaneSymmetry.f k l r = some true := by
  refine Ev.rounds ?_
  unfold slotmeshlaw16_PlaneSymmetry.f slotmeshlaw16_head.f
  simp only [Option.bind_some]
  by_cases h1 : (l.length : Int) > 100
  · simp only [if_pos h1]; exact Ev.now true
  simp only [if_neg h1]
  by_cases hp : placesB l r = true
  · have hp' : ∀ k, plane_Hears.f k l r = some (hearsT l r, 0) := fun k => by unfold plane_Hears.f; rw [if_pos hp]
    simp only [hp', Option.bind_some, if_true]
    have hsq : Ev (fun k => slotmeshlaw16_square.f k (hearsT l r) (l.length : Int)) true := by
      unfold slotmeshlaw16_square.f
      exact sq_l0 _ l.length (hearsT_length l r) (by omega) (fun i hi => hearsT_row_length hi) l.length 0 (by omega)
    refine Ev.bind hsq ?_
    simp only [if_true]
    simp only [placesB, Bool.and_eq_true] at hp
    exact sym_l0 l r (by omega) (fun a ha => List.all_eq_true.1 hp.2 a ha) hp.1.2 l.length 0 (by omega)
  · have hp' : ∀ k, plane_Hears.f k l r = some ([], 1) := fun k => by unfold plane_Hears.f; rw [if_neg hp]
    simp only [hp', Option.bind_some]
    exact Ev.congr (f := fun _ => some true) (fun k => by simp) (Ev.now true)
end Go.Proofs.Ytcgbfkplhlngjaa.PA
