/- The plain law behind PlaneMoving. -/
import Derived.Test.YtcgbfkplhlngjaaF9
import Derived.Test.YtcgbfkplhlngjaaE16
namespace Go.Proofs.Ytcgbfkplhlngjaa.PA
open Go.RowKit Go.Proofs.YtcgbfkplhlngjaaW.PrintWords Go.Proofs.YtcgbfkplhlngjaaW.PrintLast Go.Proofs.YtcgbfkplhlngjaaW.PrintMore
set_option linter.unusedVariables false
set_option linter.unusedSimpArgs false

def mvP (x y : Int) (p : S25) : S25 := ⟨wrap64 (p.f0 + x), wrap64 (p.f1 + y)⟩
def swP (p : S25) : S25 := ⟨p.f1, p.f0⟩
theorem vld_sw (p : S25) : vldB (swP p) = vldB p := by
  unfold vldB swP
  rw [Bool.eq_iff_iff]
  simp
  omega
theorem near_sw (a b : S25) (r : Int) : nearB (swP a) (swP b) r = nearB a b r := by
  unfold nearB
  rw [vld_sw, vld_sw]
  congr 1
  unfold distB swP
  dsimp only
  rw [Int.add_comm]
theorem mv_at {x y : Int} {p : S25} (hp : vldB p = true) (hx : -10000 ≤ x) (hx' : x ≤ 10000) (hy : -10000 ≤ y) (hy' : y ≤ 10000) : mvP x y p = ⟨p.f0 + x, p.f1 + y⟩ := by
  rw [vldB_iff] at hp
  unfold mvP
  rw [w64 (by omega) (by omega), w64 (by omega) (by omega)]
theorem near_mv {x y : Int} {a b : S25} {r : Int} (ha : vldB a = true) (hb : vldB b = true) (ha' : vldB (mvP x y a) = true) (hb' : vldB (mvP x y b) = true) (hx : -10000 ≤ x) (hx' : x ≤ 10000) (hy : -10000 ≤ y) (hy' : y ≤ 10000) : nearB (mvP x y a) (mvP x y b) r = nearB a b r := by
  unfold nearB
  rw [ha, hb, ha', hb', mv_at ha hx hx' hy hy', mv_at hb hx hx' hy hy']
  congr 1
  unfold distB
  dsimp only
  rw [show a.f0 + x - (b.f0 + x) = a.f0 - b.f0 by omega, show a.f1 + y - (b.f1 + y) = a.f1 - b.f1 by omega]
theorem map_getD {l : List S25} {f : S25 → S25} {i : Nat} (h : i < l.length) : (l.map f).getD i z25 = f (l.getD i z25) := by
  rw [getD_at (by simpa using h), getD_at h]
  simp
theorem hears_map {l : List S25} {f : S25 → S25} {r : Int} (h : ∀ a ∈ l, ∀ b ∈ l, nearB (f a) (f b) r = nearB a b r) : hearsT (l.map f) r = hearsT l r := by
  unfold hearsT
  rw [List.length_map]
  refine List.map_congr_left fun i hi => List.map_congr_left fun k hk => ?_
  rw [List.mem_range] at hi hk
  rw [map_getD hi, map_getD hk, h _ (by rw [getD_at hi]; exact List.getElem_mem hi) _ (by rw [getD_at hk]; exact List.getElem_mem hk)]
theorem places_sw (l : List S25) (r : Int) : placesB (l.map swP) r = placesB l r := by
  unfold placesB
  rw [List.length_map, List.all_map]
  congr 1
  exact congrFun (congrArg List.all rfl) _ |>.trans (by congr 1; funext p; exact vld_sw p)
theorem hears_yes_g {l : List S25} {r : Int} (h : placesB l r = true) (k : Nat) : plane_Hears.f k l r = some (hearsT l r, 0) := by unfold plane_Hears.f; rw [if_pos h]
theorem hears_no_g {l : List S25} {r : Int} (h : ¬ placesB l r = true) (k : Nat) : plane_Hears.f k l r = some ([], 1) := by unfold plane_Hears.f; rw [if_neg h]
theorem all_of_places {l : List S25} {r : Int} (h : placesB l r = true) : ∀ a ∈ l, vldB a = true := by
  simp only [placesB, Bool.and_eq_true] at h
  exact fun a ha => List.all_eq_true.1 h.2 a ha

theorem moving_l0 (l : List S25) (r x y : Int) (hp : placesB l r = true) (hl : l.length ≤ 1000) (hx : -10000 ≤ x) (hx' : x ≤ 10000) (hy : -10000 ≤ y) (hy' : y ≤ 10000) (d : Nat) :
    ∀ i : Nat, i + d = l.length → Ev (fun k => slotmeshlaw16_PlaneMoving.l0 k l r x y true (hearsT l r) ((l.map (mvP x y)).take i) ((l.map swP).take i) (i : Int)) true := by
  induction d with
  | zero =>
    intro i hd
    have hm : (l.map (mvP x y)).take i = l.map (mvP x y) := List.take_of_length_le (by simp; omega)
    have ht : (l.map swP).take i = l.map swP := List.take_of_length_le (by simp; omega)
    rw [hm, ht]
    refine Ev.step (fun k => by simp only [slotmeshlaw16_PlaneMoving.l0]; rfl) ?_
    have hsame := sameE (hearsT l r) (by rw [hearsT_length]; omega) fun i hi => by rw [hearsT_length] at hi; rw [hearsT_row_length hi]; omega
    have hsw : placesB (l.map swP) r = true := by rw [places_sw]; exact hp
    have esw : hearsT (l.map swP) r = hearsT l r := hears_map fun a _ b _ => near_sw a b r
    simp only [if_neg (show ¬ (i : Int) < (l.length : Int) by omega), hears_yes_g hsw, Option.bind_some, if_true, esw]
    by_cases hm : placesB (l.map (mvP x y)) r = true
    · have hv := all_of_places hp
      have hv' := all_of_places hm
      have emv : hearsT (l.map (mvP x y)) r = hearsT l r := hears_map fun a ha b hb => near_mv (hv a ha) (hv b hb) (hv' _ (List.mem_map_of_mem ha)) (hv' _ (List.mem_map_of_mem hb)) hx hx' hy hy'
      simp only [hears_yes_g hm, Option.bind_some, emv]
      refine Ev.bind (placesE _ _ (by simp; omega)) ?_
      rw [hm]
      refine Ev.bind hsame ?_
      simp only [if_true, beq_self_eq_true]
      refine Ev.bind hsame ?_
      exact Ev.now true
    · simp only [hears_no_g hm, Option.bind_some]
      refine Ev.bind (placesE _ _ (by simp; omega)) ?_
      have hm' : placesB (l.map (mvP x y)) r = false := by simpa using hm
      rw [hm']
      refine Ev.bind hsame ?_
      exact Ev.congr (f := fun _ => some true) (fun k => by simp) (Ev.now true)
  | succ d ih =>
    intro i hd
    have hi : i < l.length := by omega
    refine Ev.step (f := fun k => slotmeshlaw16_PlaneMoving.l0 k l r x y true (hearsT l r) ((l.map (mvP x y)).take (i + 1)) ((l.map swP).take (i + 1)) ((i + 1 : Nat) : Int)) (fun k => ?_) (ih (i + 1) (by omega))
    simp only [slotmeshlaw16_PlaneMoving.l0, rd25]
    rw [if_pos (by omega), if_pos (by omega), if_pos (by have := List.length_take_le i (l.map (mvP x y)); omega), if_pos (by have := List.length_take_le i (l.map swP); omega), w64s (n := l.length) hi (by omega), take_snoc z25 (l := l.map (mvP x y)) (by simpa using hi), take_snoc z25 (l := l.map swP) (by simpa using hi), map_getD hi, map_getD hi]
    rfl

theorem pure_PlaneMoving (l : List S25) (r x y : Int) (_ : l.length * 16 ≤ 140737488351232) (_ : (Lit.int .i64 r).wf = true) (_ : (Lit.int .i64 x).wf = true) (_ : (Lit.int .i64 y).wf = true) : ∃ k, slotmeshlaw16_PlaneMoving.f k l r x y = some true := by
  have out : ∀ k, slotmeshlaw16_PlaneMoving.j0 (k + 1) l r x y true true = some true := fun k => by simp [slotmeshlaw16_PlaneMoving.j0]
  have ev := Ev.step (g := fun k => slotmeshlaw16_PlaneMoving.j0 k l r x y true true) (f := fun _ => some true) out (Ev.now true)
  refine Ev.rounds ?_
  unfold slotmeshlaw16_PlaneMoving.f slotmeshlaw16_head.f
  simp only [Option.bind_some]
  by_cases h1 : (l.length : Int) > 60
  · simp only [if_pos h1]; exact ev
  by_cases h2 : x < (-10000)
  · simp only [if_neg h1, if_pos h2]; exact ev
  by_cases h3 : x > 10000
  · simp only [if_neg h1, if_neg h2, if_pos h3]; exact ev
  by_cases h4 : y < (-10000)
  · simp only [if_neg h1, if_neg h2, if_neg h3, if_pos h4]; exact ev
  by_cases h5 : y > 10000
  · simp only [if_neg h1, if_neg h2, if_neg h3, if_neg h4, decide_eq_true h5]; exact ev
  simp only [if_neg h1, if_neg h2, if_neg h3, if_neg h4, decide_eq_false h5]
  refine Ev.step (fun k => by simp only [slotmeshlaw16_PlaneMoving.j0]; rfl) ?_
  simp only [Bool.false_eq_true, if_false]
  by_cases hp : placesB l r = true
  · simp only [hears_yes_g hp, Option.bind_some, if_true]
    exact Ev.congr (f := fun k => slotmeshlaw16_PlaneMoving.l0 k l r x y true (hearsT l r) ((l.map (mvP x y)).take 0) ((l.map swP).take 0) ((0 : Nat) : Int)) (fun k => by simp) (moving_l0 l r x y hp (by omega) (by omega) (by omega) (by omega) (by omega) l.length 0 (by omega))
  · simp only [hears_no_g hp, Option.bind_some]
    exact Ev.congr (f := fun _ => some true) (fun k => by simp) (Ev.now true)
end Go.Proofs.Ytcgbfkplhlngjaa.PA
