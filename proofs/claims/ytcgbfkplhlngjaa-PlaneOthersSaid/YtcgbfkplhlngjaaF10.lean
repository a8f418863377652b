/- What slotmeshlaw16_PlaneOthers (function 10) computes, as a Lean function, and that its call comes to just that; made by a program of this session in the manner of the print. -/
import Derived.Test.YtcgbfkplhlngjaaT0
import Derived.Test.YtcgbfkplhlngjaaF25
import Derived.Test.YtcgbfkplhlngjaaHd16
import Derived.Test.YtcgbfkplhlngjaaHear
namespace Go.Proofs.Ytcgbfkplhlngjaa.PA
open Go.RowKit Go.Proofs.YtcgbfkplhlngjaaW.PrintWords Go.Proofs.YtcgbfkplhlngjaaW.PrintLast Go.Proofs.YtcgbfkplhlngjaaW.PrintMore
attribute [local go_sem] max2_int min2_int max_two min_two max_three min_three max_four min_four   -- for this text's walks alone
set_option linter.unusedVariables false
set_option linter.unusedSimpArgs false

/-! ### slotmeshlaw16_PlaneOthers: function 10 -/
mutual
def slotmeshlaw16_PlaneOthers.j0 : Nat → List (S25) → Int → Bool → Bool → Option (Bool)
  | 0, _, _, _, _ => none
  | k + 1, x0, x1, x5, x21 => if x21 = true then (some x5) else ((plane_Hears.f k x0 x1).bind fun bt349 => (if bt349.2 = 0 then (if 0 ≤ (wrap64 ((x0.length : Int) - 1)) then (if (wrap64 ((x0.length : Int) - 1)) ≤ (x0.length : Int) then ((plane_Hears.f k (x0.take ((wrap64 ((x0.length : Int) - 1)) : Int).toNat) x1).bind fun bt357 => (if bt357.2 = 0 then ((slotmeshlaw16_square.f k bt349.1 (wrap64 ((wrap64 ((x0.length : Int) - 1)) + 1))).bind fun t361 => (if t361 = true then ((slotmeshlaw16_square.f k bt357.1 (wrap64 ((x0.length : Int) - 1))).bind fun t362 => (slotmeshlaw16_PlaneOthers.j1 k x5 bt349.1 (wrap64 ((x0.length : Int) - 1)) bt357.1 (!t362))) else (slotmeshlaw16_PlaneOthers.j1 k x5 bt349.1 (wrap64 ((x0.length : Int) - 1)) bt357.1 true))) else (slotmeshlaw16_PlaneOthers.j1 k x5 bt349.1 (wrap64 ((x0.length : Int) - 1)) bt357.1 true))) else (none)) else (none)) else (some x5)))
def slotmeshlaw16_PlaneOthers.j1 : Nat → Bool → List (List Bool) → Int → List (List Bool) → Bool → Option (Bool)
  | 0, _, _, _, _, _ => none
  | k + 1, x5, x6, x8, x9, x57 => if x57 = true then (some false) else (slotmeshlaw16_PlaneOthers.l0 k x5 x6 x8 x9 0)
def slotmeshlaw16_PlaneOthers.l0 : Nat → Bool → List (List Bool) → Int → List (List Bool) → Int → Option (Bool)
  | 0, _, _, _, _, _ => none
  | k + 1, x5, x6, x8, x9, x11 => if x11 < x8 then (slotmeshlaw16_PlaneOthers.l1 k x5 x6 x8 x9 x11 0) else (some x5)
def slotmeshlaw16_PlaneOthers.l1 : Nat → Bool → List (List Bool) → Int → List (List Bool) → Int → Int → Option (Bool)
  | 0, _, _, _, _, _, _ => none
  | k + 1, x5, x6, x8, x9, x11, x12 => if x12 < x8 then (if x5 = true then (if 0 ≤ x11 then (if x11 < (x6.length : Int) then (if 0 ≤ x12 then (if x12 < ((rd_L3 x6 x11).length : Int) then (if x11 < (x9.length : Int) then (if x12 < ((rd_L3 x9 x11).length : Int) then (slotmeshlaw16_PlaneOthers.l1 k ((rdOf false (rd_L3 x6 x11) x12) == (rdOf false (rd_L3 x9 x11) x12)) x6 x8 x9 x11 (wrap64 (x12 + 1))) else (none)) else (none)) else (none)) else (none)) else (none)) else (none)) else (slotmeshlaw16_PlaneOthers.l1 k false x6 x8 x9 x11 (wrap64 (x12 + 1)))) else (slotmeshlaw16_PlaneOthers.l0 k x5 x6 x8 x9 (wrap64 (x11 + 1)))
end
def slotmeshlaw16_PlaneOthers.f (k : Nat) (l0 : List (S25)) (a1 : Int) : Option (Bool) := (slotmeshlaw16_head.f).bind fun t348 => (if (l0.length : Int) > 60 then (slotmeshlaw16_PlaneOthers.j0 k l0 a1 t348 true) else (slotmeshlaw16_PlaneOthers.j0 k l0 a1 t348 ((l0.length : Int) == 0)))
theorem slotmeshlaw16_PlaneOthers.mono_l : ∀ k, (∀ y0 y1 y2 y3, LeO (slotmeshlaw16_PlaneOthers.j0 k y0 y1 y2 y3) (slotmeshlaw16_PlaneOthers.j0 (k + 1) y0 y1 y2 y3)) ∧ (∀ y0 y1 y2 y3 y4, LeO (slotmeshlaw16_PlaneOthers.j1 k y0 y1 y2 y3 y4) (slotmeshlaw16_PlaneOthers.j1 (k + 1) y0 y1 y2 y3 y4)) ∧ (∀ y0 y1 y2 y3 y4, LeO (slotmeshlaw16_PlaneOthers.l0 k y0 y1 y2 y3 y4) (slotmeshlaw16_PlaneOthers.l0 (k + 1) y0 y1 y2 y3 y4)) ∧ (∀ y0 y1 y2 y3 y4 y5, LeO (slotmeshlaw16_PlaneOthers.l1 k y0 y1 y2 y3 y4 y5) (slotmeshlaw16_PlaneOthers.l1 (k + 1) y0 y1 y2 y3 y4 y5))
  | 0 => ⟨fun _ _ _ _ r h => by simp [slotmeshlaw16_PlaneOthers.j0] at h, fun _ _ _ _ _ r h => by simp [slotmeshlaw16_PlaneOthers.j1] at h, fun _ _ _ _ _ r h => by simp [slotmeshlaw16_PlaneOthers.l0] at h, fun _ _ _ _ _ _ r h => by simp [slotmeshlaw16_PlaneOthers.l1] at h⟩
  | k + 1 => by
    obtain ⟨ih0, ih1, ih2, ih3⟩ := slotmeshlaw16_PlaneOthers.mono_l k
    refine ⟨?_, ?_, ?_, ?_⟩
    · intro y0 y1 y2 y3
      unfold slotmeshlaw16_PlaneOthers.j0
      repeat' first
      | (with_reducible exact ih0 _ _ _ _)
      | (with_reducible exact ih1 _ _ _ _ _)
      | (with_reducible exact ih2 _ _ _ _ _)
      | (with_reducible exact ih3 _ _ _ _ _ _)
      | (with_reducible exact plane_Hears.mono _ _ _)
      | (with_reducible exact slotmeshlaw16_square.mono _ _ _)
      | (with_reducible exact LeO.refl _)
      | (with_reducible exact LeO.none _)
      | (with_reducible refine LeO.ite ?_ ?_)
      | (with_reducible refine LeO.bind ?_ (fun _ => ?_))
      | exact ih0 _ _ _ _
      | exact ih1 _ _ _ _ _
      | exact ih2 _ _ _ _ _
      | exact ih3 _ _ _ _ _ _
      | exact plane_Hears.mono _ _ _
      | exact slotmeshlaw16_square.mono _ _ _
      | exact LeO.none _
      | refine LeO.ite ?_ ?_
      | refine LeO.bind ?_ (fun _ => ?_)
    · intro y0 y1 y2 y3 y4
      unfold slotmeshlaw16_PlaneOthers.j1
      repeat' first
      | (with_reducible exact ih0 _ _ _ _)
      | (with_reducible exact ih1 _ _ _ _ _)
      | (with_reducible exact ih2 _ _ _ _ _)
      | (with_reducible exact ih3 _ _ _ _ _ _)
      | (with_reducible exact plane_Hears.mono _ _ _)
      | (with_reducible exact slotmeshlaw16_square.mono _ _ _)
      | (with_reducible exact LeO.refl _)
      | (with_reducible exact LeO.none _)
      | (with_reducible refine LeO.ite ?_ ?_)
      | (with_reducible refine LeO.bind ?_ (fun _ => ?_))
      | exact ih0 _ _ _ _
      | exact ih1 _ _ _ _ _
      | exact ih2 _ _ _ _ _
      | exact ih3 _ _ _ _ _ _
      | exact plane_Hears.mono _ _ _
      | exact slotmeshlaw16_square.mono _ _ _
      | exact LeO.none _
      | refine LeO.ite ?_ ?_
      | refine LeO.bind ?_ (fun _ => ?_)
    · intro y0 y1 y2 y3 y4
      unfold slotmeshlaw16_PlaneOthers.l0
      repeat' first
      | (with_reducible exact ih0 _ _ _ _)
      | (with_reducible exact ih1 _ _ _ _ _)
      | (with_reducible exact ih2 _ _ _ _ _)
      | (with_reducible exact ih3 _ _ _ _ _ _)
      | (with_reducible exact plane_Hears.mono _ _ _)
      | (with_reducible exact slotmeshlaw16_square.mono _ _ _)
      | (with_reducible exact LeO.refl _)
      | (with_reducible exact LeO.none _)
      | (with_reducible refine LeO.ite ?_ ?_)
      | (with_reducible refine LeO.bind ?_ (fun _ => ?_))
      | exact ih0 _ _ _ _
      | exact ih1 _ _ _ _ _
      | exact ih2 _ _ _ _ _
      | exact ih3 _ _ _ _ _ _
      | exact plane_Hears.mono _ _ _
      | exact slotmeshlaw16_square.mono _ _ _
      | exact LeO.none _
      | refine LeO.ite ?_ ?_
      | refine LeO.bind ?_ (fun _ => ?_)
    · intro y0 y1 y2 y3 y4 y5
      unfold slotmeshlaw16_PlaneOthers.l1
      repeat' first
      | (with_reducible exact ih0 _ _ _ _)
      | (with_reducible exact ih1 _ _ _ _ _)
      | (with_reducible exact ih2 _ _ _ _ _)
      | (with_reducible exact ih3 _ _ _ _ _ _)
      | (with_reducible exact plane_Hears.mono _ _ _)
      | (with_reducible exact slotmeshlaw16_square.mono _ _ _)
      | (with_reducible exact LeO.refl _)
      | (with_reducible exact LeO.none _)
      | (with_reducible refine LeO.ite ?_ ?_)
      | (with_reducible refine LeO.bind ?_ (fun _ => ?_))
      | exact ih0 _ _ _ _
      | exact ih1 _ _ _ _ _
      | exact ih2 _ _ _ _ _
      | exact ih3 _ _ _ _ _ _
      | exact plane_Hears.mono _ _ _
      | exact slotmeshlaw16_square.mono _ _ _
      | exact LeO.none _
      | refine LeO.ite ?_ ?_
      | refine LeO.bind ?_ (fun _ => ?_)
theorem slotmeshlaw16_PlaneOthers.mono : ∀ a0 a1 k, LeO (slotmeshlaw16_PlaneOthers.f k a0 a1) (slotmeshlaw16_PlaneOthers.f (k + 1) a0 a1) := by
  intro a0 a1 k
  obtain ⟨ih0, ih1, ih2, ih3⟩ := slotmeshlaw16_PlaneOthers.mono_l k
  unfold slotmeshlaw16_PlaneOthers.f
  repeat' first
      | (with_reducible exact ih0 _ _ _ _)
      | (with_reducible exact ih1 _ _ _ _ _)
      | (with_reducible exact ih2 _ _ _ _ _)
      | (with_reducible exact ih3 _ _ _ _ _ _)
      | (with_reducible exact plane_Hears.mono _ _ _)
      | (with_reducible exact slotmeshlaw16_square.mono _ _ _)
      | (with_reducible exact LeO.refl _)
      | (with_reducible exact LeO.none _)
      | (with_reducible refine LeO.ite ?_ ?_)
      | (with_reducible refine LeO.bind ?_ (fun _ => ?_))
      | exact ih0 _ _ _ _
      | exact ih1 _ _ _ _ _
      | exact ih2 _ _ _ _ _
      | exact ih3 _ _ _ _ _ _
      | exact plane_Hears.mono _ _ _
      | exact slotmeshlaw16_square.mono _ _ _
      | exact LeO.none _
      | refine LeO.ite ?_ ?_
      | refine LeO.bind ?_ (fun _ => ?_)
set_option maxHeartbeats 8000000 in
set_option maxRecDepth 100000 in
theorem slotmeshlaw16_PlaneOthers.calls (k : Nat) (A0 : Option Addr) (c0 : Nat) (l0 : List (S25)) (a1 : Int) (r : Bool) (w : World) (hr0 : Kd.C k25 w A0 l0.length l0) (hc0 : l0.length ≤ c0) (h : slotmeshlaw16_PlaneOthers.f k l0 a1 = some r) :
    Calls Try.prog 10 #[.slice A0 l0.length c0, .int .i64 a1] w fun e w' => e = .returned (.bool r) ∧ Below w.heap.size w w' := by
  have HR0 := Aside0.mk hr0
  have HC0 := Aside0.mk hc0
  clear hr0 hc0
  have HB := Aside0.mk (Below.refl w.heap.size w)
  have H : ((slotmeshlaw16_head.f).bind fun t348 => (if (l0.length : Int) > 60 then (slotmeshlaw16_PlaneOthers.j0 k l0 a1 t348 true) else (slotmeshlaw16_PlaneOthers.j0 k l0 a1 t348 ((l0.length : Int) == 0)))) = some r := h
  clear h
  replace H := Option.bind_eq_some_iff.mp H
  obtain ⟨t348, A30, H⟩ := H
  replace H : (if (l0.length : Int) > 60 then (slotmeshlaw16_PlaneOthers.j0 k l0 a1 t348 true) else (slotmeshlaw16_PlaneOthers.j0 k l0 a1 t348 ((l0.length : Int) == 0))) = some r := H
  have A3 := Aside0.mk A30
  clear A30
  have HC4 := Aside0.mk H
  clear H
  go_enter Try.func10, Try.ntmps10
  go_upto_region 2 with (first | (go_at_call 17; (with_reducible refine (slotmeshlaw16_head.calls  t348 _ A3.out).mono ?_); rintro e w5 ⟨rfl, hb⟩; have n0_ := Aside0.mk (below_step (by repeat (first | (with_reducible first | exact HB.out | apply below_alloc | apply pw_below_drewN | apply below_drew1) | exact HB.out)) hb); clear HB; have HB := n0_; clear n0_; (try clear hb); (try clear hb2); (try clear hk); (try clear hi)))
  repeat (go_quiet (first | (go_at_call 17; (with_reducible refine (slotmeshlaw16_head.calls  t348 _ A3.out).mono ?_); rintro e w5 ⟨rfl, hb⟩; have n0_ := Aside0.mk (below_step (by repeat (first | (with_reducible first | exact HB.out | apply below_alloc | apply pw_below_drewN | apply below_drew1) | exact HB.out)) hb); clear HB; have HB := n0_; clear n0_; (try clear hb); (try clear hb2); (try clear hk); (try clear hi))); go_upto_region 2 with (first | (go_at_call 17; (with_reducible refine (slotmeshlaw16_head.calls  t348 _ A3.out).mono ?_); rintro e w5 ⟨rfl, hb⟩; have n0_ := Aside0.mk (below_step (by repeat (first | (with_reducible first | exact HB.out | apply below_alloc | apply pw_below_drewN | apply below_drew1) | exact HB.out)) hb); clear HB; have HB := n0_; clear n0_; (try clear hb); (try clear hb2); (try clear hk); (try clear hi))))
  (try simp only [Act.put, List.setIfInBounds_toArray, List.set_cons_zero, List.set_cons_succ])
  go_cut [21] (fun v21 wc => ∃ (kq : Nat) (x21_3 : Bool), v21 = .bool x21_3 ∧ Aside0 (slotmeshlaw16_PlaneOthers.j0 kq l0 a1 t348 x21_3 = some r) ∧ Aside0 (kq ≤ k) ∧ Aside0 (Below w.heap.size w wc))
  case first =>
    have H := HC4.out
    clear HC4
    by_cases c6 : (l0.length : Int) > 60
    · rw [if_pos c6] at H
      have c6b0 : decide (60 < (l0.length : Int)) = true := decide_eq_true c6
      have c6b1 : decide (60 < l0.length) = true := decide_eq_true (by omega)
      clear c6
      (first | rw [c6b0] | (simp only [i64_w, i32_w]; rw [c6b0]) | skip)
      have H' := Aside0.mk H
      clear H
      go_wp2
      repeat (go_quiet (fail); try go_wp2)
      go_meet
      case rel => exact ⟨_, (true), (by first | rfl | (simp; done) | (simp [*]; done)), H', ⟨by first | omega | exact Nat.le_refl _⟩, ⟨by repeat (first | (with_reducible first | exact HB.out | apply below_alloc | apply pw_below_drewN | apply below_drew1) | exact HB.out)⟩⟩
    · rw [if_neg c6] at H
      have c6b0 : decide (60 < (l0.length : Int)) = false := decide_eq_false c6
      have c6b1 : decide (60 < l0.length) = false := decide_eq_false (by omega)
      clear c6
      (first | rw [c6b0] | (simp only [i64_w, i32_w]; rw [c6b0]) | skip)
      have H' := Aside0.mk H
      clear H
      go_wp2
      repeat (go_quiet (fail); try go_wp2)
      go_meet
      case rel => exact ⟨_, (((l0.length : Int) == 0)), (by first | rfl | (simp; done) | (simp [*]; done)), H', ⟨by first | omega | exact Nat.le_refl _⟩, ⟨by repeat (first | (with_reducible first | exact HB.out | apply below_alloc | apply pw_below_drewN | apply below_drew1) | exact HB.out)⟩⟩
  case rest =>
    clear HC4
    try clear c1
    try clear p2
    try clear c6
    try clear c6b0
    try clear c6b1
    obtain ⟨kq, x21_3, rfl, HA, HJ3, HB⟩ := hcut
    cases kq with
    | zero => exact absurd HA.out (by simp [slotmeshlaw16_PlaneOthers.j0])
    | succ kj3 =>
      have H := HA.out
      clear HA
      simp only [slotmeshlaw16_PlaneOthers.j0] at H
      by_cases c7 : x21_3 = true
      · subst c7
        have H1 : (some t348) = some r := by rw [if_pos rfl] at H; exact H
        clear H
        have H := H1
        clear H1
        obtain rfl := Option.some.inj H
        go_wp2
        repeat (go_quiet (fail); try go_wp2)
        go_ret
        exact ⟨by first | rfl | (simp [errW_none, errW_some] <;> rfl) | (simp [*, errW_none, errW_some] <;> rfl), by repeat (first | (with_reducible first | exact HB.out | apply below_alloc | apply pw_below_drewN | apply below_drew1) | exact HB.out)⟩
      · replace c7 := Bool.eq_false_iff.mpr c7
        subst c7
        have H1 : ((plane_Hears.f kj3 l0 a1).bind fun bt349 => (if bt349.2 = 0 then (if 0 ≤ (wrap64 ((l0.length : Int) - 1)) then (if (wrap64 ((l0.length : Int) - 1)) ≤ (l0.length : Int) then ((plane_Hears.f kj3 (l0.take ((wrap64 ((l0.length : Int) - 1)) : Int).toNat) a1).bind fun bt357 => (if bt357.2 = 0 then ((slotmeshlaw16_square.f kj3 bt349.1 (wrap64 ((wrap64 ((l0.length : Int) - 1)) + 1))).bind fun t361 => (if t361 = true then ((slotmeshlaw16_square.f kj3 bt357.1 (wrap64 ((l0.length : Int) - 1))).bind fun t362 => (slotmeshlaw16_PlaneOthers.j1 kj3 t348 bt349.1 (wrap64 ((l0.length : Int) - 1)) bt357.1 (!t362))) else (slotmeshlaw16_PlaneOthers.j1 kj3 t348 bt349.1 (wrap64 ((l0.length : Int) - 1)) bt357.1 true))) else (slotmeshlaw16_PlaneOthers.j1 kj3 t348 bt349.1 (wrap64 ((l0.length : Int) - 1)) bt357.1 true))) else (none)) else (none)) else (some t348))) = some r := by rw [if_neg (show ¬ (false = true) by decide)] at H; exact H
        clear H
        have H := H1
        clear H1
        replace H := Option.bind_eq_some_iff.mp H
        obtain ⟨⟨t349, t350⟩, A80, H⟩ := H
        replace H : (if t350 = 0 then (if 0 ≤ (wrap64 ((l0.length : Int) - 1)) then (if (wrap64 ((l0.length : Int) - 1)) ≤ (l0.length : Int) then ((plane_Hears.f kj3 (l0.take ((wrap64 ((l0.length : Int) - 1)) : Int).toNat) a1).bind fun bt357 => (if bt357.2 = 0 then ((slotmeshlaw16_square.f kj3 t349 (wrap64 ((wrap64 ((l0.length : Int) - 1)) + 1))).bind fun t361 => (if t361 = true then ((slotmeshlaw16_square.f kj3 bt357.1 (wrap64 ((l0.length : Int) - 1))).bind fun t362 => (slotmeshlaw16_PlaneOthers.j1 kj3 t348 t349 (wrap64 ((l0.length : Int) - 1)) bt357.1 (!t362))) else (slotmeshlaw16_PlaneOthers.j1 kj3 t348 t349 (wrap64 ((l0.length : Int) - 1)) bt357.1 true))) else (slotmeshlaw16_PlaneOthers.j1 kj3 t348 t349 (wrap64 ((l0.length : Int) - 1)) bt357.1 true))) else (none)) else (none)) else (some t348)) = some r := H
        have A8 := Aside0.mk A80
        clear A80
        by_cases c9 : t350 = 0
        · rw [if_pos c9] at H
          have c9b0 : (t350 == 0) = true := beq_iff_eq.mpr c9
          have c9b1 : (t350 != 0) = false := bne_eq_false_iff_eq.mpr c9
          clear c9
          obtain ⟨ji10, hji10⟩ : ∃ j_ : Int, (wrap64 ((l0.length : Int) - 1)) = j_ := ⟨_, rfl⟩
          replace H : (if 0 ≤ (ji10) then (if (ji10) ≤ (l0.length : Int) then ((plane_Hears.f kj3 (l0.take ((ji10) : Int).toNat) a1).bind fun bt357 => (if bt357.2 = 0 then ((slotmeshlaw16_square.f kj3 t349 (wrap64 ((ji10) + 1))).bind fun t361 => (if t361 = true then ((slotmeshlaw16_square.f kj3 bt357.1 (ji10)).bind fun t362 => (slotmeshlaw16_PlaneOthers.j1 kj3 t348 t349 ji10 bt357.1 (!t362))) else (slotmeshlaw16_PlaneOthers.j1 kj3 t348 t349 ji10 bt357.1 true))) else (slotmeshlaw16_PlaneOthers.j1 kj3 t348 t349 ji10 bt357.1 true))) else (none)) else (none)) = some r := by first | (rw [hji10] at H; exact H) | (simp only [hji10] at H ⊢; exact H)
          (try rw [hji10] at A8)
          have hji10w : (IntKind.i64.wrap ((l0.length : Int) - 1)) = ji10 := (i64_w _).trans hji10
          by_cases c11 : 0 ≤ (ji10)
          · rw [if_pos c11] at H
            have c11b0 := eq_true c11
            have c11b1 : decide (0 ≤ (ji10)) = true := decide_eq_true c11
            clear c11
            by_cases c12 : (ji10) ≤ (l0.length : Int)
            · rw [if_pos c12] at H
              have c12b0 := eq_true c12
              have c12b1 : decide ((ji10) ≤ (l0.length : Int)) = true := decide_eq_true c12
              clear c12
              obtain ⟨y353, hy353⟩ : ∃ y_ : List (S25), y_ = (l0.take ((ji10) : Int).toNat) := ⟨_, rfl⟩
              replace H : ((plane_Hears.f kj3 y353 a1).bind fun bt357 => (if bt357.2 = 0 then ((slotmeshlaw16_square.f kj3 t349 (wrap64 ((ji10) + 1))).bind fun t361 => (if t361 = true then ((slotmeshlaw16_square.f kj3 bt357.1 (ji10)).bind fun t362 => (slotmeshlaw16_PlaneOthers.j1 kj3 t348 t349 ji10 bt357.1 (!t362))) else (slotmeshlaw16_PlaneOthers.j1 kj3 t348 t349 ji10 bt357.1 true))) else (slotmeshlaw16_PlaneOthers.j1 kj3 t348 t349 ji10 bt357.1 true))) = some r := by first | (rw [hy353]; with_reducible exact H) | (have H2_ := (Option.bind_some _ _).symm.trans H; rw [hy353]; with_reducible exact H2_) | (have H2_ := (Option.bind_some _ _).symm.trans H; with_reducible exact H2_) | with_reducible exact H | (rw [hy353]; exact H) | exact H
              have Ny353 := Aside0.mk hy353
              clear hy353
              replace H := Option.bind_eq_some_iff.mp H
              obtain ⟨⟨t357, t358⟩, A130, H⟩ := H
              replace H : (if t358 = 0 then ((slotmeshlaw16_square.f kj3 t349 (wrap64 ((ji10) + 1))).bind fun t361 => (if t361 = true then ((slotmeshlaw16_square.f kj3 t357 (ji10)).bind fun t362 => (slotmeshlaw16_PlaneOthers.j1 kj3 t348 t349 ji10 t357 (!t362))) else (slotmeshlaw16_PlaneOthers.j1 kj3 t348 t349 ji10 t357 true))) else (slotmeshlaw16_PlaneOthers.j1 kj3 t348 t349 ji10 t357 true)) = some r := H
              have A13 := Aside0.mk A130
              clear A130
              have HC14 := Aside0.mk H
              clear H
              go_upto_region 9 with (first | (go_at_call 18; (with_reducible refine (plane_Hears.calls kj3 _ _ l0 a1 t349 t350 _ ?side1 ?side2 A8.out).mono ?_); (case side1 => repeat (first | exact (Kd.C_below HR0.out HB.out) | (with_reducible refine Kd.C_alloc ?_ _) | (with_reducible refine Kd.C_drewN ?_ _) | (with_reducible refine Kd.C_drew ?_))); (case side2 => exact HC0.out); rintro e w15 ⟨v351, rfl, ho0, hb⟩; have n0_ := Aside0.mk (Kd.S_lower ho0 (below_size (by repeat (first | (with_reducible first | exact HB.out | apply below_alloc | apply pw_below_drewN | apply below_drew1) | exact HB.out)))); have n1_ := Aside0.mk (below_step (by repeat (first | (with_reducible first | exact HB.out | apply below_alloc | apply pw_below_drewN | apply below_drew1) | exact HB.out)) hb); clear HB; have HO352 := n0_; have HB := n1_; clear n0_ n1_; (try clear hb); (try clear hb2); (try clear hk); (try clear hi); (try clear ho0); have q16 : ((ji10) : Int) ≤ ((l0.length : Int) : Int) := of_decide_eq_true (by first | (with_reducible assumption) | assumption); obtain ⟨i016, hi016, _, hsz16, _⟩ := info_parts info25; have hroom16 : l0.length ≤ c0 := HC0.out; have hC16 : Kd.C k25 _ A0 l0.length l0 := HR0.out; have hcut16 := cut_to (P := Try.prog) 22 25 .i64 Try.underlying22 hi016 A0 l0.length c0 (ji10) (of_decide_eq_true (by first | (with_reducible assumption) | assumption)) q16 hroom16; have hr16 := Kd.C_take (m := ((ji10) : Int).toNat) hC16 (by omega); have hy16 : y353.length = ((ji10) : Int).toNat := (by rw [Ny353.out, List.length_take]; omega); rw [← Ny353.out] at hr16; rw [← hy16] at hcut16; have HR356 := Aside0.mk hr16; have HC356 := Aside0.mk (show y353.length ≤ c0 from by omega); clear hr16 hC16 hroom16 hi016 hsz16; have KY16 := Aside0.mk hy16; clear hy16; replace q16 := eq_true q16) | (go_at_call 18; (with_reducible refine (plane_Hears.calls kj3 _ _ y353 a1 t357 t358 _ ?side1 ?side2 A13.out).mono ?_); (case side1 => repeat (first | exact (Kd.C_below HR356.out HB.out) | (with_reducible refine Kd.C_alloc ?_ _) | (with_reducible refine Kd.C_drewN ?_ _) | (with_reducible refine Kd.C_drew ?_))); (case side2 => exact HC356.out); rintro e w17 ⟨v359, rfl, ho0, hb⟩; have n0_ := Aside0.mk (Kd.S_elder' (by (with_reducible repeat (first | apply Kd.S_alloc | apply Kd.S_drewN | apply Kd.S_drew)); exact HO352.out) (Kd.S_base ho0) hb); have n1_ := Aside0.mk (Kd.S_lower (Kd.S_new' ho0 (Kd.S_lt (by (with_reducible repeat (first | apply Kd.S_alloc | apply Kd.S_drewN | apply Kd.S_drew)); exact HO352.out))) (below_size (by repeat (first | (with_reducible first | exact HB.out | apply below_alloc | apply pw_below_drewN | apply below_drew1) | exact HB.out)))); have n2_ := Aside0.mk (below_step (by repeat (first | (with_reducible first | exact HB.out | apply below_alloc | apply pw_below_drewN | apply below_drew1) | exact HB.out)) hb); clear HO352; clear HB; have HO352 := n0_; have HO360 := n1_; have HB := n2_; clear n0_ n1_ n2_; (try clear hb); (try clear hb2); (try clear hk); (try clear hi); (try clear ho0)))
              repeat (go_quiet (first | (go_at_call 18; (with_reducible refine (plane_Hears.calls kj3 _ _ l0 a1 t349 t350 _ ?side1 ?side2 A8.out).mono ?_); (case side1 => repeat (first | exact (Kd.C_below HR0.out HB.out) | (with_reducible refine Kd.C_alloc ?_ _) | (with_reducible refine Kd.C_drewN ?_ _) | (with_reducible refine Kd.C_drew ?_))); (case side2 => exact HC0.out); rintro e w15 ⟨v351, rfl, ho0, hb⟩; have n0_ := Aside0.mk (Kd.S_lower ho0 (below_size (by repeat (first | (with_reducible first | exact HB.out | apply below_alloc | apply pw_below_drewN | apply below_drew1) | exact HB.out)))); have n1_ := Aside0.mk (below_step (by repeat (first | (with_reducible first | exact HB.out | apply below_alloc | apply pw_below_drewN | apply below_drew1) | exact HB.out)) hb); clear HB; have HO352 := n0_; have HB := n1_; clear n0_ n1_; (try clear hb); (try clear hb2); (try clear hk); (try clear hi); (try clear ho0); have q16 : ((ji10) : Int) ≤ ((l0.length : Int) : Int) := of_decide_eq_true (by first | (with_reducible assumption) | assumption); obtain ⟨i016, hi016, _, hsz16, _⟩ := info_parts info25; have hroom16 : l0.length ≤ c0 := HC0.out; have hC16 : Kd.C k25 _ A0 l0.length l0 := HR0.out; have hcut16 := cut_to (P := Try.prog) 22 25 .i64 Try.underlying22 hi016 A0 l0.length c0 (ji10) (of_decide_eq_true (by first | (with_reducible assumption) | assumption)) q16 hroom16; have hr16 := Kd.C_take (m := ((ji10) : Int).toNat) hC16 (by omega); have hy16 : y353.length = ((ji10) : Int).toNat := (by rw [Ny353.out, List.length_take]; omega); rw [← Ny353.out] at hr16; rw [← hy16] at hcut16; have HR356 := Aside0.mk hr16; have HC356 := Aside0.mk (show y353.length ≤ c0 from by omega); clear hr16 hC16 hroom16 hi016 hsz16; have KY16 := Aside0.mk hy16; clear hy16; replace q16 := eq_true q16) | (go_at_call 18; (with_reducible refine (plane_Hears.calls kj3 _ _ y353 a1 t357 t358 _ ?side1 ?side2 A13.out).mono ?_); (case side1 => repeat (first | exact (Kd.C_below HR356.out HB.out) | (with_reducible refine Kd.C_alloc ?_ _) | (with_reducible refine Kd.C_drewN ?_ _) | (with_reducible refine Kd.C_drew ?_))); (case side2 => exact HC356.out); rintro e w17 ⟨v359, rfl, ho0, hb⟩; have n0_ := Aside0.mk (Kd.S_elder' (by (with_reducible repeat (first | apply Kd.S_alloc | apply Kd.S_drewN | apply Kd.S_drew)); exact HO352.out) (Kd.S_base ho0) hb); have n1_ := Aside0.mk (Kd.S_lower (Kd.S_new' ho0 (Kd.S_lt (by (with_reducible repeat (first | apply Kd.S_alloc | apply Kd.S_drewN | apply Kd.S_drew)); exact HO352.out))) (below_size (by repeat (first | (with_reducible first | exact HB.out | apply below_alloc | apply pw_below_drewN | apply below_drew1) | exact HB.out)))); have n2_ := Aside0.mk (below_step (by repeat (first | (with_reducible first | exact HB.out | apply below_alloc | apply pw_below_drewN | apply below_drew1) | exact HB.out)) hb); clear HO352; clear HB; have HO352 := n0_; have HO360 := n1_; have HB := n2_; clear n0_ n1_ n2_; (try clear hb); (try clear hb2); (try clear hk); (try clear hi); (try clear ho0))); go_upto_region 9 with (first | (go_at_call 18; (with_reducible refine (plane_Hears.calls kj3 _ _ l0 a1 t349 t350 _ ?side1 ?side2 A8.out).mono ?_); (case side1 => repeat (first | exact (Kd.C_below HR0.out HB.out) | (with_reducible refine Kd.C_alloc ?_ _) | (with_reducible refine Kd.C_drewN ?_ _) | (with_reducible refine Kd.C_drew ?_))); (case side2 => exact HC0.out); rintro e w15 ⟨v351, rfl, ho0, hb⟩; have n0_ := Aside0.mk (Kd.S_lower ho0 (below_size (by repeat (first | (with_reducible first | exact HB.out | apply below_alloc | apply pw_below_drewN | apply below_drew1) | exact HB.out)))); have n1_ := Aside0.mk (below_step (by repeat (first | (with_reducible first | exact HB.out | apply below_alloc | apply pw_below_drewN | apply below_drew1) | exact HB.out)) hb); clear HB; have HO352 := n0_; have HB := n1_; clear n0_ n1_; (try clear hb); (try clear hb2); (try clear hk); (try clear hi); (try clear ho0); have q16 : ((ji10) : Int) ≤ ((l0.length : Int) : Int) := of_decide_eq_true (by first | (with_reducible assumption) | assumption); obtain ⟨i016, hi016, _, hsz16, _⟩ := info_parts info25; have hroom16 : l0.length ≤ c0 := HC0.out; have hC16 : Kd.C k25 _ A0 l0.length l0 := HR0.out; have hcut16 := cut_to (P := Try.prog) 22 25 .i64 Try.underlying22 hi016 A0 l0.length c0 (ji10) (of_decide_eq_true (by first | (with_reducible assumption) | assumption)) q16 hroom16; have hr16 := Kd.C_take (m := ((ji10) : Int).toNat) hC16 (by omega); have hy16 : y353.length = ((ji10) : Int).toNat := (by rw [Ny353.out, List.length_take]; omega); rw [← Ny353.out] at hr16; rw [← hy16] at hcut16; have HR356 := Aside0.mk hr16; have HC356 := Aside0.mk (show y353.length ≤ c0 from by omega); clear hr16 hC16 hroom16 hi016 hsz16; have KY16 := Aside0.mk hy16; clear hy16; replace q16 := eq_true q16) | (go_at_call 18; (with_reducible refine (plane_Hears.calls kj3 _ _ y353 a1 t357 t358 _ ?side1 ?side2 A13.out).mono ?_); (case side1 => repeat (first | exact (Kd.C_below HR356.out HB.out) | (with_reducible refine Kd.C_alloc ?_ _) | (with_reducible refine Kd.C_drewN ?_ _) | (with_reducible refine Kd.C_drew ?_))); (case side2 => exact HC356.out); rintro e w17 ⟨v359, rfl, ho0, hb⟩; have n0_ := Aside0.mk (Kd.S_elder' (by (with_reducible repeat (first | apply Kd.S_alloc | apply Kd.S_drewN | apply Kd.S_drew)); exact HO352.out) (Kd.S_base ho0) hb); have n1_ := Aside0.mk (Kd.S_lower (Kd.S_new' ho0 (Kd.S_lt (by (with_reducible repeat (first | apply Kd.S_alloc | apply Kd.S_drewN | apply Kd.S_drew)); exact HO352.out))) (below_size (by repeat (first | (with_reducible first | exact HB.out | apply below_alloc | apply pw_below_drewN | apply below_drew1) | exact HB.out)))); have n2_ := Aside0.mk (below_step (by repeat (first | (with_reducible first | exact HB.out | apply below_alloc | apply pw_below_drewN | apply below_drew1) | exact HB.out)) hb); clear HO352; clear HB; have HO352 := n0_; have HO360 := n1_; have HB := n2_; clear n0_ n1_ n2_; (try clear hb); (try clear hb2); (try clear hk); (try clear hi); (try clear ho0))))
              (try simp only [Act.put, List.setIfInBounds_toArray, List.set_cons_zero, List.set_cons_succ])
              go_cut [57] (fun v57 wc => ∃ (kq : Nat) (x57_13 : Bool), v57 = .bool x57_13 ∧ Aside0 (slotmeshlaw16_PlaneOthers.j1 kq t348 t349 ji10 t357 x57_13 = some r) ∧ Aside0 (kq ≤ kj3) ∧ Aside0 (Kd.S (Kd.slice 4 Kd.bool) 36 wc w.heap.size (fun k_ => some k_ ≠ (v359 : Value).ownBlock) v351 t349) ∧ Aside0 (Kd.S (Kd.slice 4 Kd.bool) 36 wc w.heap.size (fun k_ => some k_ ≠ (v351 : Value).ownBlock) v359 t357) ∧ Aside0 (Below w.heap.size w wc))
              case first =>
                have H := HC14.out
                clear HC14
                by_cases c18 : t358 = 0
                · rw [if_pos c18] at H
                  have c18b0 : (t358 == 0) = true := beq_iff_eq.mpr c18
                  have c18b1 : (t358 != 0) = false := bne_eq_false_iff_eq.mpr c18
                  clear c18
                  (first | rw [c18b0] | (simp only [i64_w, i32_w]; rw [c18b0]) | skip)
                  replace H := Option.bind_eq_some_iff.mp H
                  obtain ⟨t361, A190, H⟩ := H
                  replace H : (if t361 = true then ((slotmeshlaw16_square.f kj3 t357 (ji10)).bind fun t362 => (slotmeshlaw16_PlaneOthers.j1 kj3 t348 t349 ji10 t357 (!t362))) else (slotmeshlaw16_PlaneOthers.j1 kj3 t348 t349 ji10 t357 true)) = some r := H
                  have A19 := Aside0.mk A190
                  clear A190
                  by_cases c20 : t361 = true
                  · subst c20
                    have H1 : ((slotmeshlaw16_square.f kj3 t357 (ji10)).bind fun t362 => (slotmeshlaw16_PlaneOthers.j1 kj3 t348 t349 ji10 t357 (!t362))) = some r := by rw [if_pos rfl] at H; exact H
                    clear H
                    have H := H1
                    clear H1
                    replace H := Option.bind_eq_some_iff.mp H
                    obtain ⟨t362, A210, H⟩ := H
                    replace H : (slotmeshlaw16_PlaneOthers.j1 kj3 t348 t349 ji10 t357 (!t362)) = some r := H
                    have A21 := Aside0.mk A210
                    clear A210
                    have H' := Aside0.mk H
                    clear H
                    obtain ⟨Ao22, co22, eo22⟩ := Kd.S_slice HO352.out
                    subst eo22
                    go_wp2_with (first | (go_at_call 25; (with_reducible refine (slotmeshlaw16_square.calls kj3 _ _ t349 (wrap64 ((ji10) + 1)) true _ ?side1 ?side2 A19.out).mono ?_); (case side1 => repeat (first | exact (Kd.S_reads' HO352.out).2.2 | (with_reducible refine Kd.C_alloc ?_ _) | (with_reducible refine Kd.C_drewN ?_ _) | (with_reducible refine Kd.C_drew ?_))); (case side2 => exact (Kd.S_reads' HO352.out).2.1); rintro e w' ⟨rfl, ⟨nd, rfl⟩⟩; (try first | exact ⟨rfl, _, World.drewN_drewN _ _ _⟩ | exact ⟨rfl, _, Eq.trans (World.drewN_drewN _ _ _) (congrArg (World.drewN _) (Nat.add_assoc _ _ _))⟩); obtain ⟨Ao23, co23, eo23⟩ := Kd.S_slice HO360.out; subst eo23) | (go_at_call 25; (with_reducible refine (slotmeshlaw16_square.calls kj3 _ _ t357 ji10 t362 _ ?side1 ?side2 A21.out).mono ?_); (case side1 => repeat (first | exact (Kd.S_reads' HO360.out).2.2 | (with_reducible refine Kd.C_alloc ?_ _) | (with_reducible refine Kd.C_drewN ?_ _) | (with_reducible refine Kd.C_drew ?_))); (case side2 => exact (Kd.S_reads' HO360.out).2.1); rintro e w' ⟨rfl, ⟨nd, rfl⟩⟩; (try first | exact ⟨rfl, _, World.drewN_drewN _ _ _⟩ | exact ⟨rfl, _, Eq.trans (World.drewN_drewN _ _ _) (congrArg (World.drewN _) (Nat.add_assoc _ _ _))⟩)))
                    repeat (go_quiet (first | (go_at_call 25; (with_reducible refine (slotmeshlaw16_square.calls kj3 _ _ t349 (wrap64 ((ji10) + 1)) true _ ?side1 ?side2 A19.out).mono ?_); (case side1 => repeat (first | exact (Kd.S_reads' HO352.out).2.2 | (with_reducible refine Kd.C_alloc ?_ _) | (with_reducible refine Kd.C_drewN ?_ _) | (with_reducible refine Kd.C_drew ?_))); (case side2 => exact (Kd.S_reads' HO352.out).2.1); rintro e w' ⟨rfl, ⟨nd, rfl⟩⟩; (try first | exact ⟨rfl, _, World.drewN_drewN _ _ _⟩ | exact ⟨rfl, _, Eq.trans (World.drewN_drewN _ _ _) (congrArg (World.drewN _) (Nat.add_assoc _ _ _))⟩); obtain ⟨Ao23, co23, eo23⟩ := Kd.S_slice HO360.out; subst eo23) | (go_at_call 25; (with_reducible refine (slotmeshlaw16_square.calls kj3 _ _ t357 ji10 t362 _ ?side1 ?side2 A21.out).mono ?_); (case side1 => repeat (first | exact (Kd.S_reads' HO360.out).2.2 | (with_reducible refine Kd.C_alloc ?_ _) | (with_reducible refine Kd.C_drewN ?_ _) | (with_reducible refine Kd.C_drew ?_))); (case side2 => exact (Kd.S_reads' HO360.out).2.1); rintro e w' ⟨rfl, ⟨nd, rfl⟩⟩; (try first | exact ⟨rfl, _, World.drewN_drewN _ _ _⟩ | exact ⟨rfl, _, Eq.trans (World.drewN_drewN _ _ _) (congrArg (World.drewN _) (Nat.add_assoc _ _ _))⟩))); try go_wp2_with (first | (go_at_call 25; (with_reducible refine (slotmeshlaw16_square.calls kj3 _ _ t349 (wrap64 ((ji10) + 1)) true _ ?side1 ?side2 A19.out).mono ?_); (case side1 => repeat (first | exact (Kd.S_reads' HO352.out).2.2 | (with_reducible refine Kd.C_alloc ?_ _) | (with_reducible refine Kd.C_drewN ?_ _) | (with_reducible refine Kd.C_drew ?_))); (case side2 => exact (Kd.S_reads' HO352.out).2.1); rintro e w' ⟨rfl, ⟨nd, rfl⟩⟩; (try first | exact ⟨rfl, _, World.drewN_drewN _ _ _⟩ | exact ⟨rfl, _, Eq.trans (World.drewN_drewN _ _ _) (congrArg (World.drewN _) (Nat.add_assoc _ _ _))⟩); obtain ⟨Ao23, co23, eo23⟩ := Kd.S_slice HO360.out; subst eo23) | (go_at_call 25; (with_reducible refine (slotmeshlaw16_square.calls kj3 _ _ t357 ji10 t362 _ ?side1 ?side2 A21.out).mono ?_); (case side1 => repeat (first | exact (Kd.S_reads' HO360.out).2.2 | (with_reducible refine Kd.C_alloc ?_ _) | (with_reducible refine Kd.C_drewN ?_ _) | (with_reducible refine Kd.C_drew ?_))); (case side2 => exact (Kd.S_reads' HO360.out).2.1); rintro e w' ⟨rfl, ⟨nd, rfl⟩⟩; (try first | exact ⟨rfl, _, World.drewN_drewN _ _ _⟩ | exact ⟨rfl, _, Eq.trans (World.drewN_drewN _ _ _) (congrArg (World.drewN _) (Nat.add_assoc _ _ _))⟩))))
                    go_meet
                    case rel => exact ⟨_, (!t362), (by first | rfl | (simp; done) | (simp [*]; done)), H', ⟨by have := HJ3.out; first | omega | exact Nat.le_refl _⟩, ⟨by (with_reducible repeat (first | apply Kd.S_alloc | apply Kd.S_drewN | apply Kd.S_drew)); exact Kd.S_mono HO352.out (fun _ hk => hk.2)⟩, ⟨by (with_reducible repeat (first | apply Kd.S_alloc | apply Kd.S_drewN | apply Kd.S_drew)); exact Kd.S_mono HO360.out (fun _ hk => hk.2)⟩, ⟨by repeat (first | (with_reducible first | exact HB.out | apply below_alloc | apply pw_below_drewN | apply below_drew1) | exact HB.out)⟩⟩
                  · replace c20 := Bool.eq_false_iff.mpr c20
                    subst c20
                    have H1 : (slotmeshlaw16_PlaneOthers.j1 kj3 t348 t349 ji10 t357 true) = some r := by rw [if_neg (show ¬ (false = true) by decide)] at H; exact H
                    clear H
                    have H := H1
                    clear H1
                    have H' := Aside0.mk H
                    clear H
                    obtain ⟨Ao24, co24, eo24⟩ := Kd.S_slice HO352.out
                    subst eo24
                    go_wp2_with (first | (go_at_call 25; (with_reducible refine (slotmeshlaw16_square.calls kj3 _ _ t349 (wrap64 ((ji10) + 1)) false _ ?side1 ?side2 A19.out).mono ?_); (case side1 => repeat (first | exact (Kd.S_reads' HO352.out).2.2 | (with_reducible refine Kd.C_alloc ?_ _) | (with_reducible refine Kd.C_drewN ?_ _) | (with_reducible refine Kd.C_drew ?_))); (case side2 => exact (Kd.S_reads' HO352.out).2.1); rintro e w' ⟨rfl, ⟨nd, rfl⟩⟩; (try first | exact ⟨rfl, _, World.drewN_drewN _ _ _⟩ | exact ⟨rfl, _, Eq.trans (World.drewN_drewN _ _ _) (congrArg (World.drewN _) (Nat.add_assoc _ _ _))⟩)))
                    repeat (go_quiet (first | (go_at_call 25; (with_reducible refine (slotmeshlaw16_square.calls kj3 _ _ t349 (wrap64 ((ji10) + 1)) false _ ?side1 ?side2 A19.out).mono ?_); (case side1 => repeat (first | exact (Kd.S_reads' HO352.out).2.2 | (with_reducible refine Kd.C_alloc ?_ _) | (with_reducible refine Kd.C_drewN ?_ _) | (with_reducible refine Kd.C_drew ?_))); (case side2 => exact (Kd.S_reads' HO352.out).2.1); rintro e w' ⟨rfl, ⟨nd, rfl⟩⟩; (try first | exact ⟨rfl, _, World.drewN_drewN _ _ _⟩ | exact ⟨rfl, _, Eq.trans (World.drewN_drewN _ _ _) (congrArg (World.drewN _) (Nat.add_assoc _ _ _))⟩))); try go_wp2_with (first | (go_at_call 25; (with_reducible refine (slotmeshlaw16_square.calls kj3 _ _ t349 (wrap64 ((ji10) + 1)) false _ ?side1 ?side2 A19.out).mono ?_); (case side1 => repeat (first | exact (Kd.S_reads' HO352.out).2.2 | (with_reducible refine Kd.C_alloc ?_ _) | (with_reducible refine Kd.C_drewN ?_ _) | (with_reducible refine Kd.C_drew ?_))); (case side2 => exact (Kd.S_reads' HO352.out).2.1); rintro e w' ⟨rfl, ⟨nd, rfl⟩⟩; (try first | exact ⟨rfl, _, World.drewN_drewN _ _ _⟩ | exact ⟨rfl, _, Eq.trans (World.drewN_drewN _ _ _) (congrArg (World.drewN _) (Nat.add_assoc _ _ _))⟩))))
                    go_meet
                    case rel => exact ⟨_, (true), (by first | rfl | (simp; done) | (simp [*]; done)), H', ⟨by have := HJ3.out; first | omega | exact Nat.le_refl _⟩, ⟨by (with_reducible repeat (first | apply Kd.S_alloc | apply Kd.S_drewN | apply Kd.S_drew)); exact Kd.S_mono HO352.out (fun _ hk => hk.2)⟩, ⟨by (with_reducible repeat (first | apply Kd.S_alloc | apply Kd.S_drewN | apply Kd.S_drew)); exact Kd.S_mono HO360.out (fun _ hk => hk.2)⟩, ⟨by repeat (first | (with_reducible first | exact HB.out | apply below_alloc | apply pw_below_drewN | apply below_drew1) | exact HB.out)⟩⟩
                · rw [if_neg c18] at H
                  have c18b0 : (t358 == 0) = false := beq_eq_false_iff_ne.mpr c18
                  have c18b1 : (t358 != 0) = true := bne_iff_ne.mpr c18
                  (first | rw [c18b0] | (simp only [i64_w, i32_w]; rw [c18b0]) | skip)
                  have H' := Aside0.mk H
                  clear H
                  go_wp2
                  repeat (go_quiet (fail); try go_wp2)
                  go_meet
                  case rel => exact ⟨_, (true), (by first | rfl | (simp; done) | (simp [*]; done)), H', ⟨by have := HJ3.out; first | omega | exact Nat.le_refl _⟩, ⟨by (with_reducible repeat (first | apply Kd.S_alloc | apply Kd.S_drewN | apply Kd.S_drew)); exact Kd.S_mono HO352.out (fun _ hk => hk.2)⟩, ⟨by (with_reducible repeat (first | apply Kd.S_alloc | apply Kd.S_drewN | apply Kd.S_drew)); exact Kd.S_mono HO360.out (fun _ hk => hk.2)⟩, ⟨by repeat (first | (with_reducible first | exact HB.out | apply below_alloc | apply pw_below_drewN | apply below_drew1) | exact HB.out)⟩⟩
              case rest =>
                clear HC14
                try clear c1
                try clear q1
                try clear c2
                try clear p2
                try clear c6
                try clear c6b0
                try clear c6b1
                try clear p6
                try clear c7
                try clear c9
                try clear c9b0
                try clear c9b1
                try clear c10
                try clear c11
                try clear c11b0
                try clear c11b1
                try clear c12
                try clear c12b0
                try clear c12b1
                try clear q16
                try clear c18
                try clear c18b0
                try clear c18b1
                try clear c20
                try clear p2
                try clear q16
                obtain ⟨kq, x57_13, rfl, HA, HJ13, HO_6, HO_9, HB⟩ := hcut
                cases kq with
                | zero => exact absurd HA.out (by simp [slotmeshlaw16_PlaneOthers.j1])
                | succ kj13 =>
                  have H := HA.out
                  clear HA
                  simp only [slotmeshlaw16_PlaneOthers.j1] at H
                  by_cases c25 : x57_13 = true
                  · subst c25
                    have H1 : (some false) = some r := by rw [if_pos rfl] at H; exact H
                    clear H
                    have H := H1
                    clear H1
                    obtain rfl := Option.some.inj H
                    go_wp2
                    repeat (go_quiet (fail); try go_wp2)
                    go_ret
                    exact ⟨by first | rfl | (simp [errW_none, errW_some] <;> rfl) | (simp only [← hji10]; first | rfl | (simp [errW_none, errW_some] <;> rfl)) | (simp [*, errW_none, errW_some] <;> rfl), by repeat (first | (with_reducible first | exact HB.out | apply below_alloc | apply pw_below_drewN | apply below_drew1) | exact HB.out)⟩
                  · replace c25 := Bool.eq_false_iff.mpr c25
                    subst c25
                    have H1 : (slotmeshlaw16_PlaneOthers.l0 kj13 t348 t349 ji10 t357 0) = some r := by rw [if_neg (show ¬ (false = true) by decide)] at H; exact H
                    clear H
                    have H := H1
                    clear H1
                    have H' := Aside0.mk H
                    clear H
                    go_wp2
                    repeat (go_quiet (fail); try go_wp2)
                    go_loopg [5, 11] kj13 (fun kq v5 v11 w' => ∃ (x5_3 : Bool) (x11_3 : Int), v5 = .bool x5_3 ∧ v11 = .int .i64 x11_3 ∧ Aside0 (slotmeshlaw16_PlaneOthers.l0 kq x5_3 t349 ji10 t357 x11_3 = some r) ∧ Aside0 (kq ≤ kj13) ∧ Aside0 (Kd.S (Kd.slice 4 Kd.bool) 36 w' w.heap.size (fun k_ => some k_ ≠ (v359 : Value).ownBlock) v351 t349) ∧ Aside0 (Kd.S (Kd.slice 4 Kd.bool) 36 w' w.heap.size (fun k_ => some k_ ≠ (v351 : Value).ownBlock) v359 t357) ∧ Aside0 (Below w.heap.size w w'))
                    case atStart => exact ⟨(t348), (0), (by first | rfl | (simp; done) | (simp [*]; done)), (by first | rfl | (simp; done) | (simp [*]; done)), H', ⟨Nat.le_refl _⟩, ⟨by (with_reducible repeat (first | apply Kd.S_alloc | apply Kd.S_drewN | apply Kd.S_drew)); exact HO_6.out⟩, ⟨by (with_reducible repeat (first | apply Kd.S_alloc | apply Kd.S_drewN | apply Kd.S_drew)); exact HO_9.out⟩, ⟨by repeat (first | (with_reducible first | exact HB.out | apply below_alloc | apply pw_below_drewN | apply below_drew1) | exact HB.out)⟩⟩
                    case round =>
                      clear H'
                      try clear c1
                      try clear q1
                      try clear c2
                      try clear p2
                      try clear c6
                      try clear c6b0
                      try clear c6b1
                      try clear p6
                      try clear c7
                      try clear c9
                      try clear c9b0
                      try clear c9b1
                      try clear c10
                      try clear c11
                      try clear c11b0
                      try clear c11b1
                      try clear c12
                      try clear c12b0
                      try clear c12b1
                      try clear q16
                      try clear c18
                      try clear c18b0
                      try clear c18b1
                      try clear c20
                      try clear c25
                      try clear p2
                      try clear p6
                      try clear q1
                      try clear q16
                      obtain ⟨x5_3, x11_3, rfl, rfl, HA, HK3, HO_6, HO_9, HB⟩ := hrel
                      cases gk with
                      | zero => exact absurd HA.out (by simp [slotmeshlaw16_PlaneOthers.l0])
                      | succ k3 =>
                        have H := HA.out
                        clear HA
                        simp only [slotmeshlaw16_PlaneOthers.l0] at H
                        by_cases c26 : x11_3 < ji10
                        · rw [if_pos c26] at H
                          have c26b0 : decide (x11_3 < ji10) = true := decide_eq_true c26
                          clear c26
                          have H' := Aside0.mk H
                          clear H
                          go_wp2
                          repeat (go_quiet (fail); try go_wp2)
                          go_loopg [5, 12] k3 (fun kq v5 v12 w' => ∃ (x5_4 : Bool) (x12_4 : Int), v5 = .bool x5_4 ∧ v12 = .int .i64 x12_4 ∧ Aside0 (slotmeshlaw16_PlaneOthers.l1 kq x5_4 t349 ji10 t357 x11_3 x12_4 = some r) ∧ Aside0 (kq ≤ k3) ∧ Aside0 (Kd.S (Kd.slice 4 Kd.bool) 36 w' w.heap.size (fun k_ => some k_ ≠ (v359 : Value).ownBlock) v351 t349) ∧ Aside0 (Kd.S (Kd.slice 4 Kd.bool) 36 w' w.heap.size (fun k_ => some k_ ≠ (v351 : Value).ownBlock) v359 t357) ∧ Aside0 (Below w.heap.size w w'))
                          case atStart => exact ⟨(x5_3), (0), (by first | rfl | (simp; done) | (simp [*]; done)), (by first | rfl | (simp; done) | (simp [*]; done)), H', ⟨Nat.le_refl _⟩, ⟨by (with_reducible repeat (first | apply Kd.S_alloc | apply Kd.S_drewN | apply Kd.S_drew)); exact HO_6.out⟩, ⟨by (with_reducible repeat (first | apply Kd.S_alloc | apply Kd.S_drewN | apply Kd.S_drew)); exact HO_9.out⟩, ⟨by repeat (first | (with_reducible first | exact HB.out | apply below_alloc | apply pw_below_drewN | apply below_drew1) | exact HB.out)⟩⟩
                          case round =>
                            clear H'
                            try clear c1
                            try clear q1
                            try clear c2
                            try clear p2
                            try clear c6
                            try clear c6b0
                            try clear c6b1
                            try clear p6
                            try clear c7
                            try clear c9
                            try clear c9b0
                            try clear c9b1
                            try clear c10
                            try clear c11
                            try clear c11b0
                            try clear c11b1
                            try clear c12
                            try clear c12b0
                            try clear c12b1
                            try clear q16
                            try clear c18
                            try clear c18b0
                            try clear c18b1
                            try clear c20
                            try clear c25
                            try clear c26
                            try clear c26b0
                            try clear p2
                            try clear p6
                            try clear q1
                            try clear q16
                            obtain ⟨x5_4, x12_4, rfl, rfl, HA, HK4, HO_6, HO_9, HB⟩ := hrel
                            cases gk with
                            | zero => exact absurd HA.out (by simp [slotmeshlaw16_PlaneOthers.l1])
                            | succ k4 =>
                              have H := HA.out
                              clear HA
                              simp only [slotmeshlaw16_PlaneOthers.l1] at H
                              by_cases c27 : x12_4 < ji10
                              · rw [if_pos c27] at H
                                have c27b0 : decide (x12_4 < ji10) = true := decide_eq_true c27
                                clear c27
                                by_cases c28 : x5_4 = true
                                · subst c28
                                  have H1 : (if 0 ≤ x11_3 then (if x11_3 < (t349.length : Int) then (if 0 ≤ x12_4 then (if x12_4 < ((rd_L3 t349 x11_3).length : Int) then (if x11_3 < (t357.length : Int) then (if x12_4 < ((rd_L3 t357 x11_3).length : Int) then (slotmeshlaw16_PlaneOthers.l1 k4 ((rdOf false (rd_L3 t349 x11_3) x12_4) == (rdOf false (rd_L3 t357 x11_3) x12_4)) t349 ji10 t357 x11_3 (wrap64 (x12_4 + 1))) else (none)) else (none)) else (none)) else (none)) else (none)) else (none)) = some r := by rw [if_pos rfl] at H; exact H
                                  clear H
                                  have H := H1
                                  clear H1
                                  by_cases c29 : 0 ≤ x11_3
                                  · rw [if_pos c29] at H
                                    have c29b0 : decide (0 ≤ x11_3) = true := decide_eq_true c29
                                    clear c29
                                    by_cases c30 : x11_3 < (t349.length : Int)
                                    · rw [if_pos c30] at H
                                      have c30b0 : decide (x11_3 < (t349.length : Int)) = true := decide_eq_true c30
                                      clear c30
                                      by_cases c31 : 0 ≤ x12_4
                                      · rw [if_pos c31] at H
                                        have c31b0 : decide (0 ≤ x12_4) = true := decide_eq_true c31
                                        clear c31
                                        by_cases c32 : x12_4 < ((rd_L3 t349 x11_3).length : Int)
                                        · rw [if_pos c32] at H
                                          have c32b0 : decide (x12_4 < ((rd_L3 t349 x11_3).length : Int)) = true := decide_eq_true c32
                                          clear c32
                                          by_cases c33 : x11_3 < (t357.length : Int)
                                          · rw [if_pos c33] at H
                                            have c33b0 : decide (x11_3 < (t357.length : Int)) = true := decide_eq_true c33
                                            clear c33
                                            by_cases c34 : x12_4 < ((rd_L3 t357 x11_3).length : Int)
                                            · rw [if_pos c34] at H
                                              have c34b0 : decide (x12_4 < ((rd_L3 t357 x11_3).length : Int)) = true := decide_eq_true c34
                                              clear c34
                                              have H' := Aside0.mk H
                                              clear H
                                              obtain ⟨Ao35, co35, eo35⟩ := Kd.S_slice HO_6.out
                                              subst eo35
                                              have p363 : 0 ≤ (x11_3 : Int) := of_decide_eq_true (by first | (with_reducible assumption) | assumption)
                                              have q363 : x11_3 < (t349.length : Int) := of_decide_eq_true (by first | (with_reducible assumption) | assumption)
                                              obtain ⟨ad363, A363_0, c363_0, e363, hx363_0, hl363_0, hi363_0⟩ := at_L3 (Kd.S_reads' HO_6.out).2.2 x11_3 p363 q363
                                              cases e363
                                              obtain ⟨ce363, hce363, hMe363, hcc363⟩ := Kd.S_get HO_6.out [] x11_3 p363 (by first | exact q363 | exact of_decide_eq_true (by first | (with_reducible assumption) | assumption) | (have e_ := (Kd.S_reads' HO_6.out).1; omega))
                                              obtain ⟨ve363_0, rfl, ge363_0⟩ := hMe363
                                              have hv363_0 := hcc363 0 _ rfl
                                              rw [Nat.add_zero, show ((Kd.slice 4 Kd.bool)).sz = 1 from rfl, Nat.mul_one] at hv363_0
                                              replace hv363_0 := Option.some.inj (hv363_0.symm.trans hx363_0)
                                              rw [hv363_0] at ge363_0
                                              have HL363_0 := Aside0.mk (show Kd.R Kd.bool 4 _ _ _ _ (rd_L3 t349 x11_3) from ge363_0)
                                              clear hv363_0 ge363_0
                                              clear hcc363 hce363
                                              have HR363_0 := Aside0.mk hi363_0
                                              have HC363_0 := Aside0.mk hl363_0
                                              clear hi363_0 hl363_0
                                              replace p363 := eq_true p363
                                              replace q363 := eq_true q363
                                              have p364 : 0 ≤ (x12_4 : Int) := of_decide_eq_true (by first | (with_reducible assumption) | assumption)
                                              have q364 : x12_4 < ((rd_L3 t349 x11_3).length : Int) := of_decide_eq_true (by first | (with_reducible assumption) | assumption)
                                              obtain ⟨ad364, e364, hx364_0⟩ := Kd.at_bool (by repeat (first | (with_reducible exact HR363_0.out) | (with_reducible refine Kd.C_alloc ?_ _) | (with_reducible refine Kd.C_drewN ?_ _) | (with_reducible refine Kd.C_drew ?_) | exact HR363_0.out)) x12_4 p364 q364
                                              cases e364
                                              replace p364 := eq_true p364
                                              replace q364 := eq_true q364
                                              obtain ⟨Ao36, co36, eo36⟩ := Kd.S_slice HO_9.out
                                              subst eo36
                                              have p365 : 0 ≤ (x11_3 : Int) := of_decide_eq_true (by first | (with_reducible assumption) | assumption)
                                              have q365 : x11_3 < (t357.length : Int) := of_decide_eq_true (by first | (with_reducible assumption) | assumption)
                                              obtain ⟨ad365, A365_0, c365_0, e365, hx365_0, hl365_0, hi365_0⟩ := at_L3 (Kd.S_reads' HO_9.out).2.2 x11_3 p365 q365
                                              cases e365
                                              obtain ⟨ce365, hce365, hMe365, hcc365⟩ := Kd.S_get HO_9.out [] x11_3 p365 (by first | exact q365 | exact of_decide_eq_true (by first | (with_reducible assumption) | assumption) | (have e_ := (Kd.S_reads' HO_9.out).1; omega))
                                              obtain ⟨ve365_0, rfl, ge365_0⟩ := hMe365
                                              have hv365_0 := hcc365 0 _ rfl
                                              rw [Nat.add_zero, show ((Kd.slice 4 Kd.bool)).sz = 1 from rfl, Nat.mul_one] at hv365_0
                                              replace hv365_0 := Option.some.inj (hv365_0.symm.trans hx365_0)
                                              rw [hv365_0] at ge365_0
                                              have HL365_0 := Aside0.mk (show Kd.R Kd.bool 4 _ _ _ _ (rd_L3 t357 x11_3) from ge365_0)
                                              clear hv365_0 ge365_0
                                              clear hcc365 hce365
                                              have HR365_0 := Aside0.mk hi365_0
                                              have HC365_0 := Aside0.mk hl365_0
                                              clear hi365_0 hl365_0
                                              replace p365 := eq_true p365
                                              replace q365 := eq_true q365
                                              have p366 : 0 ≤ (x12_4 : Int) := of_decide_eq_true (by first | (with_reducible assumption) | assumption)
                                              have q366 : x12_4 < ((rd_L3 t357 x11_3).length : Int) := of_decide_eq_true (by first | (with_reducible assumption) | assumption)
                                              obtain ⟨ad366, e366, hx366_0⟩ := Kd.at_bool (by repeat (first | (with_reducible exact HR365_0.out) | (with_reducible refine Kd.C_alloc ?_ _) | (with_reducible refine Kd.C_drewN ?_ _) | (with_reducible refine Kd.C_drew ?_) | exact HR365_0.out)) x12_4 p366 q366
                                              cases e366
                                              replace p366 := eq_true p366
                                              replace q366 := eq_true q366
                                              go_wp2
                                              repeat (go_quiet (fail); try go_wp2)
                                              go_roundg k4
                                              case measure => have := HJ3.out; have := HJ13.out; have := HK3.out; have := HK4.out; omega
                                              case rel => exact ⟨(((rdOf false (rd_L3 t349 x11_3) x12_4) == (rdOf false (rd_L3 t357 x11_3) x12_4))), (wrap64 (x12_4 + 1)), (by first | rfl | (simp; done) | (simp [*]; done)), (by first | rfl | (simp; done) | (simp [*]; done)), H', ⟨by have := HJ3.out; have := HJ13.out; have := HK3.out; have := HK4.out; omega⟩, ⟨by (with_reducible repeat (first | apply Kd.S_alloc | apply Kd.S_drewN | apply Kd.S_drew)); exact HO_6.out⟩, ⟨by (with_reducible repeat (first | apply Kd.S_alloc | apply Kd.S_drewN | apply Kd.S_drew)); exact HO_9.out⟩, ⟨by repeat (first | (with_reducible first | exact HB.out | apply below_alloc | apply pw_below_drewN | apply below_drew1) | exact HB.out)⟩⟩
                                            · rw [if_neg c34] at H
                                              exact absurd H (by simp)
                                          · rw [if_neg c33] at H
                                            exact absurd H (by simp)
                                        · rw [if_neg c32] at H
                                          exact absurd H (by simp)
                                      · rw [if_neg c31] at H
                                        exact absurd H (by simp)
                                    · rw [if_neg c30] at H
                                      exact absurd H (by simp)
                                  · rw [if_neg c29] at H
                                    exact absurd H (by simp)
                                · replace c28 := Bool.eq_false_iff.mpr c28
                                  subst c28
                                  have H1 : (slotmeshlaw16_PlaneOthers.l1 k4 false t349 ji10 t357 x11_3 (wrap64 (x12_4 + 1))) = some r := by rw [if_neg (show ¬ (false = true) by decide)] at H; exact H
                                  clear H
                                  have H := H1
                                  clear H1
                                  have H' := Aside0.mk H
                                  clear H
                                  go_wp2
                                  repeat (go_quiet (fail); try go_wp2)
                                  go_roundg k4
                                  case measure => have := HJ3.out; have := HJ13.out; have := HK3.out; have := HK4.out; omega
                                  case rel => exact ⟨(false), (wrap64 (x12_4 + 1)), (by first | rfl | (simp; done) | (simp [*]; done)), (by first | rfl | (simp; done) | (simp [*]; done)), H', ⟨by have := HJ3.out; have := HJ13.out; have := HK3.out; have := HK4.out; omega⟩, ⟨by (with_reducible repeat (first | apply Kd.S_alloc | apply Kd.S_drewN | apply Kd.S_drew)); exact HO_6.out⟩, ⟨by (with_reducible repeat (first | apply Kd.S_alloc | apply Kd.S_drewN | apply Kd.S_drew)); exact HO_9.out⟩, ⟨by repeat (first | (with_reducible first | exact HB.out | apply below_alloc | apply pw_below_drewN | apply below_drew1) | exact HB.out)⟩⟩
                              · rw [if_neg c27] at H
                                have c27b0 : decide (x12_4 < ji10) = false := decide_eq_false c27
                                clear c27
                                have H' := Aside0.mk H
                                clear H
                                go_wp2
                                repeat (go_quiet (fail); try go_wp2)
                                go_roundg k4
                                case measure => have := HJ3.out; have := HJ13.out; have := HK3.out; have := HK4.out; omega
                                case rel => exact ⟨(x5_4), (wrap64 (x11_3 + 1)), (by first | rfl | (simp; done) | (simp [*]; done)), (by first | rfl | (simp; done) | (simp [*]; done)), H', ⟨by have := HJ3.out; have := HJ13.out; have := HK3.out; have := HK4.out; omega⟩, ⟨by (with_reducible repeat (first | apply Kd.S_alloc | apply Kd.S_drewN | apply Kd.S_drew)); exact HO_6.out⟩, ⟨by (with_reducible repeat (first | apply Kd.S_alloc | apply Kd.S_drewN | apply Kd.S_drew)); exact HO_9.out⟩, ⟨by repeat (first | (with_reducible first | exact HB.out | apply below_alloc | apply pw_below_drewN | apply below_drew1) | exact HB.out)⟩⟩
                        · rw [if_neg c26] at H
                          have c26b0 : decide (x11_3 < ji10) = false := decide_eq_false c26
                          clear c26
                          obtain rfl := Option.some.inj H
                          go_wp2
                          repeat (go_quiet (fail); try go_wp2)
                          go_ret
                          exact ⟨by first | rfl | (simp [errW_none, errW_some] <;> rfl) | (simp only [← hji10]; first | rfl | (simp [errW_none, errW_some] <;> rfl)) | (simp [*, errW_none, errW_some] <;> rfl), by repeat (first | (with_reducible first | exact HB.out | apply below_alloc | apply pw_below_drewN | apply below_drew1) | exact HB.out)⟩
            · rw [if_neg c12] at H
              exact absurd H (by simp)
          · rw [if_neg c11] at H
            exact absurd H (by simp)
        · rw [if_neg c9] at H
          have c9b0 : (t350 == 0) = false := beq_eq_false_iff_ne.mpr c9
          have c9b1 : (t350 != 0) = true := bne_iff_ne.mpr c9
          obtain rfl := Option.some.inj H
          go_wp2_with (first | (go_at_call 18; (with_reducible refine (plane_Hears.calls kj3 _ _ l0 a1 t349 t350 _ ?side1 ?side2 A8.out).mono ?_); (case side1 => repeat (first | exact (Kd.C_below HR0.out HB.out) | (with_reducible refine Kd.C_alloc ?_ _) | (with_reducible refine Kd.C_drewN ?_ _) | (with_reducible refine Kd.C_drew ?_))); (case side2 => exact HC0.out); rintro e w37 ⟨v351, rfl, ho0, hb⟩; have n0_ := Aside0.mk (Kd.S_lower ho0 (below_size (by repeat (first | (with_reducible first | exact HB.out | apply below_alloc | apply pw_below_drewN | apply below_drew1) | exact HB.out)))); have n1_ := Aside0.mk (below_step (by repeat (first | (with_reducible first | exact HB.out | apply below_alloc | apply pw_below_drewN | apply below_drew1) | exact HB.out)) hb); clear HB; have HO352 := n0_; have HB := n1_; clear n0_ n1_; (try clear hb); (try clear hb2); (try clear hk); (try clear hi); (try clear ho0)))
          repeat (go_quiet (first | (go_at_call 18; (with_reducible refine (plane_Hears.calls kj3 _ _ l0 a1 t349 t350 _ ?side1 ?side2 A8.out).mono ?_); (case side1 => repeat (first | exact (Kd.C_below HR0.out HB.out) | (with_reducible refine Kd.C_alloc ?_ _) | (with_reducible refine Kd.C_drewN ?_ _) | (with_reducible refine Kd.C_drew ?_))); (case side2 => exact HC0.out); rintro e w37 ⟨v351, rfl, ho0, hb⟩; have n0_ := Aside0.mk (Kd.S_lower ho0 (below_size (by repeat (first | (with_reducible first | exact HB.out | apply below_alloc | apply pw_below_drewN | apply below_drew1) | exact HB.out)))); have n1_ := Aside0.mk (below_step (by repeat (first | (with_reducible first | exact HB.out | apply below_alloc | apply pw_below_drewN | apply below_drew1) | exact HB.out)) hb); clear HB; have HO352 := n0_; have HB := n1_; clear n0_ n1_; (try clear hb); (try clear hb2); (try clear hk); (try clear hi); (try clear ho0))); try go_wp2_with (first | (go_at_call 18; (with_reducible refine (plane_Hears.calls kj3 _ _ l0 a1 t349 t350 _ ?side1 ?side2 A8.out).mono ?_); (case side1 => repeat (first | exact (Kd.C_below HR0.out HB.out) | (with_reducible refine Kd.C_alloc ?_ _) | (with_reducible refine Kd.C_drewN ?_ _) | (with_reducible refine Kd.C_drew ?_))); (case side2 => exact HC0.out); rintro e w37 ⟨v351, rfl, ho0, hb⟩; have n0_ := Aside0.mk (Kd.S_lower ho0 (below_size (by repeat (first | (with_reducible first | exact HB.out | apply below_alloc | apply pw_below_drewN | apply below_drew1) | exact HB.out)))); have n1_ := Aside0.mk (below_step (by repeat (first | (with_reducible first | exact HB.out | apply below_alloc | apply pw_below_drewN | apply below_drew1) | exact HB.out)) hb); clear HB; have HO352 := n0_; have HB := n1_; clear n0_ n1_; (try clear hb); (try clear hb2); (try clear hk); (try clear hi); (try clear ho0))))
          go_ret
          exact ⟨by first | rfl | (simp [errW_none, errW_some] <;> rfl) | (simp [*, errW_none, errW_some] <;> rfl), by repeat (first | (with_reducible first | exact HB.out | apply below_alloc | apply pw_below_drewN | apply below_drew1) | exact HB.out)⟩
end Go.Proofs.Ytcgbfkplhlngjaa.PA
