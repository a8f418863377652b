/- What slotmeshlaw17_MediumOrder (function 7) computes, as a Lean function, and that its call comes to just that; made by a program of this session in the manner of the print. -/
import Derived.Test.YtcgbfkplhlngjaaT0
import Derived.Test.YtcgbfkplhlngjaaCat
import Derived.Test.YtcgbfkplhlngjaaF28
import Derived.Test.YtcgbfkplhlngjaaHd17
namespace Go.Proofs.Ytcgbfkplhlngjaa.PA
open Go.RowKit Go.Proofs.YtcgbfkplhlngjaaW.PrintWords Go.Proofs.YtcgbfkplhlngjaaW.PrintLast Go.Proofs.YtcgbfkplhlngjaaW.PrintMore
attribute [local go_sem] max2_int min2_int max_two min_two max_three min_three max_four min_four   -- for this text's walks alone
set_option linter.unusedVariables false
set_option linter.unusedSimpArgs false

/-! ### slotmeshlaw17_MediumOrder: function 7 -/
mutual
def slotmeshlaw17_MediumOrder.j0 : Nat → List (S50) → List (S25) → Int → List (S42) → Int → Int → Bool → Int → Bool → Option (Bool)
  | 0, _, _, _, _, _, _, _, _, _ => none
  | k + 1, x0, x1, x2, x3, x4, x5, x13, x14, x37 => if x37 = true then (some x13) else (if x14 = 0 then (none) else ((some (([] : List (S50)) : List (S50))).bind fun y270 => (if 0 ≤ (Int.tmod (wrap64 (x5)) x14) then (if (Int.tmod (wrap64 (x5)) x14) ≤ (x0.length : Int) then ((some (x0.drop ((Int.tmod (wrap64 (x5)) x14) : Int).toNat : List (S50))).bind fun y273 => (if y270.length + y273.length < 3518437208883 then ((some (y270 ++ y273 : List (S50))).bind fun y277 => ((some (x0.take ((Int.tmod (wrap64 (x5)) x14) : Int).toNat : List (S50))).bind fun y280 => (if y277.length + y280.length < 3518437208883 then ((some (([] : List (S25)) : List (S25))).bind fun y287 => (if (Int.tmod (wrap64 (x5)) x14) ≤ (x1.length : Int) then ((some (x1.drop ((Int.tmod (wrap64 (x5)) x14) : Int).toNat : List (S25))).bind fun y290 => (if y287.length + y290.length < 8796093022208 then ((some (y287 ++ y290 : List (S25))).bind fun y294 => ((some (x1.take ((Int.tmod (wrap64 (x5)) x14) : Int).toNat : List (S25))).bind fun y297 => (if y294.length + y297.length < 8796093022208 then ((medium_Catch.f k x0 x1 x2 x3 x4).bind fun bt304 => ((medium_Catch.f k (y277 ++ y280) (y294 ++ y297) x2 x3 x4).bind fun bt308 => (if bt304.2 = 0 then (if bt308.2 = 0 then (if (bt304.1.length : Int) = x14 then (slotmeshlaw17_MediumOrder.j1 k x13 x14 (Int.tmod (wrap64 (x5)) x14) bt304.1 bt308.1 ((bt308.1.length : Int) != x14)) else (slotmeshlaw17_MediumOrder.j1 k x13 x14 (Int.tmod (wrap64 (x5)) x14) bt304.1 bt308.1 true)) else (slotmeshlaw17_MediumOrder.j1 k x13 x14 (Int.tmod (wrap64 (x5)) x14) bt304.1 bt308.1 true)) else (slotmeshlaw17_MediumOrder.j1 k x13 x14 (Int.tmod (wrap64 (x5)) x14) bt304.1 bt308.1 true)))) else (none)))) else (none))) else (none))) else (none)))) else (none))) else (none)) else (none))))
def slotmeshlaw17_MediumOrder.j1 : Nat → Bool → Int → Int → List Int → List Int → Bool → Option (Bool)
  | 0, _, _, _, _, _, _ => none
  | k + 1, x13, x14, x15, x18, x20, x96 => if x96 = true then (some false) else (slotmeshlaw17_MediumOrder.l0 k x13 x14 x15 x18 x20 x14 0)
def slotmeshlaw17_MediumOrder.l0 : Nat → Bool → Int → Int → List Int → List Int → Int → Int → Option (Bool)
  | 0, _, _, _, _, _, _, _ => none
  | k + 1, x13, x14, x15, x18, x20, x97, x98 => if x98 < x97 then (if 0 ≤ x98 then (if x98 < (x18.length : Int) then (if (rd x18 x98) ≥ 0 then (if x14 = 0 then (none) else (if 0 ≤ (Int.tmod (wrap64 ((wrap64 (x98 - x15)) + x14)) x14) then (if (Int.tmod (wrap64 ((wrap64 (x98 - x15)) + x14)) x14) < (x20.length : Int) then (if (rd x20 (Int.tmod (wrap64 ((wrap64 (x98 - x15)) + x14)) x14)) = (Int.tmod (wrap64 ((wrap64 ((rd x18 x98) - x15)) + x14)) x14) then (slotmeshlaw17_MediumOrder.l0 k x13 x14 x15 x18 x20 x97 (wrap64 (x98 + 1))) else (some false)) else (none)) else (none))) else (if x14 = 0 then (none) else (if 0 ≤ (Int.tmod (wrap64 ((wrap64 (x98 - x15)) + x14)) x14) then (if (Int.tmod (wrap64 ((wrap64 (x98 - x15)) + x14)) x14) < (x20.length : Int) then (if (rd x20 (Int.tmod (wrap64 ((wrap64 (x98 - x15)) + x14)) x14)) = (rd x18 x98) then (slotmeshlaw17_MediumOrder.l0 k x13 x14 x15 x18 x20 x97 (wrap64 (x98 + 1))) else (some false)) else (none)) else (none)))) else (none)) else (none)) else (some x13)
end
def slotmeshlaw17_MediumOrder.f (k : Nat) (l0 : List (S50)) (l1 : List (S25)) (a2 : Int) (l3 : List (S42)) (a4 : Int) (a5 : Int) : Option (Bool) := (slotmeshlaw17_head.f).bind fun t268 => ((slotmeshlaw17_valid.f k l0 l1 a2 l3 a4).bind fun t269 => (if t269 = true then (slotmeshlaw17_MediumOrder.j0 k l0 l1 a2 l3 a4 a5 t268 (l0.length : Int) ((l0.length : Int) == 0)) else (slotmeshlaw17_MediumOrder.j0 k l0 l1 a2 l3 a4 a5 t268 (l0.length : Int) true)))
theorem slotmeshlaw17_MediumOrder.mono_l : ∀ k, (∀ y0 y1 y2 y3 y4 y5 y6 y7 y8, LeO (slotmeshlaw17_MediumOrder.j0 k y0 y1 y2 y3 y4 y5 y6 y7 y8) (slotmeshlaw17_MediumOrder.j0 (k + 1) y0 y1 y2 y3 y4 y5 y6 y7 y8)) ∧ (∀ y0 y1 y2 y3 y4 y5, LeO (slotmeshlaw17_MediumOrder.j1 k y0 y1 y2 y3 y4 y5) (slotmeshlaw17_MediumOrder.j1 (k + 1) y0 y1 y2 y3 y4 y5)) ∧ (∀ y0 y1 y2 y3 y4 y5 y6, LeO (slotmeshlaw17_MediumOrder.l0 k y0 y1 y2 y3 y4 y5 y6) (slotmeshlaw17_MediumOrder.l0 (k + 1) y0 y1 y2 y3 y4 y5 y6))
  | 0 => ⟨fun _ _ _ _ _ _ _ _ _ r h => by simp [slotmeshlaw17_MediumOrder.j0] at h, fun _ _ _ _ _ _ r h => by simp [slotmeshlaw17_MediumOrder.j1] at h, fun _ _ _ _ _ _ _ r h => by simp [slotmeshlaw17_MediumOrder.l0] at h⟩
  | k + 1 => by
    obtain ⟨ih0, ih1, ih2⟩ := slotmeshlaw17_MediumOrder.mono_l k
    refine ⟨?_, ?_, ?_⟩
    · intro y0 y1 y2 y3 y4 y5 y6 y7 y8
      unfold slotmeshlaw17_MediumOrder.j0
      repeat' first
      | (with_reducible exact ih0 _ _ _ _ _ _ _ _ _)
      | (with_reducible exact ih1 _ _ _ _ _ _)
      | (with_reducible exact ih2 _ _ _ _ _ _ _)
      | (with_reducible exact medium_Catch.mono _ _ _ _ _ _)
      | (with_reducible exact slotmeshlaw17_valid.mono _ _ _ _ _ _)
      | (with_reducible exact LeO.refl _)
      | (with_reducible exact LeO.none _)
      | (with_reducible refine LeO.ite ?_ ?_)
      | (with_reducible refine LeO.bind ?_ (fun _ => ?_))
      | exact ih0 _ _ _ _ _ _ _ _ _
      | exact ih1 _ _ _ _ _ _
      | exact ih2 _ _ _ _ _ _ _
      | exact medium_Catch.mono _ _ _ _ _ _
      | exact slotmeshlaw17_valid.mono _ _ _ _ _ _
      | exact LeO.none _
      | refine LeO.ite ?_ ?_
      | refine LeO.bind ?_ (fun _ => ?_)
    · intro y0 y1 y2 y3 y4 y5
      unfold slotmeshlaw17_MediumOrder.j1
      repeat' first
      | (with_reducible exact ih0 _ _ _ _ _ _ _ _ _)
      | (with_reducible exact ih1 _ _ _ _ _ _)
      | (with_reducible exact ih2 _ _ _ _ _ _ _)
      | (with_reducible exact medium_Catch.mono _ _ _ _ _ _)
      | (with_reducible exact slotmeshlaw17_valid.mono _ _ _ _ _ _)
      | (with_reducible exact LeO.refl _)
      | (with_reducible exact LeO.none _)
      | (with_reducible refine LeO.ite ?_ ?_)
      | (with_reducible refine LeO.bind ?_ (fun _ => ?_))
      | exact ih0 _ _ _ _ _ _ _ _ _
      | exact ih1 _ _ _ _ _ _
      | exact ih2 _ _ _ _ _ _ _
      | exact medium_Catch.mono _ _ _ _ _ _
      | exact slotmeshlaw17_valid.mono _ _ _ _ _ _
      | exact LeO.none _
      | refine LeO.ite ?_ ?_
      | refine LeO.bind ?_ (fun _ => ?_)
    · intro y0 y1 y2 y3 y4 y5 y6
      unfold slotmeshlaw17_MediumOrder.l0
      repeat' first
      | (with_reducible exact ih0 _ _ _ _ _ _ _ _ _)
      | (with_reducible exact ih1 _ _ _ _ _ _)
      | (with_reducible exact ih2 _ _ _ _ _ _ _)
      | (with_reducible exact medium_Catch.mono _ _ _ _ _ _)
      | (with_reducible exact slotmeshlaw17_valid.mono _ _ _ _ _ _)
      | (with_reducible exact LeO.refl _)
      | (with_reducible exact LeO.none _)
      | (with_reducible refine LeO.ite ?_ ?_)
      | (with_reducible refine LeO.bind ?_ (fun _ => ?_))
      | exact ih0 _ _ _ _ _ _ _ _ _
      | exact ih1 _ _ _ _ _ _
      | exact ih2 _ _ _ _ _ _ _
      | exact medium_Catch.mono _ _ _ _ _ _
      | exact slotmeshlaw17_valid.mono _ _ _ _ _ _
      | exact LeO.none _
      | refine LeO.ite ?_ ?_
      | refine LeO.bind ?_ (fun _ => ?_)
theorem slotmeshlaw17_MediumOrder.mono : ∀ a0 a1 a2 a3 a4 a5 k, LeO (slotmeshlaw17_MediumOrder.f k a0 a1 a2 a3 a4 a5) (slotmeshlaw17_MediumOrder.f (k + 1) a0 a1 a2 a3 a4 a5) := by
  intro a0 a1 a2 a3 a4 a5 k
  obtain ⟨ih0, ih1, ih2⟩ := slotmeshlaw17_MediumOrder.mono_l k
  unfold slotmeshlaw17_MediumOrder.f
  repeat' first
      | (with_reducible exact ih0 _ _ _ _ _ _ _ _ _)
      | (with_reducible exact ih1 _ _ _ _ _ _)
      | (with_reducible exact ih2 _ _ _ _ _ _ _)
      | (with_reducible exact medium_Catch.mono _ _ _ _ _ _)
      | (with_reducible exact slotmeshlaw17_valid.mono _ _ _ _ _ _)
      | (with_reducible exact LeO.refl _)
      | (with_reducible exact LeO.none _)
      | (with_reducible refine LeO.ite ?_ ?_)
      | (with_reducible refine LeO.bind ?_ (fun _ => ?_))
      | exact ih0 _ _ _ _ _ _ _ _ _
      | exact ih1 _ _ _ _ _ _
      | exact ih2 _ _ _ _ _ _ _
      | exact medium_Catch.mono _ _ _ _ _ _
      | exact slotmeshlaw17_valid.mono _ _ _ _ _ _
      | exact LeO.none _
      | refine LeO.ite ?_ ?_
      | refine LeO.bind ?_ (fun _ => ?_)
def slotmeshlaw17_MediumOrder.T6 : Bool × List (List Nat × List Nat) := (true, [([], []), ([], []), ([], []), ([1, 2], [1, 2]), ([0, 3], [0, 3]), ([], []), ([], []), ([5, 6], [5, 6]), ([4, 7, 4], [4, 7]), ([8, 8, 0, 1, 2, 3, 4, 5, 6, 7, 8], [8])])
def slotmeshlaw17_MediumOrder.B6 : List Nat := [0, 0, 0, 6, 15, 0, 0, 96, 255, 511]
theorem slotmeshlaw17_MediumOrder.tab6 : rtab .any (opsOf Try.f7 6) = slotmeshlaw17_MediumOrder.T6 := by kernel_rfl
theorem slotmeshlaw17_MediumOrder.bits6 : waitsOk slotmeshlaw17_MediumOrder.T6.2 slotmeshlaw17_MediumOrder.B6 = true := by kernel_rfl
def slotmeshlaw17_MediumOrder.T7 : Bool × List (List Nat × List Nat) := (true, [([], []), ([], []), ([], []), ([1, 2], [1, 2]), ([0, 3], [0, 3]), ([], []), ([], []), ([5, 6], [5, 6]), ([4, 7, 4], [4, 7]), ([8, 8, 0, 1, 2, 3, 4, 5, 6, 7, 8], [8])])
def slotmeshlaw17_MediumOrder.B7 : List Nat := [0, 0, 0, 6, 15, 0, 0, 96, 255, 511]
theorem slotmeshlaw17_MediumOrder.tab7 : rtab .any (opsOf Try.f7 7) = slotmeshlaw17_MediumOrder.T7 := by kernel_rfl
theorem slotmeshlaw17_MediumOrder.bits7 : waitsOk slotmeshlaw17_MediumOrder.T7.2 slotmeshlaw17_MediumOrder.B7 = true := by kernel_rfl
set_option maxHeartbeats 8000000 in
set_option maxRecDepth 100000 in
theorem slotmeshlaw17_MediumOrder.calls (k : Nat) (A0 : Option Addr) (c0 : Nat) (l0 : List (S50)) (A1 : Option Addr) (c1 : Nat) (l1 : List (S25)) (a2 : Int) (A3 : Option Addr) (c3 : Nat) (l3 : List (S42)) (a4 : Int) (a5 : Int) (r : Bool) (w : World) (hr0 : Kd.C k50 w A0 l0.length l0) (hc0 : l0.length ≤ c0) (hr1 : Kd.C k25 w A1 l1.length l1) (hc1 : l1.length ≤ c1) (hr3 : Kd.C k42 w A3 l3.length l3) (hc3 : l3.length ≤ c3) (h : slotmeshlaw17_MediumOrder.f k l0 l1 a2 l3 a4 a5 = some r) :
    Calls Try.prog 7 #[.slice A0 l0.length c0, .slice A1 l1.length c1, .int .i64 a2, .slice A3 l3.length c3, .int .i64 a4, .int .u8 a5] w fun e w' => e = .returned (.bool r) ∧ Below w.heap.size w w' := by
  have HR0 := Aside0.mk hr0
  have HC0 := Aside0.mk hc0
  clear hr0 hc0
  have HR1 := Aside0.mk hr1
  have HC1 := Aside0.mk hc1
  clear hr1 hc1
  have HR3 := Aside0.mk hr3
  have HC3 := Aside0.mk hc3
  clear hr3 hc3
  have HB := Aside0.mk (Below.refl w.heap.size w)
  have H : ((slotmeshlaw17_head.f).bind fun t268 => ((slotmeshlaw17_valid.f k l0 l1 a2 l3 a4).bind fun t269 => (if t269 = true then (slotmeshlaw17_MediumOrder.j0 k l0 l1 a2 l3 a4 a5 t268 (l0.length : Int) ((l0.length : Int) == 0)) else (slotmeshlaw17_MediumOrder.j0 k l0 l1 a2 l3 a4 a5 t268 (l0.length : Int) true)))) = some r := h
  clear h
  replace H := Option.bind_eq_some_iff.mp H
  obtain ⟨t268, A70, H⟩ := H
  replace H : ((slotmeshlaw17_valid.f k l0 l1 a2 l3 a4).bind fun t269 => (if t269 = true then (slotmeshlaw17_MediumOrder.j0 k l0 l1 a2 l3 a4 a5 t268 (l0.length : Int) ((l0.length : Int) == 0)) else (slotmeshlaw17_MediumOrder.j0 k l0 l1 a2 l3 a4 a5 t268 (l0.length : Int) true))) = some r := H
  have A7 := Aside0.mk A70
  clear A70
  have HC8 := Aside0.mk H
  clear H
  go_enter Try.func7, Try.ntmps7
  go_upto_region 3 with (first | ((with_reducible refine gate_callee (f := 27) rfl ?_); refine goesL_ (some 24) rfl rfl Try.func27 (by kernel_rfl) rfl #[] rfl (by (try simp only [List.map_toArray, List.map_cons, List.map_nil]); first | done | rfl | (simp only [List.length_drop, List.length_take]; rfl)) ?_; (with_reducible refine (slotmeshlaw17_head.calls  t268 _ A7.out).mono ?_); rintro e w9 ⟨rfl, hb⟩; refine ⟨_, rfl, ?_⟩; have n0_ := Aside0.mk (below_step (by repeat (first | (with_reducible first | exact HB.out | apply below_alloc | apply pw_below_drewN | apply below_drew1) | exact HB.out)) hb); clear HB; have HB := n0_; clear n0_; (try clear hb); (try clear hb2); (try clear hk); (try clear hi)))
  (try simp only [Act.put, List.setIfInBounds_toArray, List.set_cons_zero, List.set_cons_succ])
  go_cut [37] (fun v37 wc => ∃ (kq : Nat) (x37_7 : Bool), v37 = .bool x37_7 ∧ Aside0 (slotmeshlaw17_MediumOrder.j0 kq l0 l1 a2 l3 a4 a5 t268 (l0.length : Int) x37_7 = some r) ∧ Aside0 (kq ≤ k) ∧ Aside0 (Below w.heap.size w wc))
  case first =>
    have H := HC8.out
    clear HC8
    replace H := Option.bind_eq_some_iff.mp H
    obtain ⟨t269, A100, H⟩ := H
    replace H : (if t269 = true then (slotmeshlaw17_MediumOrder.j0 k l0 l1 a2 l3 a4 a5 t268 (l0.length : Int) ((l0.length : Int) == 0)) else (slotmeshlaw17_MediumOrder.j0 k l0 l1 a2 l3 a4 a5 t268 (l0.length : Int) true)) = some r := H
    have A10 := Aside0.mk A100
    clear A100
    by_cases c11 : t269 = true
    · subst c11
      have H1 : (slotmeshlaw17_MediumOrder.j0 k l0 l1 a2 l3 a4 a5 t268 (l0.length : Int) ((l0.length : Int) == 0)) = some r := by rw [if_pos rfl] at H; exact H
      clear H
      have H := H1
      clear H1
      have H' := Aside0.mk H
      clear H
      go_wp2_with (first | ((with_reducible refine gate_callee (f := 28) rfl ?_); refine goesL_ (some 32) rfl rfl Try.func28 (by kernel_rfl) rfl #[.slice A0 l0.length c0, .slice A1 l1.length c1, .int .i64 a2, .slice A3 l3.length c3, .int .i64 a4] rfl (by (try simp only [List.map_toArray, List.map_cons, List.map_nil]); first | done | rfl | (simp only [List.length_drop, List.length_take]; rfl)) ?_; (with_reducible refine (slotmeshlaw17_valid.calls k _ _ l0 _ _ l1 a2 _ _ l3 a4 true _ ?side1 ?side2 ?side3 ?side4 ?side5 ?side6 A10.out).mono ?_); (case side1 => repeat (first | exact (Kd.C_below HR0.out HB.out) | (with_reducible refine Kd.C_alloc ?_ _) | (with_reducible refine Kd.C_drewN ?_ _) | (with_reducible refine Kd.C_drew ?_))); (case side2 => exact HC0.out); (case side3 => repeat (first | exact (Kd.C_below HR1.out HB.out) | (with_reducible refine Kd.C_alloc ?_ _) | (with_reducible refine Kd.C_drewN ?_ _) | (with_reducible refine Kd.C_drew ?_))); (case side4 => exact HC1.out); (case side5 => repeat (first | exact (Kd.C_below HR3.out HB.out) | (with_reducible refine Kd.C_alloc ?_ _) | (with_reducible refine Kd.C_drewN ?_ _) | (with_reducible refine Kd.C_drew ?_))); (case side6 => exact HC3.out); rintro e w12 ⟨rfl, hb⟩; refine ⟨_, rfl, ?_⟩; have n0_ := Aside0.mk (below_step (by repeat (first | (with_reducible first | exact HB.out | apply below_alloc | apply pw_below_drewN | apply below_drew1) | exact HB.out)) hb); clear HB; have HB := n0_; clear n0_; (try clear hb); (try clear hb2); (try clear hk); (try clear hi)))
      go_meet
      case rel => exact ⟨_, (((l0.length : Int) == 0)), (by first | rfl | (simp; done) | (simp [*]; done)), H', ⟨by first | omega | exact Nat.le_refl _⟩, ⟨by repeat (first | (with_reducible first | exact HB.out | apply below_alloc | apply pw_below_drewN | apply below_drew1) | exact HB.out)⟩⟩
    · replace c11 := Bool.eq_false_iff.mpr c11
      subst c11
      have H1 : (slotmeshlaw17_MediumOrder.j0 k l0 l1 a2 l3 a4 a5 t268 (l0.length : Int) true) = some r := by rw [if_neg (show ¬ (false = true) by decide)] at H; exact H
      clear H
      have H := H1
      clear H1
      have H' := Aside0.mk H
      clear H
      go_wp2_with (first | ((with_reducible refine gate_callee (f := 28) rfl ?_); refine goesL_ (some 32) rfl rfl Try.func28 (by kernel_rfl) rfl #[.slice A0 l0.length c0, .slice A1 l1.length c1, .int .i64 a2, .slice A3 l3.length c3, .int .i64 a4] rfl (by (try simp only [List.map_toArray, List.map_cons, List.map_nil]); first | done | rfl | (simp only [List.length_drop, List.length_take]; rfl)) ?_; (with_reducible refine (slotmeshlaw17_valid.calls k _ _ l0 _ _ l1 a2 _ _ l3 a4 false _ ?side1 ?side2 ?side3 ?side4 ?side5 ?side6 A10.out).mono ?_); (case side1 => repeat (first | exact (Kd.C_below HR0.out HB.out) | (with_reducible refine Kd.C_alloc ?_ _) | (with_reducible refine Kd.C_drewN ?_ _) | (with_reducible refine Kd.C_drew ?_))); (case side2 => exact HC0.out); (case side3 => repeat (first | exact (Kd.C_below HR1.out HB.out) | (with_reducible refine Kd.C_alloc ?_ _) | (with_reducible refine Kd.C_drewN ?_ _) | (with_reducible refine Kd.C_drew ?_))); (case side4 => exact HC1.out); (case side5 => repeat (first | exact (Kd.C_below HR3.out HB.out) | (with_reducible refine Kd.C_alloc ?_ _) | (with_reducible refine Kd.C_drewN ?_ _) | (with_reducible refine Kd.C_drew ?_))); (case side6 => exact HC3.out); rintro e w13 ⟨rfl, hb⟩; refine ⟨_, rfl, ?_⟩; have n0_ := Aside0.mk (below_step (by repeat (first | (with_reducible first | exact HB.out | apply below_alloc | apply pw_below_drewN | apply below_drew1) | exact HB.out)) hb); clear HB; have HB := n0_; clear n0_; (try clear hb); (try clear hb2); (try clear hk); (try clear hi)))
      go_meet
      case rel => exact ⟨_, (true), (by first | rfl | (simp; done) | (simp [*]; done)), H', ⟨by first | omega | exact Nat.le_refl _⟩, ⟨by repeat (first | (with_reducible first | exact HB.out | apply below_alloc | apply pw_below_drewN | apply below_drew1) | exact HB.out)⟩⟩
  case rest =>
    clear HC8
    try clear c1
    try clear c2
    try clear p2
    try clear c3
    try clear c7
    try clear c11
    obtain ⟨kq, x37_7, rfl, HA, HJ7, HB⟩ := hcut
    cases kq with
    | zero => exact absurd HA.out (by simp [slotmeshlaw17_MediumOrder.j0])
    | succ kj7 =>
      have H := HA.out
      clear HA
      simp only [slotmeshlaw17_MediumOrder.j0] at H
      by_cases c14 : x37_7 = true
      · subst c14
        have H1 : (some t268) = some r := by rw [if_pos rfl] at H; exact H
        clear H
        have H := H1
        clear H1
        obtain rfl := Option.some.inj H
        go_wp2
        go_ret
        exact ⟨by first | rfl | (simp [errW_none, errW_some] <;> rfl) | (simp [*, errW_none, errW_some] <;> rfl), by repeat (first | (with_reducible first | exact HB.out | apply below_alloc | apply pw_below_drewN | apply below_drew1) | exact HB.out)⟩
      · replace c14 := Bool.eq_false_iff.mpr c14
        subst c14
        have H1 : (if (l0.length : Int) = 0 then (none) else ((some (([] : List (S50)) : List (S50))).bind fun y270 => (if 0 ≤ (Int.tmod (wrap64 (a5)) (l0.length : Int)) then (if (Int.tmod (wrap64 (a5)) (l0.length : Int)) ≤ (l0.length : Int) then ((some (l0.drop ((Int.tmod (wrap64 (a5)) (l0.length : Int)) : Int).toNat : List (S50))).bind fun y273 => (if y270.length + y273.length < 3518437208883 then ((some (y270 ++ y273 : List (S50))).bind fun y277 => ((some (l0.take ((Int.tmod (wrap64 (a5)) (l0.length : Int)) : Int).toNat : List (S50))).bind fun y280 => (if y277.length + y280.length < 3518437208883 then ((some (([] : List (S25)) : List (S25))).bind fun y287 => (if (Int.tmod (wrap64 (a5)) (l0.length : Int)) ≤ (l1.length : Int) then ((some (l1.drop ((Int.tmod (wrap64 (a5)) (l0.length : Int)) : Int).toNat : List (S25))).bind fun y290 => (if y287.length + y290.length < 8796093022208 then ((some (y287 ++ y290 : List (S25))).bind fun y294 => ((some (l1.take ((Int.tmod (wrap64 (a5)) (l0.length : Int)) : Int).toNat : List (S25))).bind fun y297 => (if y294.length + y297.length < 8796093022208 then ((medium_Catch.f kj7 l0 l1 a2 l3 a4).bind fun bt304 => ((medium_Catch.f kj7 (y277 ++ y280) (y294 ++ y297) a2 l3 a4).bind fun bt308 => (if bt304.2 = 0 then (if bt308.2 = 0 then (if (bt304.1.length : Int) = (l0.length : Int) then (slotmeshlaw17_MediumOrder.j1 kj7 t268 (l0.length : Int) (Int.tmod (wrap64 (a5)) (l0.length : Int)) bt304.1 bt308.1 ((bt308.1.length : Int) != (l0.length : Int))) else (slotmeshlaw17_MediumOrder.j1 kj7 t268 (l0.length : Int) (Int.tmod (wrap64 (a5)) (l0.length : Int)) bt304.1 bt308.1 true)) else (slotmeshlaw17_MediumOrder.j1 kj7 t268 (l0.length : Int) (Int.tmod (wrap64 (a5)) (l0.length : Int)) bt304.1 bt308.1 true)) else (slotmeshlaw17_MediumOrder.j1 kj7 t268 (l0.length : Int) (Int.tmod (wrap64 (a5)) (l0.length : Int)) bt304.1 bt308.1 true)))) else (none)))) else (none))) else (none))) else (none)))) else (none))) else (none)) else (none)))) = some r := by rw [if_neg (show ¬ (false = true) by decide)] at H; exact H
        clear H
        have H := H1
        clear H1
        by_cases c15 : (l0.length : Int) = 0
        · rw [if_pos c15] at H
          exact absurd H (by simp)
        · rw [if_neg c15] at H
          have c15b0 : ((l0.length : Int) == 0) = false := beq_eq_false_iff_ne.mpr c15
          have c15b1 : ((l0.length : Int) != 0) = true := bne_iff_ne.mpr c15
          have c15b2 : ¬ (l0 = []) := fun h_ => c15 (by rw [h_]; rfl)
          obtain ⟨y270, hy270⟩ : ∃ y_ : List (S50), y_ = (([] : List (S50))) := ⟨_, rfl⟩
          replace H : (if 0 ≤ (Int.tmod (wrap64 (a5)) (l0.length : Int)) then (if (Int.tmod (wrap64 (a5)) (l0.length : Int)) ≤ (l0.length : Int) then ((some (l0.drop ((Int.tmod (wrap64 (a5)) (l0.length : Int)) : Int).toNat : List (S50))).bind fun y273 => (if y270.length + y273.length < 3518437208883 then ((some (y270 ++ y273 : List (S50))).bind fun y277 => ((some (l0.take ((Int.tmod (wrap64 (a5)) (l0.length : Int)) : Int).toNat : List (S50))).bind fun y280 => (if y277.length + y280.length < 3518437208883 then ((some (([] : List (S25)) : List (S25))).bind fun y287 => (if (Int.tmod (wrap64 (a5)) (l0.length : Int)) ≤ (l1.length : Int) then ((some (l1.drop ((Int.tmod (wrap64 (a5)) (l0.length : Int)) : Int).toNat : List (S25))).bind fun y290 => (if y287.length + y290.length < 8796093022208 then ((some (y287 ++ y290 : List (S25))).bind fun y294 => ((some (l1.take ((Int.tmod (wrap64 (a5)) (l0.length : Int)) : Int).toNat : List (S25))).bind fun y297 => (if y294.length + y297.length < 8796093022208 then ((medium_Catch.f kj7 l0 l1 a2 l3 a4).bind fun bt304 => ((medium_Catch.f kj7 (y277 ++ y280) (y294 ++ y297) a2 l3 a4).bind fun bt308 => (if bt304.2 = 0 then (if bt308.2 = 0 then (if (bt304.1.length : Int) = (l0.length : Int) then (slotmeshlaw17_MediumOrder.j1 kj7 t268 (l0.length : Int) (Int.tmod (wrap64 (a5)) (l0.length : Int)) bt304.1 bt308.1 ((bt308.1.length : Int) != (l0.length : Int))) else (slotmeshlaw17_MediumOrder.j1 kj7 t268 (l0.length : Int) (Int.tmod (wrap64 (a5)) (l0.length : Int)) bt304.1 bt308.1 true)) else (slotmeshlaw17_MediumOrder.j1 kj7 t268 (l0.length : Int) (Int.tmod (wrap64 (a5)) (l0.length : Int)) bt304.1 bt308.1 true)) else (slotmeshlaw17_MediumOrder.j1 kj7 t268 (l0.length : Int) (Int.tmod (wrap64 (a5)) (l0.length : Int)) bt304.1 bt308.1 true)))) else (none)))) else (none))) else (none))) else (none)))) else (none))) else (none)) else (none)) = some r := by first | (rw [hy270]; with_reducible exact H) | (have H2_ := (Option.bind_some _ _).symm.trans H; rw [hy270]; with_reducible exact H2_) | (have H2_ := (Option.bind_some _ _).symm.trans H; with_reducible exact H2_) | with_reducible exact H | (rw [hy270]; exact H) | exact H
          have Ny270 := Aside0.mk hy270
          clear hy270
          obtain ⟨ji16, hji16⟩ : ∃ j_ : Int, (Int.tmod (wrap64 (a5)) (l0.length : Int)) = j_ := ⟨_, rfl⟩
          replace H : (if 0 ≤ (ji16) then (if (ji16) ≤ (l0.length : Int) then ((some (l0.drop ((ji16) : Int).toNat : List (S50))).bind fun y273 => (if y270.length + y273.length < 3518437208883 then ((some (y270 ++ y273 : List (S50))).bind fun y277 => ((some (l0.take ((ji16) : Int).toNat : List (S50))).bind fun y280 => (if y277.length + y280.length < 3518437208883 then ((some (([] : List (S25)) : List (S25))).bind fun y287 => (if (ji16) ≤ (l1.length : Int) then ((some (l1.drop ((ji16) : Int).toNat : List (S25))).bind fun y290 => (if y287.length + y290.length < 8796093022208 then ((some (y287 ++ y290 : List (S25))).bind fun y294 => ((some (l1.take ((ji16) : Int).toNat : List (S25))).bind fun y297 => (if y294.length + y297.length < 8796093022208 then ((medium_Catch.f kj7 l0 l1 a2 l3 a4).bind fun bt304 => ((medium_Catch.f kj7 (y277 ++ y280) (y294 ++ y297) a2 l3 a4).bind fun bt308 => (if bt304.2 = 0 then (if bt308.2 = 0 then (if (bt304.1.length : Int) = (l0.length : Int) then (slotmeshlaw17_MediumOrder.j1 kj7 t268 (l0.length : Int) ji16 bt304.1 bt308.1 ((bt308.1.length : Int) != (l0.length : Int))) else (slotmeshlaw17_MediumOrder.j1 kj7 t268 (l0.length : Int) ji16 bt304.1 bt308.1 true)) else (slotmeshlaw17_MediumOrder.j1 kj7 t268 (l0.length : Int) ji16 bt304.1 bt308.1 true)) else (slotmeshlaw17_MediumOrder.j1 kj7 t268 (l0.length : Int) ji16 bt304.1 bt308.1 true)))) else (none)))) else (none))) else (none))) else (none)))) else (none))) else (none)) else (none)) = some r := by first | (rw [hji16] at H; exact H) | (simp only [hji16] at H ⊢; exact H)
          by_cases c17 : 0 ≤ (ji16)
          · rw [if_pos c17] at H
            have c17b0 := eq_true c17
            have c17b1 : decide (0 ≤ (ji16)) = true := decide_eq_true c17
            clear c17
            by_cases c18 : (ji16) ≤ (l0.length : Int)
            · rw [if_pos c18] at H
              have c18b0 := eq_true c18
              have c18b1 : decide ((ji16) ≤ (l0.length : Int)) = true := decide_eq_true c18
              clear c18
              obtain ⟨y273, hy273⟩ : ∃ y_ : List (S50), y_ = (l0.drop ((ji16) : Int).toNat) := ⟨_, rfl⟩
              replace H : (if y270.length + y273.length < 3518437208883 then ((some (y270 ++ y273 : List (S50))).bind fun y277 => ((some (l0.take ((ji16) : Int).toNat : List (S50))).bind fun y280 => (if y277.length + y280.length < 3518437208883 then ((some (([] : List (S25)) : List (S25))).bind fun y287 => (if (ji16) ≤ (l1.length : Int) then ((some (l1.drop ((ji16) : Int).toNat : List (S25))).bind fun y290 => (if y287.length + y290.length < 8796093022208 then ((some (y287 ++ y290 : List (S25))).bind fun y294 => ((some (l1.take ((ji16) : Int).toNat : List (S25))).bind fun y297 => (if y294.length + y297.length < 8796093022208 then ((medium_Catch.f kj7 l0 l1 a2 l3 a4).bind fun bt304 => ((medium_Catch.f kj7 (y277 ++ y280) (y294 ++ y297) a2 l3 a4).bind fun bt308 => (if bt304.2 = 0 then (if bt308.2 = 0 then (if (bt304.1.length : Int) = (l0.length : Int) then (slotmeshlaw17_MediumOrder.j1 kj7 t268 (l0.length : Int) ji16 bt304.1 bt308.1 ((bt308.1.length : Int) != (l0.length : Int))) else (slotmeshlaw17_MediumOrder.j1 kj7 t268 (l0.length : Int) ji16 bt304.1 bt308.1 true)) else (slotmeshlaw17_MediumOrder.j1 kj7 t268 (l0.length : Int) ji16 bt304.1 bt308.1 true)) else (slotmeshlaw17_MediumOrder.j1 kj7 t268 (l0.length : Int) ji16 bt304.1 bt308.1 true)))) else (none)))) else (none))) else (none))) else (none)))) else (none)) = some r := by first | (rw [hy273]; with_reducible exact H) | (have H2_ := (Option.bind_some _ _).symm.trans H; rw [hy273]; with_reducible exact H2_) | (have H2_ := (Option.bind_some _ _).symm.trans H; with_reducible exact H2_) | with_reducible exact H | (rw [hy273]; exact H) | exact H
              have Ny273 := Aside0.mk hy273
              clear hy273
              by_cases c19 : y270.length + y273.length < 3518437208883
              · rw [if_pos c19] at H
                have LMc19 := Aside0.mk c19
                clear c19
                obtain ⟨y277, hy277⟩ : ∃ y_ : List (S50), y_ = (y270 ++ y273) := ⟨_, rfl⟩
                replace H : ((some (l0.take ((ji16) : Int).toNat : List (S50))).bind fun y280 => (if y277.length + y280.length < 3518437208883 then ((some (([] : List (S25)) : List (S25))).bind fun y287 => (if (ji16) ≤ (l1.length : Int) then ((some (l1.drop ((ji16) : Int).toNat : List (S25))).bind fun y290 => (if y287.length + y290.length < 8796093022208 then ((some (y287 ++ y290 : List (S25))).bind fun y294 => ((some (l1.take ((ji16) : Int).toNat : List (S25))).bind fun y297 => (if y294.length + y297.length < 8796093022208 then ((medium_Catch.f kj7 l0 l1 a2 l3 a4).bind fun bt304 => ((medium_Catch.f kj7 (y277 ++ y280) (y294 ++ y297) a2 l3 a4).bind fun bt308 => (if bt304.2 = 0 then (if bt308.2 = 0 then (if (bt304.1.length : Int) = (l0.length : Int) then (slotmeshlaw17_MediumOrder.j1 kj7 t268 (l0.length : Int) ji16 bt304.1 bt308.1 ((bt308.1.length : Int) != (l0.length : Int))) else (slotmeshlaw17_MediumOrder.j1 kj7 t268 (l0.length : Int) ji16 bt304.1 bt308.1 true)) else (slotmeshlaw17_MediumOrder.j1 kj7 t268 (l0.length : Int) ji16 bt304.1 bt308.1 true)) else (slotmeshlaw17_MediumOrder.j1 kj7 t268 (l0.length : Int) ji16 bt304.1 bt308.1 true)))) else (none)))) else (none))) else (none))) else (none))) = some r := by first | (rw [hy277]; with_reducible exact H) | (have H2_ := (Option.bind_some _ _).symm.trans H; rw [hy277]; with_reducible exact H2_) | (have H2_ := (Option.bind_some _ _).symm.trans H; with_reducible exact H2_) | with_reducible exact H | (rw [hy277]; exact H) | exact H
                have Ny277 := Aside0.mk hy277
                clear hy277
                have c20b0 := eq_true (of_decide_eq_true (by first | (with_reducible assumption) | assumption) : 0 ≤ (ji16))
                have c21b0 := eq_true (of_decide_eq_true (by first | (with_reducible assumption) | assumption) : (ji16) ≤ (l0.length : Int))
                obtain ⟨y280, hy280⟩ : ∃ y_ : List (S50), y_ = (l0.take ((ji16) : Int).toNat) := ⟨_, rfl⟩
                replace H : (if y277.length + y280.length < 3518437208883 then ((some (([] : List (S25)) : List (S25))).bind fun y287 => (if (ji16) ≤ (l1.length : Int) then ((some (l1.drop ((ji16) : Int).toNat : List (S25))).bind fun y290 => (if y287.length + y290.length < 8796093022208 then ((some (y287 ++ y290 : List (S25))).bind fun y294 => ((some (l1.take ((ji16) : Int).toNat : List (S25))).bind fun y297 => (if y294.length + y297.length < 8796093022208 then ((medium_Catch.f kj7 l0 l1 a2 l3 a4).bind fun bt304 => ((medium_Catch.f kj7 (y277 ++ y280) (y294 ++ y297) a2 l3 a4).bind fun bt308 => (if bt304.2 = 0 then (if bt308.2 = 0 then (if (bt304.1.length : Int) = (l0.length : Int) then (slotmeshlaw17_MediumOrder.j1 kj7 t268 (l0.length : Int) ji16 bt304.1 bt308.1 ((bt308.1.length : Int) != (l0.length : Int))) else (slotmeshlaw17_MediumOrder.j1 kj7 t268 (l0.length : Int) ji16 bt304.1 bt308.1 true)) else (slotmeshlaw17_MediumOrder.j1 kj7 t268 (l0.length : Int) ji16 bt304.1 bt308.1 true)) else (slotmeshlaw17_MediumOrder.j1 kj7 t268 (l0.length : Int) ji16 bt304.1 bt308.1 true)))) else (none)))) else (none))) else (none))) else (none)) = some r := by first | (rw [hy280]; with_reducible exact H) | (have H2_ := (Option.bind_some _ _).symm.trans H; rw [hy280]; with_reducible exact H2_) | (have H2_ := (Option.bind_some _ _).symm.trans H; with_reducible exact H2_) | with_reducible exact H | (rw [hy280]; exact H) | exact H
                have Ny280 := Aside0.mk hy280
                clear hy280
                by_cases c22 : y277.length + y280.length < 3518437208883
                · rw [if_pos c22] at H
                  have LMc22 := Aside0.mk c22
                  clear c22
                  obtain ⟨y284, hy284⟩ : ∃ y_ : List (S50), y_ = (y277 ++ y280) := ⟨_, rfl⟩
                  replace H : ((some (([] : List (S25)) : List (S25))).bind fun y287 => (if (ji16) ≤ (l1.length : Int) then ((some (l1.drop ((ji16) : Int).toNat : List (S25))).bind fun y290 => (if y287.length + y290.length < 8796093022208 then ((some (y287 ++ y290 : List (S25))).bind fun y294 => ((some (l1.take ((ji16) : Int).toNat : List (S25))).bind fun y297 => (if y294.length + y297.length < 8796093022208 then ((medium_Catch.f kj7 l0 l1 a2 l3 a4).bind fun bt304 => ((medium_Catch.f kj7 y284 (y294 ++ y297) a2 l3 a4).bind fun bt308 => (if bt304.2 = 0 then (if bt308.2 = 0 then (if (bt304.1.length : Int) = (l0.length : Int) then (slotmeshlaw17_MediumOrder.j1 kj7 t268 (l0.length : Int) ji16 bt304.1 bt308.1 ((bt308.1.length : Int) != (l0.length : Int))) else (slotmeshlaw17_MediumOrder.j1 kj7 t268 (l0.length : Int) ji16 bt304.1 bt308.1 true)) else (slotmeshlaw17_MediumOrder.j1 kj7 t268 (l0.length : Int) ji16 bt304.1 bt308.1 true)) else (slotmeshlaw17_MediumOrder.j1 kj7 t268 (l0.length : Int) ji16 bt304.1 bt308.1 true)))) else (none)))) else (none))) else (none))) = some r := by first | (rw [hy284]; with_reducible exact H) | (have H2_ := (Option.bind_some _ _).symm.trans H; rw [hy284]; with_reducible exact H2_) | (have H2_ := (Option.bind_some _ _).symm.trans H; with_reducible exact H2_) | with_reducible exact H | (rw [hy284]; exact H) | exact H
                  have Ny284 := Aside0.mk hy284
                  clear hy284
                  obtain ⟨y287, hy287⟩ : ∃ y_ : List (S25), y_ = (([] : List (S25))) := ⟨_, rfl⟩
                  replace H : (if (ji16) ≤ (l1.length : Int) then ((some (l1.drop ((ji16) : Int).toNat : List (S25))).bind fun y290 => (if y287.length + y290.length < 8796093022208 then ((some (y287 ++ y290 : List (S25))).bind fun y294 => ((some (l1.take ((ji16) : Int).toNat : List (S25))).bind fun y297 => (if y294.length + y297.length < 8796093022208 then ((medium_Catch.f kj7 l0 l1 a2 l3 a4).bind fun bt304 => ((medium_Catch.f kj7 y284 (y294 ++ y297) a2 l3 a4).bind fun bt308 => (if bt304.2 = 0 then (if bt308.2 = 0 then (if (bt304.1.length : Int) = (l0.length : Int) then (slotmeshlaw17_MediumOrder.j1 kj7 t268 (l0.length : Int) ji16 bt304.1 bt308.1 ((bt308.1.length : Int) != (l0.length : Int))) else (slotmeshlaw17_MediumOrder.j1 kj7 t268 (l0.length : Int) ji16 bt304.1 bt308.1 true)) else (slotmeshlaw17_MediumOrder.j1 kj7 t268 (l0.length : Int) ji16 bt304.1 bt308.1 true)) else (slotmeshlaw17_MediumOrder.j1 kj7 t268 (l0.length : Int) ji16 bt304.1 bt308.1 true)))) else (none)))) else (none))) else (none)) = some r := by first | (rw [hy287]; with_reducible exact H) | (have H2_ := (Option.bind_some _ _).symm.trans H; rw [hy287]; with_reducible exact H2_) | (have H2_ := (Option.bind_some _ _).symm.trans H; with_reducible exact H2_) | with_reducible exact H | (rw [hy287]; exact H) | exact H
                  have Ny287 := Aside0.mk hy287
                  clear hy287
                  have c23b0 := eq_true (of_decide_eq_true (by first | (with_reducible assumption) | assumption) : 0 ≤ (ji16))
                  by_cases c24 : (ji16) ≤ (l1.length : Int)
                  · rw [if_pos c24] at H
                    have c24b0 := eq_true c24
                    have c24b1 : decide ((ji16) ≤ (l1.length : Int)) = true := decide_eq_true c24
                    clear c24
                    obtain ⟨y290, hy290⟩ : ∃ y_ : List (S25), y_ = (l1.drop ((ji16) : Int).toNat) := ⟨_, rfl⟩
                    replace H : (if y287.length + y290.length < 8796093022208 then ((some (y287 ++ y290 : List (S25))).bind fun y294 => ((some (l1.take ((ji16) : Int).toNat : List (S25))).bind fun y297 => (if y294.length + y297.length < 8796093022208 then ((medium_Catch.f kj7 l0 l1 a2 l3 a4).bind fun bt304 => ((medium_Catch.f kj7 y284 (y294 ++ y297) a2 l3 a4).bind fun bt308 => (if bt304.2 = 0 then (if bt308.2 = 0 then (if (bt304.1.length : Int) = (l0.length : Int) then (slotmeshlaw17_MediumOrder.j1 kj7 t268 (l0.length : Int) ji16 bt304.1 bt308.1 ((bt308.1.length : Int) != (l0.length : Int))) else (slotmeshlaw17_MediumOrder.j1 kj7 t268 (l0.length : Int) ji16 bt304.1 bt308.1 true)) else (slotmeshlaw17_MediumOrder.j1 kj7 t268 (l0.length : Int) ji16 bt304.1 bt308.1 true)) else (slotmeshlaw17_MediumOrder.j1 kj7 t268 (l0.length : Int) ji16 bt304.1 bt308.1 true)))) else (none)))) else (none)) = some r := by first | (rw [hy290]; with_reducible exact H) | (have H2_ := (Option.bind_some _ _).symm.trans H; rw [hy290]; with_reducible exact H2_) | (have H2_ := (Option.bind_some _ _).symm.trans H; with_reducible exact H2_) | with_reducible exact H | (rw [hy290]; exact H) | exact H
                    have Ny290 := Aside0.mk hy290
                    clear hy290
                    by_cases c25 : y287.length + y290.length < 8796093022208
                    · rw [if_pos c25] at H
                      have LMc25 := Aside0.mk c25
                      clear c25
                      obtain ⟨y294, hy294⟩ : ∃ y_ : List (S25), y_ = (y287 ++ y290) := ⟨_, rfl⟩
                      replace H : ((some (l1.take ((ji16) : Int).toNat : List (S25))).bind fun y297 => (if y294.length + y297.length < 8796093022208 then ((medium_Catch.f kj7 l0 l1 a2 l3 a4).bind fun bt304 => ((medium_Catch.f kj7 y284 (y294 ++ y297) a2 l3 a4).bind fun bt308 => (if bt304.2 = 0 then (if bt308.2 = 0 then (if (bt304.1.length : Int) = (l0.length : Int) then (slotmeshlaw17_MediumOrder.j1 kj7 t268 (l0.length : Int) ji16 bt304.1 bt308.1 ((bt308.1.length : Int) != (l0.length : Int))) else (slotmeshlaw17_MediumOrder.j1 kj7 t268 (l0.length : Int) ji16 bt304.1 bt308.1 true)) else (slotmeshlaw17_MediumOrder.j1 kj7 t268 (l0.length : Int) ji16 bt304.1 bt308.1 true)) else (slotmeshlaw17_MediumOrder.j1 kj7 t268 (l0.length : Int) ji16 bt304.1 bt308.1 true)))) else (none))) = some r := by first | (rw [hy294]; with_reducible exact H) | (have H2_ := (Option.bind_some _ _).symm.trans H; rw [hy294]; with_reducible exact H2_) | (have H2_ := (Option.bind_some _ _).symm.trans H; with_reducible exact H2_) | with_reducible exact H | (rw [hy294]; exact H) | exact H
                      have Ny294 := Aside0.mk hy294
                      clear hy294
                      have c26b0 := eq_true (of_decide_eq_true (by first | (with_reducible assumption) | assumption) : 0 ≤ (ji16))
                      have c27b0 := eq_true (of_decide_eq_true (by first | (with_reducible assumption) | assumption) : (ji16) ≤ (l1.length : Int))
                      obtain ⟨y297, hy297⟩ : ∃ y_ : List (S25), y_ = (l1.take ((ji16) : Int).toNat) := ⟨_, rfl⟩
                      replace H : (if y294.length + y297.length < 8796093022208 then ((medium_Catch.f kj7 l0 l1 a2 l3 a4).bind fun bt304 => ((medium_Catch.f kj7 y284 (y294 ++ y297) a2 l3 a4).bind fun bt308 => (if bt304.2 = 0 then (if bt308.2 = 0 then (if (bt304.1.length : Int) = (l0.length : Int) then (slotmeshlaw17_MediumOrder.j1 kj7 t268 (l0.length : Int) ji16 bt304.1 bt308.1 ((bt308.1.length : Int) != (l0.length : Int))) else (slotmeshlaw17_MediumOrder.j1 kj7 t268 (l0.length : Int) ji16 bt304.1 bt308.1 true)) else (slotmeshlaw17_MediumOrder.j1 kj7 t268 (l0.length : Int) ji16 bt304.1 bt308.1 true)) else (slotmeshlaw17_MediumOrder.j1 kj7 t268 (l0.length : Int) ji16 bt304.1 bt308.1 true)))) else (none)) = some r := by first | (rw [hy297]; with_reducible exact H) | (have H2_ := (Option.bind_some _ _).symm.trans H; rw [hy297]; with_reducible exact H2_) | (have H2_ := (Option.bind_some _ _).symm.trans H; with_reducible exact H2_) | with_reducible exact H | (rw [hy297]; exact H) | exact H
                      have Ny297 := Aside0.mk hy297
                      clear hy297
                      by_cases c28 : y294.length + y297.length < 8796093022208
                      · rw [if_pos c28] at H
                        have LMc28 := Aside0.mk c28
                        clear c28
                        obtain ⟨y301, hy301⟩ : ∃ y_ : List (S25), y_ = (y294 ++ y297) := ⟨_, rfl⟩
                        replace H : ((medium_Catch.f kj7 l0 l1 a2 l3 a4).bind fun bt304 => ((medium_Catch.f kj7 y284 y301 a2 l3 a4).bind fun bt308 => (if bt304.2 = 0 then (if bt308.2 = 0 then (if (bt304.1.length : Int) = (l0.length : Int) then (slotmeshlaw17_MediumOrder.j1 kj7 t268 (l0.length : Int) ji16 bt304.1 bt308.1 ((bt308.1.length : Int) != (l0.length : Int))) else (slotmeshlaw17_MediumOrder.j1 kj7 t268 (l0.length : Int) ji16 bt304.1 bt308.1 true)) else (slotmeshlaw17_MediumOrder.j1 kj7 t268 (l0.length : Int) ji16 bt304.1 bt308.1 true)) else (slotmeshlaw17_MediumOrder.j1 kj7 t268 (l0.length : Int) ji16 bt304.1 bt308.1 true)))) = some r := by first | (rw [hy301]; with_reducible exact H) | (have H2_ := (Option.bind_some _ _).symm.trans H; rw [hy301]; with_reducible exact H2_) | (have H2_ := (Option.bind_some _ _).symm.trans H; with_reducible exact H2_) | with_reducible exact H | (rw [hy301]; exact H) | exact H
                        have Ny301 := Aside0.mk hy301
                        clear hy301
                        replace H := Option.bind_eq_some_iff.mp H
                        obtain ⟨⟨t304, t305⟩, A290, H⟩ := H
                        replace H : ((medium_Catch.f kj7 y284 y301 a2 l3 a4).bind fun bt308 => (if t305 = 0 then (if bt308.2 = 0 then (if (t304.length : Int) = (l0.length : Int) then (slotmeshlaw17_MediumOrder.j1 kj7 t268 (l0.length : Int) ji16 t304 bt308.1 ((bt308.1.length : Int) != (l0.length : Int))) else (slotmeshlaw17_MediumOrder.j1 kj7 t268 (l0.length : Int) ji16 t304 bt308.1 true)) else (slotmeshlaw17_MediumOrder.j1 kj7 t268 (l0.length : Int) ji16 t304 bt308.1 true)) else (slotmeshlaw17_MediumOrder.j1 kj7 t268 (l0.length : Int) ji16 t304 bt308.1 true))) = some r := H
                        have A29 := Aside0.mk A290
                        clear A290
                        replace H := Option.bind_eq_some_iff.mp H
                        obtain ⟨⟨t308, t309⟩, A300, H⟩ := H
                        replace H : (if t305 = 0 then (if t309 = 0 then (if (t304.length : Int) = (l0.length : Int) then (slotmeshlaw17_MediumOrder.j1 kj7 t268 (l0.length : Int) ji16 t304 t308 ((t308.length : Int) != (l0.length : Int))) else (slotmeshlaw17_MediumOrder.j1 kj7 t268 (l0.length : Int) ji16 t304 t308 true)) else (slotmeshlaw17_MediumOrder.j1 kj7 t268 (l0.length : Int) ji16 t304 t308 true)) else (slotmeshlaw17_MediumOrder.j1 kj7 t268 (l0.length : Int) ji16 t304 t308 true)) = some r := H
                        have A30 := Aside0.mk A300
                        clear A300
                        have HC31 := Aside0.mk H
                        clear H
                        try go_wp2
                        have n0_ := Aside0.mk (below_drew1 HB.out)
                        clear HB
                        have HB := n0_
                        clear n0_
                        have q33 : ((ji16) : Int) ≤ ((l0.length : Int) : Int) := of_decide_eq_true (by first | (with_reducible assumption) | assumption)
                        obtain ⟨i033, hi033, _, hsz33, _⟩ := info_parts info50
                        have hroom33 : l0.length ≤ c0 := HC0.out
                        have hC33 : Kd.C k50 _ A0 l0.length l0 := HR0.out
                        have q033 : (0 : Int) ≤ ((ji16) : Int) := of_decide_eq_true (by first | (with_reducible assumption) | assumption)
                        have hcut33 := cut_from (P := Try.prog) 40 50 .i64 Try.underlying40 hi033 5 hsz33 A0 l0.length c0 (ji16) q033 q33
                        have hr33 := Kd.C_drop (m := ((ji16) : Int).toNat) (c := c0) hC33 (by omega) hroom33
                        obtain ⟨A33, hA33⟩ : ∃ A_, A_ = (if c0 = ((ji16) : Int).toNat then A0 else (A0 : Option Addr).map (·.add (((ji16) : Int).toNat * 5))) := ⟨_, rfl⟩
                        obtain ⟨c33, hc33⟩ : ∃ c_, c_ = c0 - ((ji16) : Int).toNat := ⟨_, rfl⟩
                        have hy33 : y273.length = l0.length - ((ji16) : Int).toNat := (by rw [Ny273.out, List.length_drop] <;> omega)
                        rw [show (l0).drop ((ji16) : Int).toNat = y273 from Ny273.out.symm] at hr33
                        replace hr33 : Kd.C k50 _ A33 y273.length y273 := (by rw [hA33]; exact hr33)
                        rw [← hy33, ← hA33, ← hc33] at hcut33
                        have HR276 := Aside0.mk hr33
                        have HC276 := Aside0.mk (show y273.length ≤ c33 from by rw [hy33, hc33]; exact Nat.sub_le_sub_right hroom33 _)
                        clear hr33 hC33 hroom33 hi033 hsz33 hc33
                        have KY33 := Aside0.mk hy33
                        have KA33 := Aside0.mk hA33
                        clear hy33 hA33
                        replace q33 := eq_true q33
                        have q34 : ((ji16) : Int) ≤ ((l0.length : Int) : Int) := of_decide_eq_true (by first | (with_reducible assumption) | assumption)
                        obtain ⟨i034, hi034, _, hsz34, _⟩ := info_parts info50
                        have hroom34 : l0.length ≤ c0 := HC0.out
                        have hC34 : Kd.C k50 _ A0 l0.length l0 := HR0.out
                        have hcut34 := cut_to (P := Try.prog) 40 50 .i64 Try.underlying40 hi034 A0 l0.length c0 (ji16) (of_decide_eq_true (by first | (with_reducible assumption) | assumption)) q34 hroom34
                        have hr34 := Kd.C_take (m := ((ji16) : Int).toNat) hC34 (by omega)
                        have hy34 : y280.length = ((ji16) : Int).toNat := (by rw [Ny280.out, List.length_take]; omega)
                        rw [← Ny280.out] at hr34
                        rw [← hy34] at hcut34
                        have HR283 := Aside0.mk hr34
                        have HC283 := Aside0.mk (show y280.length ≤ c0 from by omega)
                        clear hr34 hC34 hroom34 hi034 hsz34
                        have KY34 := Aside0.mk hy34
                        clear hy34
                        replace q34 := eq_true q34
                        refine start_ (n := 10) (S := fun w' => True) (ds := []) #[false, false, false, false, false, false, false, false, false, false] (by kernel_rfl) rfl rfl trivial (fun hHeld => ?_); refine with_tabW slotmeshlaw17_MediumOrder.tab6 slotmeshlaw17_MediumOrder.bits6 (fun HT_ HW_ => ?_)
                        generalize wc.drew = w32 at HB HR276 HR283 hHeld ⊢
                        refine pure_ (i := 1) (N := some 44) (v := ?_) (a' := ?_) #[false, true, false, false, false, false, false, false, false, false] rfl rfl (any_of HT_.out (by kernel_rfl)) (fun _ _ _ h => h) (Or.inl ⟨by rfl, ?_⟩) ?_ ?_
                        rotate_left
                        · intro w'
                          go_simp
                          with_reducible rfl
                        rotate_left
                        · simp only [Act.put, List.setIfInBounds_toArray, List.set_cons_zero, List.set_cons_succ, i64_w, i32_w]
                          rfl
                        refine pure_ (i := 2) (N := some 45) (v := ?_) (a' := ?_) #[false, true, true, false, false, false, false, false, false, false] rfl rfl (any_of HT_.out (by kernel_rfl)) (fun _ _ _ h => h) (Or.inl ⟨by rfl, ?_⟩) ?_ ?_
                        rotate_left
                        · intro w'
                          go_simp
                          with_reducible rfl
                        rotate_left
                        · simp only [Act.put, List.setIfInBounds_toArray, List.set_cons_zero, List.set_cons_succ, i64_w, i32_w]
                          rfl
                        refine pure_ (i := 3) (N := some 46) (v := ?_) (a' := ?_) #[false, true, true, true, false, false, false, false, false, false] rfl rfl (any_of HT_.out (by kernel_rfl)) (fun _ _ _ h => h) (Or.inl ⟨by rfl, ?_⟩) ?_ ?_
                        rotate_left
                        · intro w'
                          go_simp
                          with_reducible rfl
                        rotate_left
                        · simp only [Act.put, List.setIfInBounds_toArray, List.set_cons_zero, List.set_cons_succ, i64_w, i32_w]
                          rfl
                        refine pure_ (i := 5) (N := some 48) (v := ?_) (a' := ?_) #[false, true, true, true, false, true, false, false, false, false] rfl rfl (any_of HT_.out (by kernel_rfl)) (fun _ _ _ h => h) (Or.inl ⟨by rfl, ?_⟩) ?_ ?_
                        rotate_left
                        · intro w'
                          go_simp
                          with_reducible rfl
                        rotate_left
                        · simp only [Act.put, List.setIfInBounds_toArray, List.set_cons_zero, List.set_cons_succ, i64_w, i32_w]
                          rfl
                        refine pure_ (i := 6) (N := some 49) (v := ?_) (a' := ?_) #[false, true, true, true, false, true, true, false, false, false] rfl rfl (any_of HT_.out (by kernel_rfl)) (fun _ _ _ h => h) (Or.inl ⟨by rfl, ?_⟩) ?_ ?_
                        rotate_left
                        · intro w'
                          go_simp
                          with_reducible rfl
                        rotate_left
                        · simp only [Act.put, List.setIfInBounds_toArray, List.set_cons_zero, List.set_cons_succ, i64_w, i32_w]
                          rfl
                        refine pure_ (i := 7) (N := some 50) (v := ?_) (a' := ?_) #[false, true, true, true, false, true, true, true, false, false] rfl rfl (any_of HT_.out (by kernel_rfl)) (fun _ _ _ h => h) (Or.inl ⟨by rfl, ?_⟩) ?_ ?_
                        rotate_left
                        · intro w'
                          go_simp
                          with_reducible rfl
                        rotate_left
                        · simp only [Act.put, List.setIfInBounds_toArray, List.set_cons_zero, List.set_cons_succ, i64_w, i32_w]
                          rfl
                        refine one_ (i := 0) (N := some 43) #[true, true, true, true, false, true, true, true, false, false] rfl rfl (one_of HT_.out (by kernel_rfl)) (by decide) (fun K hK => ?_)
                        refine Kd.R_lit_step k50 _ 50 ?hg (N := 43) ?hd (xs := ([] : List (S50))) (inner := []) (ok := fun _ => True) (okp := fun _ => True) ?hr ?hp (fun _ hk => hk) trivial (Below.refl _ _) (Nat.le_refl _) (by simp) ?_; (case hd => rfl); (case hg => rfl); (case hr => first | (go_simp; done) | (go_simp; rfl)); (case hp => exact (Reps.none _ _))
                        intro v271 w35 ho36 hb hg_ hnew_
                        clear hg_ hnew_
                        (first | rw [← Ny270.out] at ho36 | (simp only [Int.reduceToNat] at ho36; rw [← Ny270.out] at ho36))
                        have n0_ := Aside0.mk (Kd.R_lower ho36 (below_size (by repeat (first | (with_reducible first | exact HB.out | apply below_alloc | apply pw_below_drewN | apply below_drew1) | exact HB.out))))
                        have n1_ := Aside0.mk (below_step (by repeat (first | (with_reducible first | exact HB.out | apply below_alloc | apply pw_below_drewN | apply below_drew1) | exact HB.out)) hb)
                        clear HB
                        have HO272 := n0_
                        have HB := n1_
                        clear n0_ n1_
                        clear hb ho36
                        refine hK.out _ _ trivial (fun hHeld => ?_)
                        clear hK K
                        refine norm_ (a' := ?_) ?_ ?_
                        rotate_left
                        · show Act.put _ (some 43) _ = _
                          simp only [Act.put, List.setIfInBounds_toArray, List.set_cons_zero, List.set_cons_succ, i64_w, i32_w]
                          rfl
                        refine one_ (i := 4) (N := some 47) #[true, true, true, true, true, true, true, true, false, false] rfl rfl (one_of HT_.out (by kernel_rfl)) (by decide) (fun K hK => ?_)
                        refine Kd.R_append_rows_step k50 (w0 := w) w.heap.size (by rfl) (.tmp 43) (.tmp 46) 40 50 (.agg #[(.int .i64 0), (.int .i64 0), (.int .i64 0), (.int .i64 0), (.int .i64 0)]) 40 rfl Try.underlying40 info50 rfl (by decide) (by omega) v271 y270 y273 _ _ _ (fun _ => True) (fun _ => False) rfl rfl ?aO ?aR (fun _ _ h => h) (fun _ h => h.elim) ?aF ?aB ?aS ?aL ?_
                        (case aR => repeat (first | exact (Kd.C_below HR276.out HB.out) | (with_reducible refine Kd.C_alloc ?_ _) | (with_reducible refine Kd.C_drewN ?_ _) | (with_reducible refine Kd.C_drew ?_)))
                        (case aB => exact (by repeat (first | (with_reducible first | exact HB.out | apply below_alloc | apply pw_below_drewN | apply below_drew1) | exact HB.out)))
                        (case aF => exact (fun _ _ => trivial))
                        (case aO => exact (by (with_reducible repeat (first | apply Kd.R_alloc | apply Kd.R_drewN | apply Kd.R_drew)); exact HO272.out))
                        (case aS => exact (below_size (by repeat (first | (with_reducible first | exact HB.out | apply below_alloc | apply pw_below_drewN | apply below_drew1) | exact HB.out))))
                        (case aL => have := LMc19.out; omega)
                        intro v278 w37 ho hb hg hat
                        rw [← Ny277.out] at ho
                        have n0_ := Aside0.mk (hb)
                        have n1_ := Aside0.mk (ho)
                        clear HB
                        clear HO272
                        have HB := n0_
                        have HO279 := n1_
                        clear n0_ n1_
                        clear ho hb hg hat
                        refine hK.out _ _ trivial (fun hHeld => ?_)
                        clear hK K
                        refine norm_ (a' := ?_) ?_ ?_
                        rotate_left
                        · show Act.put _ (some 47) _ = _
                          simp only [Act.put, List.setIfInBounds_toArray, List.set_cons_zero, List.set_cons_succ, i64_w, i32_w]
                          rfl
                        refine one_ (i := 8) (N := some 51) #[true, true, true, true, true, true, true, true, true, false] rfl rfl (one_of HT_.out (by kernel_rfl)) (by decide) (fun K hK => ?_)
                        refine Kd.R_append_rows_step k50 (w0 := w) w.heap.size (by rfl) (.tmp 47) (.tmp 50) 40 50 (.agg #[(.int .i64 0), (.int .i64 0), (.int .i64 0), (.int .i64 0), (.int .i64 0)]) 40 rfl Try.underlying40 info50 rfl (by decide) (by omega) v278 y277 y280 _ _ _ (fun _ => True) (fun _ => False) rfl rfl ?aO ?aR (fun _ _ h => h) (fun _ h => h.elim) ?aF ?aB ?aS ?aL ?_
                        (case aR => repeat (first | exact (Kd.C_below HR283.out HB.out) | (with_reducible refine Kd.C_alloc ?_ _) | (with_reducible refine Kd.C_drewN ?_ _) | (with_reducible refine Kd.C_drew ?_)))
                        (case aB => exact (by repeat (first | (with_reducible first | exact HB.out | apply below_alloc | apply pw_below_drewN | apply below_drew1) | exact HB.out)))
                        (case aF => exact (fun _ _ => trivial))
                        (case aO => exact (by (with_reducible repeat (first | apply Kd.R_alloc | apply Kd.R_drewN | apply Kd.R_drew)); exact HO279.out))
                        (case aS => exact (below_size (by repeat (first | (with_reducible first | exact HB.out | apply below_alloc | apply pw_below_drewN | apply below_drew1) | exact HB.out))))
                        (case aL => have := LMc22.out; omega)
                        intro v285 w38 ho hb hg hat
                        rw [← Ny284.out] at ho
                        have n0_ := Aside0.mk (hb)
                        have n1_ := Aside0.mk (ho)
                        clear HB
                        clear HO279
                        have HB := n0_
                        have HO286 := n1_
                        clear n0_ n1_
                        clear ho hb hg hat
                        refine hK.out _ _ trivial (fun hHeld => ?_)
                        clear hK K
                        refine norm_ (a' := ?_) ?_ ?_
                        rotate_left
                        · show Act.put _ (some 51) _ = _
                          simp only [Act.put, List.setIfInBounds_toArray, List.set_cons_zero, List.set_cons_succ, i64_w, i32_w]
                          rfl
                        refine pure_ (i := 9) (N := some 16) (v := ?_) (a' := ?_) #[true, true, true, true, true, true, true, true, true, true] rfl rfl (any_of HT_.out (by kernel_rfl)) (fun _ _ _ h => h) (Or.inl ⟨by rfl, ?_⟩) ?_ ?_
                        rotate_left
                        · intro w'
                          go_simp
                          with_reducible rfl
                        rotate_left
                        · simp only [Act.put, List.setIfInBounds_toArray, List.set_cons_zero, List.set_cons_succ, i64_w, i32_w]
                          rfl
                        refine done_ (done_of HT_.out (by kernel_rfl)) ?_
                        try go_wp2
                        have n0_ := Aside0.mk (Kd.R_drew HO286.out)
                        have n1_ := Aside0.mk (below_drew1 HB.out)
                        clear HO286
                        clear HB
                        have HO286 := n0_
                        have HB := n1_
                        clear n0_ n1_
                        have q40 : ((ji16) : Int) ≤ ((l1.length : Int) : Int) := of_decide_eq_true (by first | (with_reducible assumption) | assumption)
                        obtain ⟨i040, hi040, _, hsz40, _⟩ := info_parts info25
                        have hroom40 : l1.length ≤ c1 := HC1.out
                        have hC40 : Kd.C k25 _ A1 l1.length l1 := HR1.out
                        have q040 : (0 : Int) ≤ ((ji16) : Int) := of_decide_eq_true (by first | (with_reducible assumption) | assumption)
                        have hcut40 := cut_from (P := Try.prog) 22 25 .i64 Try.underlying22 hi040 2 hsz40 A1 l1.length c1 (ji16) q040 q40
                        have hr40 := Kd.C_drop (m := ((ji16) : Int).toNat) (c := c1) hC40 (by omega) hroom40
                        obtain ⟨A40, hA40⟩ : ∃ A_, A_ = (if c1 = ((ji16) : Int).toNat then A1 else (A1 : Option Addr).map (·.add (((ji16) : Int).toNat * 2))) := ⟨_, rfl⟩
                        obtain ⟨c40, hc40⟩ : ∃ c_, c_ = c1 - ((ji16) : Int).toNat := ⟨_, rfl⟩
                        have hy40 : y290.length = l1.length - ((ji16) : Int).toNat := (by rw [Ny290.out, List.length_drop] <;> omega)
                        rw [show (l1).drop ((ji16) : Int).toNat = y290 from Ny290.out.symm] at hr40
                        replace hr40 : Kd.C k25 _ A40 y290.length y290 := (by rw [hA40]; exact hr40)
                        rw [← hy40, ← hA40, ← hc40] at hcut40
                        have HR293 := Aside0.mk hr40
                        have HC293 := Aside0.mk (show y290.length ≤ c40 from by rw [hy40, hc40]; exact Nat.sub_le_sub_right hroom40 _)
                        clear hr40 hC40 hroom40 hi040 hsz40 hc40
                        have KY40 := Aside0.mk hy40
                        have KA40 := Aside0.mk hA40
                        clear hy40 hA40
                        replace q40 := eq_true q40
                        have q41 : ((ji16) : Int) ≤ ((l1.length : Int) : Int) := of_decide_eq_true (by first | (with_reducible assumption) | assumption)
                        obtain ⟨i041, hi041, _, hsz41, _⟩ := info_parts info25
                        have hroom41 : l1.length ≤ c1 := HC1.out
                        have hC41 : Kd.C k25 _ A1 l1.length l1 := HR1.out
                        have hcut41 := cut_to (P := Try.prog) 22 25 .i64 Try.underlying22 hi041 A1 l1.length c1 (ji16) (of_decide_eq_true (by first | (with_reducible assumption) | assumption)) q41 hroom41
                        have hr41 := Kd.C_take (m := ((ji16) : Int).toNat) hC41 (by omega)
                        have hy41 : y297.length = ((ji16) : Int).toNat := (by rw [Ny297.out, List.length_take]; omega)
                        rw [← Ny297.out] at hr41
                        rw [← hy41] at hcut41
                        have HR300 := Aside0.mk hr41
                        have HC300 := Aside0.mk (show y297.length ≤ c1 from by omega)
                        clear hr41 hC41 hroom41 hi041 hsz41
                        have KY41 := Aside0.mk hy41
                        clear hy41
                        replace q41 := eq_true q41
                        refine start_ (n := 10) (S := fun w' => True) (ds := []) #[false, false, false, false, false, false, false, false, false, false] (by kernel_rfl) rfl rfl trivial (fun hHeld => ?_); refine with_tabW slotmeshlaw17_MediumOrder.tab7 slotmeshlaw17_MediumOrder.bits7 (fun HT_ HW_ => ?_)
                        generalize w38.drew = w39 at HO286 HB HR293 HR300 hHeld ⊢
                        refine pure_ (i := 1) (N := some 53) (v := ?_) (a' := ?_) #[false, true, false, false, false, false, false, false, false, false] rfl rfl (any_of HT_.out (by kernel_rfl)) (fun _ _ _ h => h) (Or.inl ⟨by rfl, ?_⟩) ?_ ?_
                        rotate_left
                        · intro w'
                          go_simp
                          with_reducible rfl
                        rotate_left
                        · simp only [Act.put, List.setIfInBounds_toArray, List.set_cons_zero, List.set_cons_succ, i64_w, i32_w]
                          rfl
                        refine pure_ (i := 2) (N := some 54) (v := ?_) (a' := ?_) #[false, true, true, false, false, false, false, false, false, false] rfl rfl (any_of HT_.out (by kernel_rfl)) (fun _ _ _ h => h) (Or.inl ⟨by rfl, ?_⟩) ?_ ?_
                        rotate_left
                        · intro w'
                          go_simp
                          with_reducible rfl
                        rotate_left
                        · simp only [Act.put, List.setIfInBounds_toArray, List.set_cons_zero, List.set_cons_succ, i64_w, i32_w]
                          rfl
                        refine pure_ (i := 3) (N := some 55) (v := ?_) (a' := ?_) #[false, true, true, true, false, false, false, false, false, false] rfl rfl (any_of HT_.out (by kernel_rfl)) (fun _ _ _ h => h) (Or.inl ⟨by rfl, ?_⟩) ?_ ?_
                        rotate_left
                        · intro w'
                          go_simp
                          with_reducible rfl
                        rotate_left
                        · simp only [Act.put, List.setIfInBounds_toArray, List.set_cons_zero, List.set_cons_succ, i64_w, i32_w]
                          rfl
                        refine pure_ (i := 5) (N := some 57) (v := ?_) (a' := ?_) #[false, true, true, true, false, true, false, false, false, false] rfl rfl (any_of HT_.out (by kernel_rfl)) (fun _ _ _ h => h) (Or.inl ⟨by rfl, ?_⟩) ?_ ?_
                        rotate_left
                        · intro w'
                          go_simp
                          with_reducible rfl
                        rotate_left
                        · simp only [Act.put, List.setIfInBounds_toArray, List.set_cons_zero, List.set_cons_succ, i64_w, i32_w]
                          rfl
                        refine pure_ (i := 6) (N := some 58) (v := ?_) (a' := ?_) #[false, true, true, true, false, true, true, false, false, false] rfl rfl (any_of HT_.out (by kernel_rfl)) (fun _ _ _ h => h) (Or.inl ⟨by rfl, ?_⟩) ?_ ?_
                        rotate_left
                        · intro w'
                          go_simp
                          with_reducible rfl
                        rotate_left
                        · simp only [Act.put, List.setIfInBounds_toArray, List.set_cons_zero, List.set_cons_succ, i64_w, i32_w]
                          rfl
                        refine pure_ (i := 7) (N := some 59) (v := ?_) (a' := ?_) #[false, true, true, true, false, true, true, true, false, false] rfl rfl (any_of HT_.out (by kernel_rfl)) (fun _ _ _ h => h) (Or.inl ⟨by rfl, ?_⟩) ?_ ?_
                        rotate_left
                        · intro w'
                          go_simp
                          with_reducible rfl
                        rotate_left
                        · simp only [Act.put, List.setIfInBounds_toArray, List.set_cons_zero, List.set_cons_succ, i64_w, i32_w]
                          rfl
                        refine one_ (i := 0) (N := some 52) #[true, true, true, true, false, true, true, true, false, false] rfl rfl (one_of HT_.out (by kernel_rfl)) (by decide) (fun K hK => ?_)
                        refine Kd.R_lit_step k25 _ 25 ?hg (N := 52) ?hd (xs := ([] : List (S25))) (inner := []) (ok := fun _ => True) (okp := fun _ => True) ?hr ?hp (fun _ hk => hk) trivial (Below.refl _ _) (Nat.le_refl _) (by simp) ?_; (case hd => rfl); (case hg => rfl); (case hr => first | (go_simp; done) | (go_simp; rfl)); (case hp => exact (Reps.none _ _))
                        intro v288 w42 ho43 hb hg_ hnew_
                        clear hg_ hnew_
                        (first | rw [← Ny287.out] at ho43 | (simp only [Int.reduceToNat] at ho43; rw [← Ny287.out] at ho43))
                        have n0_ := Aside0.mk (Kd.R_below (by (with_reducible repeat (first | apply Kd.R_alloc | apply Kd.R_drewN | apply Kd.R_drew)); exact HO286.out) hb)
                        have n1_ := Aside0.mk (Kd.R_lower ho43 (below_size (by repeat (first | (with_reducible first | exact HB.out | apply below_alloc | apply pw_below_drewN | apply below_drew1) | exact HB.out))))
                        have n2_ := Aside0.mk (below_step (by repeat (first | (with_reducible first | exact HB.out | apply below_alloc | apply pw_below_drewN | apply below_drew1) | exact HB.out)) hb)
                        clear HO286
                        clear HB
                        have HO286 := n0_
                        have HO289 := n1_
                        have HB := n2_
                        clear n0_ n1_ n2_
                        clear hb ho43
                        refine hK.out _ _ trivial (fun hHeld => ?_)
                        clear hK K
                        refine norm_ (a' := ?_) ?_ ?_
                        rotate_left
                        · show Act.put _ (some 52) _ = _
                          simp only [Act.put, List.setIfInBounds_toArray, List.set_cons_zero, List.set_cons_succ, i64_w, i32_w]
                          rfl
                        refine one_ (i := 4) (N := some 56) #[true, true, true, true, true, true, true, true, false, false] rfl rfl (one_of HT_.out (by kernel_rfl)) (by decide) (fun K hK => ?_)
                        refine Kd.R_append_rows_step k25 (w0 := w) w.heap.size (by rfl) (.tmp 52) (.tmp 55) 22 25 (.agg #[(.int .i64 0), (.int .i64 0)]) 16 rfl Try.underlying22 info25 rfl (by decide) (by omega) v288 y287 y290 _ _ _ (fun _ => True) (fun _ => False) rfl rfl ?aO ?aR (fun _ _ h => h) (fun _ h => h.elim) ?aF ?aB ?aS ?aL ?_
                        (case aR => repeat (first | exact (Kd.C_below HR293.out HB.out) | (with_reducible refine Kd.C_alloc ?_ _) | (with_reducible refine Kd.C_drewN ?_ _) | (with_reducible refine Kd.C_drew ?_)))
                        (case aB => exact (by repeat (first | (with_reducible first | exact HB.out | apply below_alloc | apply pw_below_drewN | apply below_drew1) | exact HB.out)))
                        (case aF => exact (fun _ _ => trivial))
                        (case aO => exact (by (with_reducible repeat (first | apply Kd.R_alloc | apply Kd.R_drewN | apply Kd.R_drew)); exact HO289.out))
                        (case aS => exact (below_size (by repeat (first | (with_reducible first | exact HB.out | apply below_alloc | apply pw_below_drewN | apply below_drew1) | exact HB.out))))
                        (case aL => have := LMc25.out; omega)
                        intro v295 w44 ho hb hg hat
                        rw [← Ny294.out] at ho
                        have n0_ := Aside0.mk (Kd.R_over' (by (with_reducible repeat (first | apply Kd.R_alloc | apply Kd.R_drewN | apply Kd.R_drew)); exact HO286.out) (Kd.R_typed (by (with_reducible repeat (first | apply Kd.R_alloc | apply Kd.R_drewN | apply Kd.R_drew)); exact HO289.out)) (by decide) hg)
                        have n1_ := Aside0.mk (hb)
                        have n2_ := Aside0.mk (ho)
                        clear HO286
                        clear HB
                        clear HO289
                        have HO286 := n0_
                        have HB := n1_
                        have HO296 := n2_
                        clear n0_ n1_ n2_
                        clear ho hb hg hat
                        refine hK.out _ _ trivial (fun hHeld => ?_)
                        clear hK K
                        refine norm_ (a' := ?_) ?_ ?_
                        rotate_left
                        · show Act.put _ (some 56) _ = _
                          simp only [Act.put, List.setIfInBounds_toArray, List.set_cons_zero, List.set_cons_succ, i64_w, i32_w]
                          rfl
                        refine one_ (i := 8) (N := some 60) #[true, true, true, true, true, true, true, true, true, false] rfl rfl (one_of HT_.out (by kernel_rfl)) (by decide) (fun K hK => ?_)
                        refine Kd.R_append_rows_step k25 (w0 := w) w.heap.size (by rfl) (.tmp 56) (.tmp 59) 22 25 (.agg #[(.int .i64 0), (.int .i64 0)]) 16 rfl Try.underlying22 info25 rfl (by decide) (by omega) v295 y294 y297 _ _ _ (fun _ => True) (fun _ => False) rfl rfl ?aO ?aR (fun _ _ h => h) (fun _ h => h.elim) ?aF ?aB ?aS ?aL ?_
                        (case aR => repeat (first | exact (Kd.C_below HR300.out HB.out) | (with_reducible refine Kd.C_alloc ?_ _) | (with_reducible refine Kd.C_drewN ?_ _) | (with_reducible refine Kd.C_drew ?_)))
                        (case aB => exact (by repeat (first | (with_reducible first | exact HB.out | apply below_alloc | apply pw_below_drewN | apply below_drew1) | exact HB.out)))
                        (case aF => exact (fun _ _ => trivial))
                        (case aO => exact (by (with_reducible repeat (first | apply Kd.R_alloc | apply Kd.R_drewN | apply Kd.R_drew)); exact HO296.out))
                        (case aS => exact (below_size (by repeat (first | (with_reducible first | exact HB.out | apply below_alloc | apply pw_below_drewN | apply below_drew1) | exact HB.out))))
                        (case aL => have := LMc28.out; omega)
                        intro v302 w45 ho hb hg hat
                        rw [← Ny301.out] at ho
                        have n0_ := Aside0.mk (Kd.R_over' (by (with_reducible repeat (first | apply Kd.R_alloc | apply Kd.R_drewN | apply Kd.R_drew)); exact HO286.out) (Kd.R_typed (by (with_reducible repeat (first | apply Kd.R_alloc | apply Kd.R_drewN | apply Kd.R_drew)); exact HO296.out)) (by decide) hg)
                        have n1_ := Aside0.mk (hb)
                        have n2_ := Aside0.mk (ho)
                        clear HO286
                        clear HB
                        clear HO296
                        have HO286 := n0_
                        have HB := n1_
                        have HO303 := n2_
                        clear n0_ n1_ n2_
                        clear ho hb hg hat
                        refine hK.out _ _ trivial (fun hHeld => ?_)
                        clear hK K
                        refine norm_ (a' := ?_) ?_ ?_
                        rotate_left
                        · show Act.put _ (some 60) _ = _
                          simp only [Act.put, List.setIfInBounds_toArray, List.set_cons_zero, List.set_cons_succ, i64_w, i32_w]
                          rfl
                        refine pure_ (i := 9) (N := some 17) (v := ?_) (a' := ?_) #[true, true, true, true, true, true, true, true, true, true] rfl rfl (any_of HT_.out (by kernel_rfl)) (fun _ _ _ h => h) (Or.inl ⟨by rfl, ?_⟩) ?_ ?_
                        rotate_left
                        · intro w'
                          go_simp
                          with_reducible rfl
                        rotate_left
                        · simp only [Act.put, List.setIfInBounds_toArray, List.set_cons_zero, List.set_cons_succ, i64_w, i32_w]
                          rfl
                        refine done_ (done_of HT_.out (by kernel_rfl)) ?_
                        go_upto_region 10 with (first | ((with_reducible refine gate_callee (f := 29) rfl ?_); refine goesL_ (some 67) rfl rfl Try.func29 (by kernel_rfl) rfl #[.slice A0 l0.length c0, .slice A1 l1.length c1, .int .i64 a2, .slice A3 l3.length c3, .int .i64 a4] rfl (by (try simp only [List.map_toArray, List.map_cons, List.map_nil]); first | done | rfl | (simp only [List.length_drop, List.length_take]; rfl)) ?_; (with_reducible refine (medium_Catch.calls kj7 _ _ l0 _ _ l1 a2 _ _ l3 a4 t304 t305 _ ?side1 ?side2 ?side3 ?side4 ?side5 ?side6 A29.out).mono ?_); (case side1 => repeat (first | exact (Kd.C_below HR0.out HB.out) | (with_reducible refine Kd.C_alloc ?_ _) | (with_reducible refine Kd.C_drewN ?_ _) | (with_reducible refine Kd.C_drew ?_))); (case side2 => exact HC0.out); (case side3 => repeat (first | exact (Kd.C_below HR1.out HB.out) | (with_reducible refine Kd.C_alloc ?_ _) | (with_reducible refine Kd.C_drewN ?_ _) | (with_reducible refine Kd.C_drew ?_))); (case side4 => exact HC1.out); (case side5 => repeat (first | exact (Kd.C_below HR3.out HB.out) | (with_reducible refine Kd.C_alloc ?_ _) | (with_reducible refine Kd.C_drewN ?_ _) | (with_reducible refine Kd.C_drew ?_))); (case side6 => exact HC3.out); rintro e w46 ⟨v306, rfl, ho0, hb⟩; refine ⟨_, rfl, ?_⟩; have n0_ := Aside0.mk (Kd.R_below (by (with_reducible repeat (first | apply Kd.R_alloc | apply Kd.R_drewN | apply Kd.R_drew)); exact HO286.out) hb); have n1_ := Aside0.mk (Kd.R_below (by (with_reducible repeat (first | apply Kd.R_alloc | apply Kd.R_drewN | apply Kd.R_drew)); exact HO303.out) hb); have n2_ := Aside0.mk (Kd.R_lower ho0 (below_size (by repeat (first | (with_reducible first | exact HB.out | apply below_alloc | apply pw_below_drewN | apply below_drew1) | exact HB.out)))); have n3_ := Aside0.mk (below_step (by repeat (first | (with_reducible first | exact HB.out | apply below_alloc | apply pw_below_drewN | apply below_drew1) | exact HB.out)) hb); clear HO286; clear HO303; clear HB; have HO286 := n0_; have HO303 := n1_; have HO307 := n2_; have HB := n3_; clear n0_ n1_ n2_ n3_; (try clear hb); (try clear hb2); (try clear hk); (try clear hi); (try clear ho0); obtain ⟨Ao47, co47, eo47⟩ := Kd.R_slice HO286.out; subst eo47; obtain ⟨Ao48, co48, eo48⟩ := Kd.R_slice HO303.out; subst eo48) | ((with_reducible refine gate_callee (f := 29) rfl ?_); refine goesL_ (some 76) rfl rfl Try.func29 (by kernel_rfl) rfl #[.slice Ao47 y284.length co47, .slice Ao48 y301.length co48, .int .i64 a2, .slice A3 l3.length c3, .int .i64 a4] rfl (by (try simp only [List.map_toArray, List.map_cons, List.map_nil]); first | done | rfl | (simp only [List.length_drop, List.length_take]; rfl)) ?_; (with_reducible refine (medium_Catch.calls kj7 _ _ y284 _ _ y301 a2 _ _ l3 a4 t308 t309 _ ?side1 ?side2 ?side3 ?side4 ?side5 ?side6 A30.out).mono ?_); (case side1 => repeat (first | exact (Kd.R_reads' HO286.out).2.2 | (with_reducible refine Kd.C_alloc ?_ _) | (with_reducible refine Kd.C_drewN ?_ _) | (with_reducible refine Kd.C_drew ?_))); (case side2 => exact (Kd.R_reads' HO286.out).2.1); (case side3 => repeat (first | exact (Kd.R_reads' HO303.out).2.2 | (with_reducible refine Kd.C_alloc ?_ _) | (with_reducible refine Kd.C_drewN ?_ _) | (with_reducible refine Kd.C_drew ?_))); (case side4 => exact (Kd.R_reads' HO303.out).2.1); (case side5 => repeat (first | exact (Kd.C_below HR3.out HB.out) | (with_reducible refine Kd.C_alloc ?_ _) | (with_reducible refine Kd.C_drewN ?_ _) | (with_reducible refine Kd.C_drew ?_))); (case side6 => exact HC3.out); rintro e w49 ⟨v310, rfl, ho0, hb⟩; refine ⟨_, rfl, ?_⟩; have n0_ := Aside0.mk (Kd.R_below (by (with_reducible repeat (first | apply Kd.R_alloc | apply Kd.R_drewN | apply Kd.R_drew)); exact HO286.out) hb); have n1_ := Aside0.mk (Kd.R_below (by (with_reducible repeat (first | apply Kd.R_alloc | apply Kd.R_drewN | apply Kd.R_drew)); exact HO303.out) hb); have n2_ := Aside0.mk (Kd.R_elder' (by (with_reducible repeat (first | apply Kd.R_alloc | apply Kd.R_drewN | apply Kd.R_drew)); exact HO307.out) (Kd.R_base ho0) hb); have n3_ := Aside0.mk (Kd.R_lower (Kd.R_new' ho0 (Kd.R_lt (by (with_reducible repeat (first | apply Kd.R_alloc | apply Kd.R_drewN | apply Kd.R_drew)); exact HO307.out))) (below_size (by repeat (first | (with_reducible first | exact HB.out | apply below_alloc | apply pw_below_drewN | apply below_drew1) | exact HB.out)))); have n4_ := Aside0.mk (below_step (by repeat (first | (with_reducible first | exact HB.out | apply below_alloc | apply pw_below_drewN | apply below_drew1) | exact HB.out)) hb); clear HO286; clear HO303; clear HO307; clear HB; have HO286 := n0_; have HO303 := n1_; have HO307 := n2_; have HO311 := n3_; have HB := n4_; clear n0_ n1_ n2_ n3_ n4_; (try clear hb); (try clear hb2); (try clear hk); (try clear hi); (try clear ho0)))
                        (try simp only [Act.put, List.setIfInBounds_toArray, List.set_cons_zero, List.set_cons_succ])
                        go_cut [96] (fun v96 wc => ∃ (kq : Nat) (x96_30 : Bool), v96 = .bool x96_30 ∧ Aside0 (slotmeshlaw17_MediumOrder.j1 kq t268 (l0.length : Int) ji16 t304 t308 x96_30 = some r) ∧ Aside0 (kq ≤ kj7) ∧ Aside0 (Kd.R (Kd.int .i64) 3 wc w.heap.size (fun k_ => some k_ ≠ (v310 : Value).ownBlock) v306 t304) ∧ Aside0 (Kd.R (Kd.int .i64) 3 wc w.heap.size (fun k_ => some k_ ≠ (v306 : Value).ownBlock) v310 t308) ∧ Aside0 (Below w.heap.size w wc))
                        case first =>
                          have H := HC31.out
                          clear HC31
                          by_cases c50 : t305 = 0
                          · rw [if_pos c50] at H
                            have c50b0 : (t305 == 0) = true := beq_iff_eq.mpr c50
                            have c50b1 : (t305 != 0) = false := bne_eq_false_iff_eq.mpr c50
                            clear c50
                            (first | rw [c50b0] | (simp only [i64_w, i32_w]; rw [c50b0]) | skip)
                            by_cases c51 : t309 = 0
                            · rw [if_pos c51] at H
                              have c51b0 : (t309 == 0) = true := beq_iff_eq.mpr c51
                              have c51b1 : (t309 != 0) = false := bne_eq_false_iff_eq.mpr c51
                              clear c51
                              by_cases c52 : (t304.length : Int) = (l0.length : Int)
                              · rw [if_pos c52] at H
                                have c52b0 : ((t304.length : Int) == (l0.length : Int)) = true := beq_iff_eq.mpr c52
                                have c52b1 : ((t304.length : Int) != (l0.length : Int)) = false := bne_eq_false_iff_eq.mpr c52
                                have c52b2 : (t304.length == l0.length) = true := by first | simpa using c52 | (simp at c52 ⊢; omega)
                                clear c52
                                have H' := Aside0.mk H
                                clear H
                                obtain ⟨Ao53, co53, eo53⟩ := Kd.R_slice HO307.out
                                subst eo53
                                obtain ⟨Ao54, co54, eo54⟩ := Kd.R_slice HO311.out
                                subst eo54
                                go_wp2
                                go_meet
                                case rel => exact ⟨_, (((t308.length : Int) != (l0.length : Int))), (by first | rfl | (simp; done) | (simp [*]; done)), H', ⟨by have := HJ7.out; first | omega | exact Nat.le_refl _⟩, ⟨by (with_reducible repeat (first | apply Kd.R_alloc | apply Kd.R_drewN | apply Kd.R_drew)); exact Kd.R_mono HO307.out (fun _ hk => hk.2)⟩, ⟨by (with_reducible repeat (first | apply Kd.R_alloc | apply Kd.R_drewN | apply Kd.R_drew)); exact Kd.R_mono HO311.out (fun _ hk => hk.2)⟩, ⟨by repeat (first | (with_reducible first | exact HB.out | apply below_alloc | apply pw_below_drewN | apply below_drew1) | exact HB.out)⟩⟩
                              · rw [if_neg c52] at H
                                have c52b0 : ((t304.length : Int) == (l0.length : Int)) = false := beq_eq_false_iff_ne.mpr c52
                                have c52b1 : ((t304.length : Int) != (l0.length : Int)) = true := bne_iff_ne.mpr c52
                                have c52b2 : (t304.length == l0.length) = false := by first | simpa using c52 | (simp at c52 ⊢; omega)
                                have H' := Aside0.mk H
                                clear H
                                obtain ⟨Ao55, co55, eo55⟩ := Kd.R_slice HO307.out
                                subst eo55
                                go_wp2
                                go_meet
                                case rel => exact ⟨_, (true), (by first | rfl | (simp; done) | (simp [*]; done)), H', ⟨by have := HJ7.out; first | omega | exact Nat.le_refl _⟩, ⟨by (with_reducible repeat (first | apply Kd.R_alloc | apply Kd.R_drewN | apply Kd.R_drew)); exact Kd.R_mono HO307.out (fun _ hk => hk.2)⟩, ⟨by (with_reducible repeat (first | apply Kd.R_alloc | apply Kd.R_drewN | apply Kd.R_drew)); exact Kd.R_mono HO311.out (fun _ hk => hk.2)⟩, ⟨by repeat (first | (with_reducible first | exact HB.out | apply below_alloc | apply pw_below_drewN | apply below_drew1) | exact HB.out)⟩⟩
                            · rw [if_neg c51] at H
                              have c51b0 : (t309 == 0) = false := beq_eq_false_iff_ne.mpr c51
                              have c51b1 : (t309 != 0) = true := bne_iff_ne.mpr c51
                              have H' := Aside0.mk H
                              clear H
                              go_wp2
                              go_meet
                              case rel => exact ⟨_, (true), (by first | rfl | (simp; done) | (simp [*]; done)), H', ⟨by have := HJ7.out; first | omega | exact Nat.le_refl _⟩, ⟨by (with_reducible repeat (first | apply Kd.R_alloc | apply Kd.R_drewN | apply Kd.R_drew)); exact Kd.R_mono HO307.out (fun _ hk => hk.2)⟩, ⟨by (with_reducible repeat (first | apply Kd.R_alloc | apply Kd.R_drewN | apply Kd.R_drew)); exact Kd.R_mono HO311.out (fun _ hk => hk.2)⟩, ⟨by repeat (first | (with_reducible first | exact HB.out | apply below_alloc | apply pw_below_drewN | apply below_drew1) | exact HB.out)⟩⟩
                          · rw [if_neg c50] at H
                            have c50b0 : (t305 == 0) = false := beq_eq_false_iff_ne.mpr c50
                            have c50b1 : (t305 != 0) = true := bne_iff_ne.mpr c50
                            (first | rw [c50b0] | (simp only [i64_w, i32_w]; rw [c50b0]) | skip)
                            have H' := Aside0.mk H
                            clear H
                            go_wp2
                            go_meet
                            case rel => exact ⟨_, (true), (by first | rfl | (simp; done) | (simp [*]; done)), H', ⟨by have := HJ7.out; first | omega | exact Nat.le_refl _⟩, ⟨by (with_reducible repeat (first | apply Kd.R_alloc | apply Kd.R_drewN | apply Kd.R_drew)); exact Kd.R_mono HO307.out (fun _ hk => hk.2)⟩, ⟨by (with_reducible repeat (first | apply Kd.R_alloc | apply Kd.R_drewN | apply Kd.R_drew)); exact Kd.R_mono HO311.out (fun _ hk => hk.2)⟩, ⟨by repeat (first | (with_reducible first | exact HB.out | apply below_alloc | apply pw_below_drewN | apply below_drew1) | exact HB.out)⟩⟩
                        case rest =>
                          clear HC31
                          try clear c1
                          try clear c2
                          try clear p2
                          try clear c3
                          try clear q3
                          try clear c4
                          try clear q4
                          try clear c5
                          try clear p6
                          try clear c7
                          try clear c11
                          try clear c14
                          try clear c15
                          try clear c15b0
                          try clear c15b1
                          try clear c15b2
                          try clear c17
                          try clear c17b0
                          try clear c17b1
                          try clear c18
                          try clear c18b0
                          try clear c18b1
                          try clear c19
                          try clear c20
                          try clear c20b0
                          try clear c21
                          try clear c21b0
                          try clear c22
                          try clear c23
                          try clear c23b0
                          try clear c24
                          try clear c24b0
                          try clear c24b1
                          try clear c25
                          try clear c26
                          try clear c26b0
                          try clear c27
                          try clear c27b0
                          try clear c28
                          try clear c29
                          try clear c33
                          try clear q33
                          try clear q34
                          try clear c40
                          try clear q40
                          try clear q41
                          try clear c50
                          try clear c50b0
                          try clear c50b1
                          try clear c51
                          try clear c51b0
                          try clear c51b1
                          try clear c52
                          try clear c52b0
                          try clear c52b1
                          try clear c52b2
                          try clear p2
                          try clear q033
                          try clear q040
                          try clear q33
                          try clear q34
                          try clear q40
                          try clear q41
                          obtain ⟨kq, x96_30, rfl, HA, HJ30, HO_18, HO_20, HB⟩ := hcut
                          cases kq with
                          | zero => exact absurd HA.out (by simp [slotmeshlaw17_MediumOrder.j1])
                          | succ kj30 =>
                            have H := HA.out
                            clear HA
                            simp only [slotmeshlaw17_MediumOrder.j1] at H
                            by_cases c56 : x96_30 = true
                            · subst c56
                              have H1 : (some false) = some r := by rw [if_pos rfl] at H; exact H
                              clear H
                              have H := H1
                              clear H1
                              obtain rfl := Option.some.inj H
                              go_wp2
                              go_ret
                              exact ⟨by first | rfl | (simp [errW_none, errW_some] <;> rfl) | (simp only [← hji16]; first | rfl | (simp [errW_none, errW_some] <;> rfl)) | (simp [*, errW_none, errW_some] <;> rfl), by repeat (first | (with_reducible first | exact HB.out | apply below_alloc | apply pw_below_drewN | apply below_drew1) | exact HB.out)⟩
                            · replace c56 := Bool.eq_false_iff.mpr c56
                              subst c56
                              have H1 : (slotmeshlaw17_MediumOrder.l0 kj30 t268 (l0.length : Int) ji16 t304 t308 (l0.length : Int) 0) = some r := by rw [if_neg (show ¬ (false = true) by decide)] at H; exact H
                              clear H
                              have H := H1
                              clear H1
                              have H' := Aside0.mk H
                              clear H
                              go_wp2
                              go_loopg [98] kj30 (fun kq v98 w' => ∃ (x98_3 : Int), v98 = .int .i64 x98_3 ∧ Aside0 (slotmeshlaw17_MediumOrder.l0 kq t268 (l0.length : Int) ji16 t304 t308 (l0.length : Int) x98_3 = some r) ∧ Aside0 (kq ≤ kj30) ∧ Aside0 (Kd.R (Kd.int .i64) 3 w' w.heap.size (fun k_ => some k_ ≠ (v310 : Value).ownBlock) v306 t304) ∧ Aside0 (Kd.R (Kd.int .i64) 3 w' w.heap.size (fun k_ => some k_ ≠ (v306 : Value).ownBlock) v310 t308) ∧ Aside0 (Below w.heap.size w w'))
                              case atStart => exact ⟨(0), (by first | rfl | (simp; done) | (simp [*]; done)), H', ⟨Nat.le_refl _⟩, ⟨by (with_reducible repeat (first | apply Kd.R_alloc | apply Kd.R_drewN | apply Kd.R_drew)); exact HO_18.out⟩, ⟨by (with_reducible repeat (first | apply Kd.R_alloc | apply Kd.R_drewN | apply Kd.R_drew)); exact HO_20.out⟩, ⟨by repeat (first | (with_reducible first | exact HB.out | apply below_alloc | apply pw_below_drewN | apply below_drew1) | exact HB.out)⟩⟩
                              case round =>
                                clear H'
                                try clear c1
                                try clear c2
                                try clear p2
                                try clear c3
                                try clear q3
                                try clear c4
                                try clear q4
                                try clear c5
                                try clear p6
                                try clear c7
                                try clear c11
                                try clear c14
                                try clear c15
                                try clear c15b0
                                try clear c15b1
                                try clear c15b2
                                try clear c17
                                try clear c17b0
                                try clear c17b1
                                try clear c18
                                try clear c18b0
                                try clear c18b1
                                try clear c19
                                try clear c20
                                try clear c20b0
                                try clear c21
                                try clear c21b0
                                try clear c22
                                try clear c23
                                try clear c23b0
                                try clear c24
                                try clear c24b0
                                try clear c24b1
                                try clear c25
                                try clear c26
                                try clear c26b0
                                try clear c27
                                try clear c27b0
                                try clear c28
                                try clear c29
                                try clear c33
                                try clear q33
                                try clear q34
                                try clear c40
                                try clear q40
                                try clear q41
                                try clear c50
                                try clear c50b0
                                try clear c50b1
                                try clear c51
                                try clear c51b0
                                try clear c51b1
                                try clear c52
                                try clear c52b0
                                try clear c52b1
                                try clear c52b2
                                try clear c56
                                try clear p2
                                try clear p6
                                try clear q033
                                try clear q040
                                try clear q3
                                try clear q33
                                try clear q34
                                try clear q4
                                try clear q40
                                try clear q41
                                obtain ⟨x98_3, rfl, HA, HK3, HO_18, HO_20, HB⟩ := hrel
                                cases gk with
                                | zero => exact absurd HA.out (by simp [slotmeshlaw17_MediumOrder.l0])
                                | succ k3 =>
                                  have H := HA.out
                                  clear HA
                                  simp only [slotmeshlaw17_MediumOrder.l0] at H
                                  by_cases c57 : x98_3 < (l0.length : Int)
                                  · rw [if_pos c57] at H
                                    have c57b0 : decide (x98_3 < (l0.length : Int)) = true := decide_eq_true c57
                                    clear c57
                                    by_cases c58 : 0 ≤ x98_3
                                    · rw [if_pos c58] at H
                                      have c58b0 : decide (0 ≤ x98_3) = true := decide_eq_true c58
                                      clear c58
                                      by_cases c59 : x98_3 < (t304.length : Int)
                                      · rw [if_pos c59] at H
                                        have c59b0 : decide (x98_3 < (t304.length : Int)) = true := decide_eq_true c59
                                        clear c59
                                        by_cases c60 : (rd t304 x98_3) ≥ 0
                                        · rw [if_pos c60] at H
                                          have c60b0 : decide (0 ≤ (rd t304 x98_3)) = true := decide_eq_true c60
                                          clear c60
                                          by_cases c61 : (l0.length : Int) = 0
                                          · rw [if_pos c61] at H
                                            exact absurd H (by simp)
                                          · rw [if_neg c61] at H
                                            have c61b0 : ((l0.length : Int) == 0) = false := beq_eq_false_iff_ne.mpr c61
                                            have c61b1 : ((l0.length : Int) != 0) = true := bne_iff_ne.mpr c61
                                            have c61b2 : ¬ (l0 = []) := fun h_ => c61 (by rw [h_]; rfl)
                                            obtain ⟨ji62, hji62⟩ : ∃ j_ : Int, (Int.tmod (wrap64 ((wrap64 (x98_3 - ji16)) + (l0.length : Int))) (l0.length : Int)) = j_ := ⟨_, rfl⟩
                                            replace H : (if 0 ≤ (ji62) then (if (ji62) < (t308.length : Int) then (if (rd t308 (ji62)) = (Int.tmod (wrap64 ((wrap64 ((rd t304 x98_3) - ji16)) + (l0.length : Int))) (l0.length : Int)) then (slotmeshlaw17_MediumOrder.l0 k3 t268 (l0.length : Int) ji16 t304 t308 (l0.length : Int) (wrap64 (x98_3 + 1))) else (some false)) else (none)) else (none)) = some r := by first | (rw [hji62] at H; exact H) | (simp only [hji62] at H ⊢; exact H)
                                            by_cases c63 : 0 ≤ (ji62)
                                            · rw [if_pos c63] at H
                                              have c63b0 : decide (0 ≤ (ji62)) = true := decide_eq_true c63
                                              clear c63
                                              by_cases c64 : (ji62) < (t308.length : Int)
                                              · rw [if_pos c64] at H
                                                have c64b0 : decide ((ji62) < (t308.length : Int)) = true := decide_eq_true c64
                                                clear c64
                                                by_cases c65 : (rd t308 (ji62)) = (Int.tmod (wrap64 ((wrap64 ((rd t304 x98_3) - ji16)) + (l0.length : Int))) (l0.length : Int))
                                                · rw [if_pos c65] at H
                                                  have c65b0 : ((rd t308 (ji62)) == (Int.tmod (wrap64 ((wrap64 ((rd t304 x98_3) - ji16)) + (l0.length : Int))) (l0.length : Int))) = true := beq_iff_eq.mpr c65
                                                  have c65b1 : ((rd t308 (ji62)) != (Int.tmod (wrap64 ((wrap64 ((rd t304 x98_3) - ji16)) + (l0.length : Int))) (l0.length : Int))) = false := bne_eq_false_iff_eq.mpr c65
                                                  clear c65
                                                  have H' := Aside0.mk H
                                                  clear H
                                                  obtain ⟨Ao66, co66, eo66⟩ := Kd.R_slice HO_18.out
                                                  subst eo66
                                                  have p312 : 0 ≤ (x98_3 : Int) := of_decide_eq_true (by first | (with_reducible assumption) | assumption)
                                                  have q312 : x98_3 < (t304.length : Int) := of_decide_eq_true (by first | (with_reducible assumption) | assumption)
                                                  obtain ⟨ad312, e312, hx312_0⟩ := Kd.at_int (Kd.R_reads' HO_18.out).2.2 x98_3 p312 q312
                                                  cases e312
                                                  replace p312 := eq_true p312
                                                  replace q312 := eq_true q312
                                                  obtain ⟨Ao67, co67, eo67⟩ := Kd.R_slice HO_20.out
                                                  subst eo67
                                                  have p313 : 0 ≤ ((ji62) : Int) := of_decide_eq_true (by first | (with_reducible assumption) | assumption)
                                                  have q313 : (ji62) < (t308.length : Int) := of_decide_eq_true (by first | (with_reducible assumption) | assumption)
                                                  obtain ⟨ad313, e313, hx313_0⟩ := Kd.at_int (Kd.R_reads' HO_20.out).2.2 (ji62) p313 q313
                                                  cases e313
                                                  replace p313 := eq_true p313
                                                  replace q313 := eq_true q313
                                                  go_wp2
                                                  go_roundg k3
                                                  case measure => have := HJ7.out; have := HJ30.out; have := HK3.out; omega
                                                  case rel => exact ⟨(wrap64 (x98_3 + 1)), (by first | rfl | (simp; done) | (simp [*]; done)), H', ⟨by have := HJ7.out; have := HJ30.out; have := HK3.out; omega⟩, ⟨by (with_reducible repeat (first | apply Kd.R_alloc | apply Kd.R_drewN | apply Kd.R_drew)); exact HO_18.out⟩, ⟨by (with_reducible repeat (first | apply Kd.R_alloc | apply Kd.R_drewN | apply Kd.R_drew)); exact HO_20.out⟩, ⟨by repeat (first | (with_reducible first | exact HB.out | apply below_alloc | apply pw_below_drewN | apply below_drew1) | exact HB.out)⟩⟩
                                                · rw [if_neg c65] at H
                                                  have c65b0 : ((rd t308 (ji62)) == (Int.tmod (wrap64 ((wrap64 ((rd t304 x98_3) - ji16)) + (l0.length : Int))) (l0.length : Int))) = false := beq_eq_false_iff_ne.mpr c65
                                                  have c65b1 : ((rd t308 (ji62)) != (Int.tmod (wrap64 ((wrap64 ((rd t304 x98_3) - ji16)) + (l0.length : Int))) (l0.length : Int))) = true := bne_iff_ne.mpr c65
                                                  obtain rfl := Option.some.inj H
                                                  obtain ⟨Ao68, co68, eo68⟩ := Kd.R_slice HO_18.out
                                                  subst eo68
                                                  have p312 : 0 ≤ (x98_3 : Int) := of_decide_eq_true (by first | (with_reducible assumption) | assumption)
                                                  have q312 : x98_3 < (t304.length : Int) := of_decide_eq_true (by first | (with_reducible assumption) | assumption)
                                                  obtain ⟨ad312, e312, hx312_0⟩ := Kd.at_int (Kd.R_reads' HO_18.out).2.2 x98_3 p312 q312
                                                  cases e312
                                                  replace p312 := eq_true p312
                                                  replace q312 := eq_true q312
                                                  obtain ⟨Ao69, co69, eo69⟩ := Kd.R_slice HO_20.out
                                                  subst eo69
                                                  have p313 : 0 ≤ ((ji62) : Int) := of_decide_eq_true (by first | (with_reducible assumption) | assumption)
                                                  have q313 : (ji62) < (t308.length : Int) := of_decide_eq_true (by first | (with_reducible assumption) | assumption)
                                                  obtain ⟨ad313, e313, hx313_0⟩ := Kd.at_int (Kd.R_reads' HO_20.out).2.2 (ji62) p313 q313
                                                  cases e313
                                                  replace p313 := eq_true p313
                                                  replace q313 := eq_true q313
                                                  go_wp2
                                                  go_ret
                                                  exact ⟨by first | rfl | (simp [errW_none, errW_some] <;> rfl) | (simp only [← hji16, ← hji62]; first | rfl | (simp [errW_none, errW_some] <;> rfl)) | (simp [*, errW_none, errW_some] <;> rfl), by repeat (first | (with_reducible first | exact HB.out | apply below_alloc | apply pw_below_drewN | apply below_drew1) | exact HB.out)⟩
                                              · rw [if_neg c64] at H
                                                exact absurd H (by simp)
                                            · rw [if_neg c63] at H
                                              exact absurd H (by simp)
                                        · rw [if_neg c60] at H
                                          have c60b0 : decide (0 ≤ (rd t304 x98_3)) = false := decide_eq_false c60
                                          clear c60
                                          by_cases c70 : (l0.length : Int) = 0
                                          · rw [if_pos c70] at H
                                            exact absurd H (by simp)
                                          · rw [if_neg c70] at H
                                            have c70b0 : ((l0.length : Int) == 0) = false := beq_eq_false_iff_ne.mpr c70
                                            have c70b1 : ((l0.length : Int) != 0) = true := bne_iff_ne.mpr c70
                                            have c70b2 : ¬ (l0 = []) := fun h_ => c70 (by rw [h_]; rfl)
                                            obtain ⟨ji71, hji71⟩ : ∃ j_ : Int, (Int.tmod (wrap64 ((wrap64 (x98_3 - ji16)) + (l0.length : Int))) (l0.length : Int)) = j_ := ⟨_, rfl⟩
                                            replace H : (if 0 ≤ (ji71) then (if (ji71) < (t308.length : Int) then (if (rd t308 (ji71)) = (rd t304 x98_3) then (slotmeshlaw17_MediumOrder.l0 k3 t268 (l0.length : Int) ji16 t304 t308 (l0.length : Int) (wrap64 (x98_3 + 1))) else (some false)) else (none)) else (none)) = some r := by first | (rw [hji71] at H; exact H) | (simp only [hji71] at H ⊢; exact H)
                                            by_cases c72 : 0 ≤ (ji71)
                                            · rw [if_pos c72] at H
                                              have c72b0 : decide (0 ≤ (ji71)) = true := decide_eq_true c72
                                              clear c72
                                              by_cases c73 : (ji71) < (t308.length : Int)
                                              · rw [if_pos c73] at H
                                                have c73b0 : decide ((ji71) < (t308.length : Int)) = true := decide_eq_true c73
                                                clear c73
                                                by_cases c74 : (rd t308 (ji71)) = (rd t304 x98_3)
                                                · rw [if_pos c74] at H
                                                  have c74b0 : ((rd t308 (ji71)) == (rd t304 x98_3)) = true := beq_iff_eq.mpr c74
                                                  have c74b1 : ((rd t308 (ji71)) != (rd t304 x98_3)) = false := bne_eq_false_iff_eq.mpr c74
                                                  clear c74
                                                  have H' := Aside0.mk H
                                                  clear H
                                                  obtain ⟨Ao75, co75, eo75⟩ := Kd.R_slice HO_18.out
                                                  subst eo75
                                                  have p312 : 0 ≤ (x98_3 : Int) := of_decide_eq_true (by first | (with_reducible assumption) | assumption)
                                                  have q312 : x98_3 < (t304.length : Int) := of_decide_eq_true (by first | (with_reducible assumption) | assumption)
                                                  obtain ⟨ad312, e312, hx312_0⟩ := Kd.at_int (Kd.R_reads' HO_18.out).2.2 x98_3 p312 q312
                                                  cases e312
                                                  replace p312 := eq_true p312
                                                  replace q312 := eq_true q312
                                                  obtain ⟨Ao76, co76, eo76⟩ := Kd.R_slice HO_20.out
                                                  subst eo76
                                                  have p314 : 0 ≤ ((ji71) : Int) := of_decide_eq_true (by first | (with_reducible assumption) | assumption)
                                                  have q314 : (ji71) < (t308.length : Int) := of_decide_eq_true (by first | (with_reducible assumption) | assumption)
                                                  obtain ⟨ad314, e314, hx314_0⟩ := Kd.at_int (Kd.R_reads' HO_20.out).2.2 (ji71) p314 q314
                                                  cases e314
                                                  replace p314 := eq_true p314
                                                  replace q314 := eq_true q314
                                                  go_wp2
                                                  go_roundg k3
                                                  case measure => have := HJ7.out; have := HJ30.out; have := HK3.out; omega
                                                  case rel => exact ⟨(wrap64 (x98_3 + 1)), (by first | rfl | (simp; done) | (simp [*]; done)), H', ⟨by have := HJ7.out; have := HJ30.out; have := HK3.out; omega⟩, ⟨by (with_reducible repeat (first | apply Kd.R_alloc | apply Kd.R_drewN | apply Kd.R_drew)); exact HO_18.out⟩, ⟨by (with_reducible repeat (first | apply Kd.R_alloc | apply Kd.R_drewN | apply Kd.R_drew)); exact HO_20.out⟩, ⟨by repeat (first | (with_reducible first | exact HB.out | apply below_alloc | apply pw_below_drewN | apply below_drew1) | exact HB.out)⟩⟩
                                                · rw [if_neg c74] at H
                                                  have c74b0 : ((rd t308 (ji71)) == (rd t304 x98_3)) = false := beq_eq_false_iff_ne.mpr c74
                                                  have c74b1 : ((rd t308 (ji71)) != (rd t304 x98_3)) = true := bne_iff_ne.mpr c74
                                                  obtain rfl := Option.some.inj H
                                                  obtain ⟨Ao77, co77, eo77⟩ := Kd.R_slice HO_18.out
                                                  subst eo77
                                                  have p312 : 0 ≤ (x98_3 : Int) := of_decide_eq_true (by first | (with_reducible assumption) | assumption)
                                                  have q312 : x98_3 < (t304.length : Int) := of_decide_eq_true (by first | (with_reducible assumption) | assumption)
                                                  obtain ⟨ad312, e312, hx312_0⟩ := Kd.at_int (Kd.R_reads' HO_18.out).2.2 x98_3 p312 q312
                                                  cases e312
                                                  replace p312 := eq_true p312
                                                  replace q312 := eq_true q312
                                                  obtain ⟨Ao78, co78, eo78⟩ := Kd.R_slice HO_20.out
                                                  subst eo78
                                                  have p314 : 0 ≤ ((ji71) : Int) := of_decide_eq_true (by first | (with_reducible assumption) | assumption)
                                                  have q314 : (ji71) < (t308.length : Int) := of_decide_eq_true (by first | (with_reducible assumption) | assumption)
                                                  obtain ⟨ad314, e314, hx314_0⟩ := Kd.at_int (Kd.R_reads' HO_20.out).2.2 (ji71) p314 q314
                                                  cases e314
                                                  replace p314 := eq_true p314
                                                  replace q314 := eq_true q314
                                                  go_wp2
                                                  go_ret
                                                  exact ⟨by first | rfl | (simp [errW_none, errW_some] <;> rfl) | (simp only [← hji16, ← hji71]; first | rfl | (simp [errW_none, errW_some] <;> rfl)) | (simp [*, errW_none, errW_some] <;> rfl), by repeat (first | (with_reducible first | exact HB.out | apply below_alloc | apply pw_below_drewN | apply below_drew1) | exact HB.out)⟩
                                              · rw [if_neg c73] at H
                                                exact absurd H (by simp)
                                            · rw [if_neg c72] at H
                                              exact absurd H (by simp)
                                      · rw [if_neg c59] at H
                                        exact absurd H (by simp)
                                    · rw [if_neg c58] at H
                                      exact absurd H (by simp)
                                  · rw [if_neg c57] at H
                                    have c57b0 : decide (x98_3 < (l0.length : Int)) = false := decide_eq_false c57
                                    clear c57
                                    obtain rfl := Option.some.inj H
                                    go_wp2
                                    go_ret
                                    exact ⟨by first | rfl | (simp [errW_none, errW_some] <;> rfl) | (simp only [← hji16]; first | rfl | (simp [errW_none, errW_some] <;> rfl)) | (simp [*, errW_none, errW_some] <;> rfl), by repeat (first | (with_reducible first | exact HB.out | apply below_alloc | apply pw_below_drewN | apply below_drew1) | exact HB.out)⟩
                      · rw [if_neg c28] at H
                        exact absurd H (by simp)
                    · rw [if_neg c25] at H
                      exact absurd H (by simp)
                  · rw [if_neg c24] at H
                    exact absurd H (by simp)
                · rw [if_neg c22] at H
                  exact absurd H (by simp)
              · rw [if_neg c19] at H
                exact absurd H (by simp)
            · rw [if_neg c18] at H
              exact absurd H (by simp)
          · rw [if_neg c17] at H
            exact absurd H (by simp)
end Go.Proofs.Ytcgbfkplhlngjaa.PA
