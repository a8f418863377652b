/- What slotmeshlaw17_MediumMore (function 15) computes, as a Lean function, and that its call comes to just that; made by a program of this session in the manner of the print. -/
import Derived.Test.YtcgbfkplhlngjaaT0
import Derived.Test.YtcgbfkplhlngjaaCat
import Derived.Test.YtcgbfkplhlngjaaF28
import Derived.Test.YtcgbfkplhlngjaaHd17
import Derived.Test.YtcgbfkplhlngjaaHr34
namespace Go.Proofs.Ytcgbfkplhlngjaa.PA
open Go.RowKit Go.Proofs.YtcgbfkplhlngjaaW.PrintWords Go.Proofs.YtcgbfkplhlngjaaW.PrintLast Go.Proofs.YtcgbfkplhlngjaaW.PrintMore
attribute [local go_sem] max2_int min2_int max_two min_two max_three min_three max_four min_four   -- for this text's walks alone
set_option linter.unusedVariables false
set_option linter.unusedSimpArgs false

theorem bindE_F15 {α β : Type} {x : α} {f : α → Option β} {r : β} (H : (some x).bind f = some r) : ∃ y, y = x ∧ f y = some r := ⟨x, rfl, H⟩
/-! ### slotmeshlaw17_MediumMore: function 15 -/
mutual
def slotmeshlaw17_MediumMore.j0 : Nat → List (S50) → List (S25) → Int → List (S42) → Int → Bool → List (S50) → List (S25) → Bool → Option (Bool)
 | 0, _, _, _, _, _, _, _, _, _ => none
 | k + 1, x0, x1, x2, x3, x4, x15, x16, x17, x53 => if x53 = true then (some x15) else ((medium_Catch.f k x0 x1 x2 x3 x4).bind fun bt237 => ((medium_Catch.f k x16 x17 x2 x3 x4).bind fun bt241 => (if bt237.2 = 0 then (if bt241.2 = 0 then (if (bt237.1.length : Int) = (x0.length : Int) then (if (bt241.1.length : Int) = (wrap64 ((x0.length : Int) + 1)) then (if 0 ≤ (x0.length : Int) then (if (x0.length : Int) < (bt241.1.length : Int) then (slotmeshlaw17_MediumMore.j1 k x2 x15 x16 x17 bt237.1 bt241.1 (x0.length : Int) ((rd bt241.1 (x0.length : Int)) != (-1))) else (none)) else (none)) else (slotmeshlaw17_MediumMore.j1 k x2 x15 x16 x17 bt237.1 bt241.1 (x0.length : Int) true)) else (slotmeshlaw17_MediumMore.j1 k x2 x15 x16 x17 bt237.1 bt241.1 (x0.length : Int) true)) else (slotmeshlaw17_MediumMore.j1 k x2 x15 x16 x17 bt237.1 bt241.1 (x0.length : Int) true)) else (slotmeshlaw17_MediumMore.j1 k x2 x15 x16 x17 bt237.1 bt241.1 (x0.length : Int) true))))
def slotmeshlaw17_MediumMore.j1 : Nat → Int → Bool → List (S50) → List (S25) → List Int → List Int → Int → Bool → Option (Bool)
 | 0, _, _, _, _, _, _, _, _ => none
 | k + 1, x2, x15, x16, x17, x18, x20, x22, x100 => if x100 = true then (some false) else (slotmeshlaw17_MediumMore.l0 k x2 x15 x16 x17 x18 x20 x22 x22 0)
def slotmeshlaw17_MediumMore.l0 : Nat → Int → Bool → List (S50) → List (S25) → List Int → List Int → Int → Int → Int → Option (Bool)
 | 0, _, _, _, _, _, _, _, _, _ => none
 | k + 1, x2, x15, x16, x17, x18, x20, x22, x101, x102 => if x102 < x101 then ((slotmeshlaw17_heard.f x16 x17 x2 x22 x102).bind fun t246 => (if t246 = true then (if 0 ≤ x102 then (if x102 < (x20.length : Int) then (if (rd x20 x102) = x22 then (if x102 < (x18.length : Int) then (if (rd x18 x102) = (-1) then (slotmeshlaw17_MediumMore.l0 k x2 x15 x16 x17 x18 x20 x22 x101 (wrap64 (x102 + 1))) else (some false)) else (none)) else (if (rd x20 x102) = (-1) then (if x102 < (x18.length : Int) then (if (rd x18 x102) = (-1) then (slotmeshlaw17_MediumMore.l0 k x2 x15 x16 x17 x18 x20 x22 x101 (wrap64 (x102 + 1))) else (if (rd x20 x102) = (-2) then (slotmeshlaw17_MediumMore.l0 k x2 x15 x16 x17 x18 x20 x22 x101 (wrap64 (x102 + 1))) else (some false))) else (none)) else (if (rd x20 x102) = (-2) then (if x102 < (x18.length : Int) then (if (rd x18 x102) = (-1) then (slotmeshlaw17_MediumMore.l0 k x2 x15 x16 x17 x18 x20 x22 x101 (wrap64 (x102 + 1))) else (slotmeshlaw17_MediumMore.l0 k x2 x15 x16 x17 x18 x20 x22 x101 (wrap64 (x102 + 1)))) else (none)) else (some false)))) else (none)) else (none)) else (if 0 ≤ x102 then (if x102 < (x18.length : Int) then (if x102 < (x20.length : Int) then (if (rd x18 x102) = (rd x20 x102) then (slotmeshlaw17_MediumMore.l0 k x2 x15 x16 x17 x18 x20 x22 x101 (wrap64 (x102 + 1))) else (some false)) else (none)) else (none)) else (none)))) else (some x15)
end
def slotmeshlaw17_MediumMore.f (k : Nat) (l0 : List (S50)) (l1 : List (S25)) (a2 : Int) (l3 : List (S42)) (a4 : Int) (a5_0 : Int) (a5_1 : Int) (a5_2 : Int) (a5_3 : Int) (a5_4 : Int) (a6_0 : Int) (a6_1 : Int) : Option (Bool) := (slotmeshlaw17_head.f).bind fun t210 => ((some (([] : List (S50)) : List (S50))).bind fun y211 => (if y211.length + l0.length < 3518437208883 then ((some (y211 ++ l0 : List (S50))).bind fun y214 => ((some (([(⟨2, a5_1, a5_2, (⟨a5_3, a5_4⟩ : S48)⟩ : S50)] : List (S50)) : List (S50))).bind fun y217 => (if y214.length + y217.length < 3518437208883 then ((some (y214 ++ y217 : List (S50))).bind fun y220 => ((some (([] : List (S25)) : List (S25))).bind fun y223 => (if y223.length + l1.length < 8796093022208 then ((some (y223 ++ l1 : List (S25))).bind fun y226 => ((some (([(⟨a6_0, a6_1⟩ : S25)] : List (S25)) : List (S25))).bind fun y229 => (if y226.length + y229.length < 8796093022208 then ((some (y226 ++ y229 : List (S25))).bind fun y232 => ((slotmeshlaw17_valid.f k l0 l1 a2 l3 a4).bind fun t235 => (if t235 = true then ((slotmeshlaw17_valid.f k y220 y232 a2 l3 a4).bind fun t236 => (slotmeshlaw17_MediumMore.j0 k l0 l1 a2 l3 a4 t210 y220 y232 (!t236))) else (slotmeshlaw17_MediumMore.j0 k l0 l1 a2 l3 a4 t210 y220 y232 true)))) else (none)))) else (none)))) else (none)))) else (none)))
theorem slotmeshlaw17_MediumMore.mono_l : ∀ k, (∀ y0 y1 y2 y3 y4 y5 y6 y7 y8, LeO (slotmeshlaw17_MediumMore.j0 k y0 y1 y2 y3 y4 y5 y6 y7 y8) (slotmeshlaw17_MediumMore.j0 (k + 1) y0 y1 y2 y3 y4 y5 y6 y7 y8)) ∧ (∀ y0 y1 y2 y3 y4 y5 y6 y7, LeO (slotmeshlaw17_MediumMore.j1 k y0 y1 y2 y3 y4 y5 y6 y7) (slotmeshlaw17_MediumMore.j1 (k + 1) y0 y1 y2 y3 y4 y5 y6 y7)) ∧ (∀ y0 y1 y2 y3 y4 y5 y6 y7 y8, LeO (slotmeshlaw17_MediumMore.l0 k y0 y1 y2 y3 y4 y5 y6 y7 y8) (slotmeshlaw17_MediumMore.l0 (k + 1) y0 y1 y2 y3 y4 y5 y6 y7 y8))
 | 0 => ⟨fun _ _ _ _ _ _ _ _ _ r h => by simp [slotmeshlaw17_MediumMore.j0] at h, fun _ _ _ _ _ _ _ _ r h => by simp [slotmeshlaw17_MediumMore.j1] at h, fun _ _ _ _ _ _ _ _ _ r h => by simp [slotmeshlaw17_MediumMore.l0] at h⟩
 | k + 1 => by
  obtain ⟨ih0, ih1, ih2⟩ := slotmeshlaw17_MediumMore.mono_l k
  refine ⟨?_, ?_, ?_⟩
  ·
   intro y0 y1 y2 y3 y4 y5 y6 y7 y8
   unfold slotmeshlaw17_MediumMore.j0
   repeat' first
   | (with_reducible exact ih0 _ _ _ _ _ _ _ _ _)
   | (with_reducible exact ih1 _ _ _ _ _ _ _ _)
   | (with_reducible exact ih2 _ _ _ _ _ _ _ _ _)
   | (with_reducible exact medium_Catch.mono _ _ _ _ _ _)
   | (with_reducible exact slotmeshlaw17_valid.mono _ _ _ _ _ _)
   | (with_reducible exact LeO.refl _)
   | (with_reducible exact LeO.none _)
   | (with_reducible refine LeO.ite ?_ ?_)
   | (with_reducible refine LeO.bind ?_ (fun _ => ?_))
   | exact ih0 _ _ _ _ _ _ _ _ _
   | exact ih1 _ _ _ _ _ _ _ _
   | exact ih2 _ _ _ _ _ _ _ _ _
   | exact medium_Catch.mono _ _ _ _ _ _
   | exact slotmeshlaw17_valid.mono _ _ _ _ _ _
   | exact LeO.none _
   | refine LeO.ite ?_ ?_
   | refine LeO.bind ?_ (fun _ => ?_)
  ·
   intro y0 y1 y2 y3 y4 y5 y6 y7
   unfold slotmeshlaw17_MediumMore.j1
   repeat' first
   | (with_reducible exact ih0 _ _ _ _ _ _ _ _ _)
   | (with_reducible exact ih1 _ _ _ _ _ _ _ _)
   | (with_reducible exact ih2 _ _ _ _ _ _ _ _ _)
   | (with_reducible exact medium_Catch.mono _ _ _ _ _ _)
   | (with_reducible exact slotmeshlaw17_valid.mono _ _ _ _ _ _)
   | (with_reducible exact LeO.refl _)
   | (with_reducible exact LeO.none _)
   | (with_reducible refine LeO.ite ?_ ?_)
   | (with_reducible refine LeO.bind ?_ (fun _ => ?_))
   | exact ih0 _ _ _ _ _ _ _ _ _
   | exact ih1 _ _ _ _ _ _ _ _
   | exact ih2 _ _ _ _ _ _ _ _ _
   | exact medium_Catch.mono _ _ _ _ _ _
   | exact slotmeshlaw17_valid.mono _ _ _ _ _ _
   | exact LeO.none _
   | refine LeO.ite ?_ ?_
   | refine LeO.bind ?_ (fun _ => ?_)
  ·
   intro y0 y1 y2 y3 y4 y5 y6 y7 y8
   unfold slotmeshlaw17_MediumMore.l0
   repeat' first
   | (with_reducible exact ih0 _ _ _ _ _ _ _ _ _)
   | (with_reducible exact ih1 _ _ _ _ _ _ _ _)
   | (with_reducible exact ih2 _ _ _ _ _ _ _ _ _)
   | (with_reducible exact medium_Catch.mono _ _ _ _ _ _)
   | (with_reducible exact slotmeshlaw17_valid.mono _ _ _ _ _ _)
   | (with_reducible exact LeO.refl _)
   | (with_reducible exact LeO.none _)
   | (with_reducible refine LeO.ite ?_ ?_)
   | (with_reducible refine LeO.bind ?_ (fun _ => ?_))
   | exact ih0 _ _ _ _ _ _ _ _ _
   | exact ih1 _ _ _ _ _ _ _ _
   | exact ih2 _ _ _ _ _ _ _ _ _
   | exact medium_Catch.mono _ _ _ _ _ _
   | exact slotmeshlaw17_valid.mono _ _ _ _ _ _
   | exact LeO.none _
   | refine LeO.ite ?_ ?_
   | refine LeO.bind ?_ (fun _ => ?_)
theorem slotmeshlaw17_MediumMore.mono : ∀ a0 a1 a2 a3 a4 a5 a6 a7 a8 a9 a10 a11 k, LeO (slotmeshlaw17_MediumMore.f k a0 a1 a2 a3 a4 a5 a6 a7 a8 a9 a10 a11) (slotmeshlaw17_MediumMore.f (k + 1) a0 a1 a2 a3 a4 a5 a6 a7 a8 a9 a10 a11) := by
 intro a0 a1 a2 a3 a4 a5 a6 a7 a8 a9 a10 a11 k
 obtain ⟨ih0, ih1, ih2⟩ := slotmeshlaw17_MediumMore.mono_l k
 unfold slotmeshlaw17_MediumMore.f
 repeat' first
   | (with_reducible exact ih0 _ _ _ _ _ _ _ _ _)
   | (with_reducible exact ih1 _ _ _ _ _ _ _ _)
   | (with_reducible exact ih2 _ _ _ _ _ _ _ _ _)
   | (with_reducible exact medium_Catch.mono _ _ _ _ _ _)
   | (with_reducible exact slotmeshlaw17_valid.mono _ _ _ _ _ _)
   | (with_reducible exact LeO.refl _)
   | (with_reducible exact LeO.none _)
   | (with_reducible refine LeO.ite ?_ ?_)
   | (with_reducible refine LeO.bind ?_ (fun _ => ?_))
   | exact ih0 _ _ _ _ _ _ _ _ _
   | exact ih1 _ _ _ _ _ _ _ _
   | exact ih2 _ _ _ _ _ _ _ _ _
   | exact medium_Catch.mono _ _ _ _ _ _
   | exact slotmeshlaw17_valid.mono _ _ _ _ _ _
   | exact LeO.none _
   | refine LeO.ite ?_ ?_
   | refine LeO.bind ?_ (fun _ => ?_)
def slotmeshlaw17_MediumMore.T3 : Bool × List (List Nat × List Nat) := (true, [([], []), ([], []), ([0, 1], [0, 1]), ([], []), ([3], [3]), ([2, 4, 2], [2, 4]), ([], []), ([], []), ([6, 7, 5], [6, 7]), ([], []), ([9], [9]), ([8, 10, 8], [8, 10]), ([5, 11, 0, 1, 2, 3, 4, 5], [5]), ([11, 12, 0, 1, 2, 3, 4, 5, 6, 7, 8, 9, 10, 11, 12], [11])])
def slotmeshlaw17_MediumMore.B3 : List Nat := [0, 0, 3, 0, 8, 31, 0, 0, 255, 0, 512, 2047, 4095, 8191]
theorem slotmeshlaw17_MediumMore.tab3 : rtab .any (opsOf Try.f15 3) = slotmeshlaw17_MediumMore.T3 := by kernel_rfl
theorem slotmeshlaw17_MediumMore.bits3 : waitsOk slotmeshlaw17_MediumMore.T3.2 slotmeshlaw17_MediumMore.B3 = true := by kernel_rfl
def slotmeshlaw17_MediumMore.T15 : Bool × List (List Nat × List Nat) := (true, [([], []), ([], []), ([0, 1], [0, 1]), ([2], [2]), ([], []), ([], []), ([4, 5], [4, 5]), ([6], [6]), ([3, 7], [3, 7])])
def slotmeshlaw17_MediumMore.B15 : List Nat := [0, 0, 3, 7, 0, 0, 48, 112, 255]
theorem slotmeshlaw17_MediumMore.tab15 : rtab .any (opsOf Try.f15 15) = slotmeshlaw17_MediumMore.T15 := by kernel_rfl
theorem slotmeshlaw17_MediumMore.bits15 : waitsOk slotmeshlaw17_MediumMore.T15.2 slotmeshlaw17_MediumMore.B15 = true := by kernel_rfl
set_option maxHeartbeats 8000000 in
set_option maxRecDepth 100000 in
theorem slotmeshlaw17_MediumMore.calls (k : Nat) (A0 : Option Addr) (c0 : Nat) (l0 : List (S50)) (A1 : Option Addr) (c1 : Nat) (l1 : List (S25)) (a2 : Int) (A3 : Option Addr) (c3 : Nat) (l3 : List (S42)) (a4 : Int) (a5_0 : Int) (a5_1 : Int) (a5_2 : Int) (a5_3 : Int) (a5_4 : Int) (a6_0 : Int) (a6_1 : Int) (r : Bool) (w : World) (hr0 : Kd.C k50 w A0 l0.length l0) (hc0 : l0.length ≤ c0) (hr1 : Kd.C k25 w A1 l1.length l1) (hc1 : l1.length ≤ c1) (hr3 : Kd.C k42 w A3 l3.length l3) (hc3 : l3.length ≤ c3) (h : slotmeshlaw17_MediumMore.f k l0 l1 a2 l3 a4 a5_0 a5_1 a5_2 a5_3 a5_4 a6_0 a6_1 = some r) (HRT0 : r = true) :
  Calls Try.prog 15 #[.slice A0 l0.length c0, .slice A1 l1.length c1, .int .i64 a2, .slice A3 l3.length c3, .int .i64 a4, .agg #[.int .i64 a5_0, .int .i64 a5_1, .int .i64 a5_2, .int .i64 a5_3, .int .i64 a5_4], .agg #[.int .i64 a6_0, .int .i64 a6_1]] w fun e w' => e = .returned (.bool r) ∧ Below w.heap.size w w' := by
 have HRT := Aside0.mk HRT0
 clear HRT0
 have hu50 := Try.underlying50
 have hu25 := Try.underlying25
 have HR0 := Aside0.mk hr0
 have HC0 := Aside0.mk hc0
 clear hr0 hc0
 have HR1 := Aside0.mk hr1
 have HC1 := Aside0.mk hc1
 clear hr1 hc1
 have HR3 := Aside0.mk hr3
 have HC3 := Aside0.mk hc3
 clear hr3 hc3
 have HB := Aside0.mk (Below.refl w.heap.size w)
 have H : ((slotmeshlaw17_head.f).bind fun t210 => ((some (([] : List (S50)) : List (S50))).bind fun y211 => (if y211.length + l0.length < 3518437208883 then ((some (y211 ++ l0 : List (S50))).bind fun y214 => ((some (([(⟨2, a5_1, a5_2, (⟨a5_3, a5_4⟩ : S48)⟩ : S50)] : List (S50)) : List (S50))).bind fun y217 => (if y214.length + y217.length < 3518437208883 then ((some (y214 ++ y217 : List (S50))).bind fun y220 => ((some (([] : List (S25)) : List (S25))).bind fun y223 => (if y223.length + l1.length < 8796093022208 then ((some (y223 ++ l1 : List (S25))).bind fun y226 => ((some (([(⟨a6_0, a6_1⟩ : S25)] : List (S25)) : List (S25))).bind fun y229 => (if y226.length + y229.length < 8796093022208 then ((some (y226 ++ y229 : List (S25))).bind fun y232 => ((slotmeshlaw17_valid.f k l0 l1 a2 l3 a4).bind fun t235 => (if t235 = true then ((slotmeshlaw17_valid.f k y220 y232 a2 l3 a4).bind fun t236 => (slotmeshlaw17_MediumMore.j0 k l0 l1 a2 l3 a4 t210 y220 y232 (!t236))) else (slotmeshlaw17_MediumMore.j0 k l0 l1 a2 l3 a4 t210 y220 y232 true)))) else (none)))) else (none)))) else (none)))) else (none)))) = some r := h
 clear h
 replace H := Option.bind_eq_some_iff.mp H
 obtain ⟨t210, A80, H⟩ := H
 try dsimp only at H
 have A8 := Aside0.mk A80
 clear A80
 obtain ⟨y211, hy211, H⟩ := bindE_F15 H
 have Ny211 := Aside0.mk hy211
 clear hy211
 by_cases c9 : y211.length + l0.length < 3518437208883
 ·
  rw [if_pos c9] at H
  have LMc9 := Aside0.mk c9
  clear c9
  obtain ⟨y214, hy214, H⟩ := bindE_F15 H
  have Ny214 := Aside0.mk hy214
  clear hy214
  obtain ⟨y217, hy217, H⟩ := bindE_F15 H
  have Ny217 := Aside0.mk hy217
  clear hy217
  by_cases c10 : y214.length + y217.length < 3518437208883
  ·
   rw [if_pos c10] at H
   have LMc10 := Aside0.mk c10
   clear c10
   obtain ⟨y220, hy220, H⟩ := bindE_F15 H
   have Ny220 := Aside0.mk hy220
   clear hy220
   obtain ⟨y223, hy223, H⟩ := bindE_F15 H
   have Ny223 := Aside0.mk hy223
   clear hy223
   by_cases c11 : y223.length + l1.length < 8796093022208
   ·
    rw [if_pos c11] at H
    have LMc11 := Aside0.mk c11
    clear c11
    obtain ⟨y226, hy226, H⟩ := bindE_F15 H
    have Ny226 := Aside0.mk hy226
    clear hy226
    obtain ⟨y229, hy229, H⟩ := bindE_F15 H
    have Ny229 := Aside0.mk hy229
    clear hy229
    by_cases c12 : y226.length + y229.length < 8796093022208
    ·
     rw [if_pos c12] at H
     have LMc12 := Aside0.mk c12
     clear c12
     obtain ⟨y232, hy232, H⟩ := bindE_F15 H
     have Ny232 := Aside0.mk hy232
     clear hy232
     have HC13 := Aside0.mk H
     clear H
     go_enter Try.func15, Try.ntmps15
     try go_wp2_with (first | ((with_reducible refine gate_dst (N := 12) rfl ?_); (try (refine gate_guard (by rfl) ?_; dsimp only)); refine box_event ?hg (N := 12) ?hd (cs := #[.int .i64 a5_0, .int .i64 a5_1, .int .i64 a5_2, .int .i64 a5_3, .int .i64 a5_4]) (t := 50) ?hr ?_; (case hd => rfl); (case hg => rfl); (case hr => first | (go_simp; done) | (go_simp; rfl)); intro gb208 hg w14 hbox hb; have n0_ := Aside0.mk (below_step (by repeat (first | (with_reducible first | exact HB.out | apply below_alloc | apply pw_below_drewN | apply below_drew1) | exact HB.out)) hb); have n1_ := Aside0.mk (hbox); have n2_ := Aside0.mk ((by rw [hg]; exact (below_size (by repeat (first | (with_reducible first | exact HB.out | apply below_alloc | apply pw_below_drewN | apply below_drew1) | exact HB.out))) : w.heap.size ≤ gb208)); have n3_ := Aside0.mk ((by rw [hg]; exact (below_size (by repeat (first | (with_reducible first | exact HB.out | apply below_alloc | apply pw_below_drewN | apply below_drew1) | exact HB.out))) : w.heap.size ≤ gb208)); clear HB; have HB := n0_; have BK208 := n1_; have GW208 := n2_; have GE208 := n3_; clear n0_ n1_ n2_ n3_; clear hb hbox hg) | ((with_reducible refine gate_dst (N := 13) rfl ?_); (try (refine gate_guard (by rfl) ?_; dsimp only)); refine box_event ?hg (N := 13) ?hd (cs := #[.int .i64 a6_0, .int .i64 a6_1]) (t := 25) ?hr ?_; (case hd => rfl); (case hg => rfl); (case hr => first | (go_simp; done) | (go_simp; rfl)); intro gb209 hg w15 hbox hb; have n0_ := Aside0.mk (blk_below (g := gb208) (o := .cells #[.int .i64 a5_0, .int .i64 a5_1, .int .i64 a5_2, .int .i64 a5_3, .int .i64 a5_4] 50 (0, 0)) (by (with_reducible repeat (first | refine blk_drewN ?_ _ | refine blk_drew ?_ | refine blk_alloc ?_ _)); exact BK208.out) hb); have n1_ := Aside0.mk (below_step (by repeat (first | (with_reducible first | exact HB.out | apply below_alloc | apply pw_below_drewN | apply below_drew1 | refine below_set ?_ GE208.out) | exact HB.out)) hb); have n2_ := Aside0.mk (hbox); have n3_ := Aside0.mk ((by rw [hg]; exact (below_size (by repeat (first | (with_reducible first | exact HB.out | apply below_alloc | apply pw_below_drewN | apply below_drew1 | refine below_set ?_ GE208.out) | exact HB.out))) : w.heap.size ≤ gb209)); have n4_ := Aside0.mk ((by rw [hg]; exact (below_size (by repeat (first | (with_reducible first | exact HB.out | apply below_alloc | apply pw_below_drewN | apply below_drew1 | refine below_set ?_ GE208.out) | exact HB.out))) : w.heap.size ≤ gb209)); have n5_ := Aside0.mk ((by rw [hg]; exact Nat.ne_of_lt (blk_lt (g := gb208) (o := .cells #[.int .i64 a5_0, .int .i64 a5_1, .int .i64 a5_2, .int .i64 a5_3, .int .i64 a5_4] 50 (0, 0)) (by (with_reducible repeat (first | refine blk_drewN ?_ _ | refine blk_drew ?_ | refine blk_alloc ?_ _)); exact BK208.out)) : gb208 ≠ gb209)); have n6_ := Aside0.mk ((by rw [hg]; exact Nat.ne_of_gt (blk_lt (g := gb208) (o := .cells #[.int .i64 a5_0, .int .i64 a5_1, .int .i64 a5_2, .int .i64 a5_3, .int .i64 a5_4] 50 (0, 0)) (by (with_reducible repeat (first | refine blk_drewN ?_ _ | refine blk_drew ?_ | refine blk_alloc ?_ _)); exact BK208.out)) : gb209 ≠ gb208)); clear BK208; clear HB; have BK208 := n0_; have HB := n1_; have BK209 := n2_; have GW209 := n3_; have GE209 := n4_; have NB208_209 := n5_; have NB209_208 := n6_; clear n0_ n1_ n2_ n3_ n4_ n5_ n6_; clear hb hbox hg) | ((with_reducible refine gate_callee (f := 27) rfl ?_); refine goesL_ (some 24) rfl rfl Try.func27 (by kernel_rfl) rfl #[] rfl (by (try simp only [List.map_toArray, List.map_cons, List.map_nil]); first | done | rfl | (simp only [List.length_drop, List.length_take]; rfl)) ?_; (with_reducible refine (slotmeshlaw17_head.calls  t210 _ A8.out).mono ?_); rintro e w16 ⟨rfl, hb⟩; refine ⟨_, rfl, ?_⟩; have n0_ := Aside0.mk (blk_below (g := gb208) (o := .cells #[.int .i64 a5_0, .int .i64 a5_1, .int .i64 a5_2, .int .i64 a5_3, .int .i64 a5_4] 50 (0, 0)) (by (with_reducible repeat (first | refine blk_drewN ?_ _ | refine blk_drew ?_ | refine blk_alloc ?_ _)); exact BK208.out) hb); have n1_ := Aside0.mk (blk_below (g := gb209) (o := .cells #[.int .i64 a6_0, .int .i64 a6_1] 25 (0, 0)) (by (with_reducible repeat (first | refine blk_drewN ?_ _ | refine blk_drew ?_ | refine blk_alloc ?_ _)); exact BK209.out) hb); have n2_ := Aside0.mk (below_step (by repeat (first | (with_reducible first | exact HB.out | apply below_alloc | apply pw_below_drewN | apply below_drew1 | refine below_set ?_ GE208.out | refine below_set ?_ GE209.out) | exact HB.out)) hb); clear BK208; clear BK209; clear HB; have BK208 := n0_; have BK209 := n1_; have HB := n2_; clear n0_ n1_ n2_; (try clear hb); (try clear hb2); (try clear hk); (try clear hi); have hnb17 := NB208_209.out; have hnc17 := NB209_208.out; have hcz18_0 : w16.cell? ⟨gb208, 0, none⟩ = some (.int .i64 a5_0) := (blk_cell BK208.out 0).trans rfl; have hcz18_1 : w16.cell? ⟨gb208, 1, none⟩ = some (.int .i64 a5_1) := (blk_cell BK208.out 1).trans rfl; have hcz18_2 : w16.cell? ⟨gb208, 2, none⟩ = some (.int .i64 a5_2) := (blk_cell BK208.out 2).trans rfl; have hcz18_3 : w16.cell? ⟨gb208, 3, none⟩ = some (.int .i64 a5_3) := (blk_cell BK208.out 3).trans rfl; have hcz18_4 : w16.cell? ⟨gb208, 4, none⟩ = some (.int .i64 a5_4) := (blk_cell BK208.out 4).trans rfl; have hfz18_0 := blk_frozen BK208.out 0; have hfz18_1 := blk_frozen BK208.out 1; have hfz18_2 := blk_frozen BK208.out 2; have hfz18_3 := blk_frozen BK208.out 3; have hfz18_4 := blk_frozen BK208.out 4))
     have n0_ : Aside0 ((w16.setCell ⟨gb208, 0, none⟩ (.int .i64 2)).heap[gb208]? = some (.cells #[.int .i64 2, .int .i64 a5_1, .int .i64 a5_2, .int .i64 a5_3, .int .i64 a5_4] 50 (0, 0))) := ⟨by (with_reducible repeat (first | refine blk_drewN ?_ _ | refine blk_drew ?_ | refine blk_alloc ?_ _)); refine blk_put (cs := #[.int .i64 a5_0, .int .i64 a5_1, .int .i64 a5_2, .int .i64 a5_3, .int .i64 a5_4]) ?_ 0 _ rfl; (with_reducible repeat (first | refine blk_drewN ?_ _ | refine blk_drew ?_ | refine blk_alloc ?_ _)); exact BK208.out⟩
     have n1_ : Aside0 ((w16.setCell ⟨gb208, 0, none⟩ (.int .i64 2)).heap[gb209]? = some (.cells #[.int .i64 a6_0, .int .i64 a6_1] 25 (0, 0))) := ⟨by (with_reducible repeat (first | refine blk_drewN ?_ _ | refine blk_drew ?_ | refine blk_alloc ?_ _)); refine blk_far ?_ NB209_208.out _; (with_reducible repeat (first | refine blk_drewN ?_ _ | refine blk_drew ?_ | refine blk_alloc ?_ _)); exact BK209.out⟩
     have n2_ : Aside0 (Below w.heap.size w (w16.setCell ⟨gb208, 0, none⟩ (.int .i64 2))) := ⟨by repeat (first | (with_reducible first | exact HB.out | apply below_alloc | apply pw_below_drewN | apply below_drew1 | refine below_set ?_ GE208.out | refine below_set ?_ GE209.out) | exact HB.out)⟩
     (try clear BK208)
     (try clear BK209)
     (try clear HB)
     generalize (w16.setCell ⟨gb208, 0, none⟩ (.int .i64 2)) = w19 at n0_ n1_ n2_ ⊢
     have BK208 := n0_
     have BK209 := n1_
     have HB := n2_
     clear n0_ n1_ n2_
     have n0_ := Aside0.mk (blk_drew BK208.out)
     have n1_ := Aside0.mk (blk_drew BK209.out)
     have n2_ := Aside0.mk (below_drew1 HB.out)
     clear BK208
     clear BK209
     clear HB
     have BK208 := n0_
     have BK209 := n1_
     have HB := n2_
     clear n0_ n1_ n2_
     refine start_ (n := 14) (S := fun w' => True) (ds := []) #[false, false, false, false, false, false, false, false, false, false, false, false, false, false] (by kernel_rfl) rfl rfl trivial (fun hHeld => ?_); refine with_tabW slotmeshlaw17_MediumMore.tab3 slotmeshlaw17_MediumMore.bits3 (fun HT_ HW_ => ?_)
     generalize w19.drew = w20 at BK208 BK209 HB hHeld ⊢
     refine pure_ (i := 1) (N := some 27) (v := ?_) (a' := ?_) #[false, true, false, false, false, false, false, false, false, false, false, false, false, false] rfl rfl (any_of HT_.out (by kernel_rfl)) (fun _ _ _ h => h) (Or.inl ⟨by rfl, ?_⟩) ?_ ?_
     rotate_left
     ·
      intro w'
      go_simp
      with_reducible rfl
     rotate_left
     ·
      simp only [Act.put, List.setIfInBounds_toArray, List.set_cons_zero, List.set_cons_succ, i64_w, i32_w]
      rfl
     refine pure_ (i := 7) (N := some 33) (v := ?_) (a' := ?_) #[false, true, false, false, false, false, false, true, false, false, false, false, false, false] rfl rfl (any_of HT_.out (by kernel_rfl)) (fun _ _ _ h => h) (Or.inl ⟨by rfl, ?_⟩) ?_ ?_
     rotate_left
     ·
      intro w'
      go_simp
      with_reducible rfl
     rotate_left
     ·
      simp only [Act.put, List.setIfInBounds_toArray, List.set_cons_zero, List.set_cons_succ, i64_w, i32_w]
      rfl
     refine inv_at [0, 2, 3, 4, 5, 6, 8, 9, 10, 11, 12, 13] (fun a0_ b a w' => ∃ (v212 : Value) (v215 : Value) (v218 : Value) (v221 : Value) (v224 : Value) (v227 : Value) (v230 : Value) (v233 : Value) (m12_ : Value) (m13_ : Value), a = putSel a0_ b [(0, 26, v212), (2, 28, v215), (3, 29, .agg #[.int .i64 2, .int .i64 a5_1, .int .i64 a5_2, .int .i64 a5_3, .int .i64 a5_4]), (4, 30, v218), (5, 31, v221), (6, 32, v224), (8, 34, v227), (9, 35, .agg #[.int .i64 a6_0, .int .i64 a6_1]), (10, 36, v230), (11, 37, v233), (12, 16, m12_), (13, 17, m13_)] ∧ (w'.heap[gb208]? = some (.cells #[.int .i64 2, .int .i64 a5_1, .int .i64 a5_2, .int .i64 a5_3, .int .i64 a5_4] 50 (0, 0))) ∧ (w'.heap[gb209]? = some (.cells #[.int .i64 a6_0, .int .i64 a6_1] 25 (0, 0))) ∧ (Below w.heap.size w w') ∧ (b 0 = true → b 2 = false → Kd.R k50 50 w' w.heap.size (fun k_ => k_ ≠ gb208) v212 y211) ∧ (b 2 = true → b 5 = false → Kd.R k50 50 w' w.heap.size (fun k_ => k_ ≠ gb208) v215 y214) ∧ (b 4 = true → b 5 = false → Kd.R k50 50 w' w.heap.size (fun k_ => k_ ≠ gb208 ∧ (b 0 = true → b 2 = false → some k_ ≠ v212.ownBlock)) v218 y217) ∧ (b 5 = true → Kd.R k50 50 w' w.heap.size (fun k_ => k_ ≠ gb208) v221 y220) ∧ (b 6 = true → b 8 = false → Kd.R k25 25 w' w.heap.size (fun k_ => k_ ≠ gb209) v224 y223) ∧ (b 8 = true → b 11 = false → Kd.R k25 25 w' w.heap.size (fun k_ => k_ ≠ gb209) v227 y226) ∧ (b 10 = true → b 11 = false → Kd.R k25 25 w' w.heap.size (fun k_ => k_ ≠ gb209 ∧ (b 6 = true → b 8 = false → some k_ ≠ v224.ownBlock)) v230 y229) ∧ (b 11 = true → Kd.R k25 25 w' w.heap.size (fun k_ => k_ ≠ gb209) v233 y232) ∧ (b 12 = true → (m12_ : Value) = v221) ∧ (b 13 = true → (m13_ : Value) = v233)) HT_.out HW_.out (by kernel_rfl) (by kernel_rfl) ?_ ?_ ?_
     ·
      exact ⟨.bool false, .bool false, .bool false, .bool false, .bool false, .bool false, .bool false, .bool false, .bool false, .bool false, by simp only [putSel, Bool.false_eq_true, if_false], BK208.out, BK209.out, HB.out, fun h_ => absurd h_ (by decide), fun h_ => absurd h_ (by decide), fun h_ => absurd h_ (by decide), fun h_ => absurd h_ (by decide), fun h_ => absurd h_ (by decide), fun h_ => absurd h_ (by decide), fun h_ => absurd h_ (by decide), fun h_ => absurd h_ (by decide), fun h_ => absurd h_ (by decide), fun h_ => absurd h_ (by decide)⟩
     ·
      skip
      clear BK208 BK209 HB
      refine steps_cons ?_ ?_
      ·
       rintro b a w' ⟨v212, v215, v218, v221, v224, v227, v230, v233, m12_, m13_, ha, Q_BK208, Q_BK209, Q_HB, Q_HO213, Q_HO216, Q_HO219, Q_HO222, Q_HO225, Q_HO228, Q_HO231, Q_HO234, Q_X12_, Q_X13_⟩ hb_ hon hoff
       refine ⟨_, rfl, fun K hK => ?_⟩
       replace ha := Aside0.mk ha
       have BK208 := Aside0.mk Q_BK208
       have BK209 := Aside0.mk Q_BK209
       have HB := Aside0.mk Q_HB
       refine Kd.R_lit_step k50 _ 50 ?hg (N := 26) ?hd (xs := ([] : List (S50))) (inner := []) (ok := fun _ => True) (okp := fun _ => True) ?hr ?hp (fun _ hk => hk) trivial (Below.refl _ _) (Nat.le_refl _) (by simp) ?_; (case hd => rfl); (case hg => rfl); (case hr => first | (go_simp; done) | (go_simp; rfl)); (case hp => exact (Reps.none _ _))
       intro v212 w21 ho22 hb hg_ hnew_
       clear hg_ hnew_
       (first | rw [← Ny211.out] at ho22 | (simp only [Int.reduceToNat] at ho22; rw [← Ny211.out] at ho22))
       have n0_ := Aside0.mk (Kd.R_lower (Kd.R_newB ho22 (g := gb208) (o := .cells #[.int .i64 2, .int .i64 a5_1, .int .i64 a5_2, .int .i64 a5_3, .int .i64 a5_4] 50 (0, 0)) (by (with_reducible repeat (first | refine blk_drewN ?_ _ | refine blk_drew ?_ | refine blk_alloc ?_ _)); exact BK208.out)) (below_size (by repeat (first | (with_reducible first | exact HB.out | apply below_alloc | apply pw_below_drewN | apply below_drew1 | refine below_set ?_ GE208.out | refine below_set ?_ GE209.out) | exact HB.out))))
       have n1_ := Aside0.mk (blk_below (g := gb208) (o := .cells #[.int .i64 2, .int .i64 a5_1, .int .i64 a5_2, .int .i64 a5_3, .int .i64 a5_4] 50 (0, 0)) (by (with_reducible repeat (first | refine blk_drewN ?_ _ | refine blk_drew ?_ | refine blk_alloc ?_ _)); exact BK208.out) hb)
       have n2_ := Aside0.mk (blk_below (g := gb209) (o := .cells #[.int .i64 a6_0, .int .i64 a6_1] 25 (0, 0)) (by (with_reducible repeat (first | refine blk_drewN ?_ _ | refine blk_drew ?_ | refine blk_alloc ?_ _)); exact BK209.out) hb)
       have n3_ := Aside0.mk (below_step (by repeat (first | (with_reducible first | exact HB.out | apply below_alloc | apply pw_below_drewN | apply below_drew1 | refine below_set ?_ GE208.out | refine below_set ?_ GE209.out) | exact HB.out)) hb)
       have z_HO219 := fun (h0_ : b 4 = true) (h1_ : b 5 = false) => (show Kd.R k50 50 w21 w.heap.size (fun k_ => k_ ≠ gb208 ∧ (true = true → b 2 = false → some k_ ≠ v212.ownBlock)) v218 y217 from Kd.R_mono (Kd.R_elder' (Q_HO219 h0_ h1_) (Kd.R_base ho22) hb) (fun _ h_ => ⟨h_.1.1, fun _ _ => h_.2⟩))
       have z_HO225 := fun (h0_ : b 6 = true) (h1_ : b 8 = false) => (show Kd.R k25 25 w21 w.heap.size (fun k_ => k_ ≠ gb209) v224 y223 from by first | exact (Kd.R_below (by (with_reducible repeat (first | apply Kd.R_alloc | apply Kd.R_drewN | apply Kd.R_drew)); exact (Q_HO225 h0_ h1_)) hb) | exact Kd.R_mono (Kd.R_below (by (with_reducible repeat (first | apply Kd.R_alloc | apply Kd.R_drewN | apply Kd.R_drew)); exact (Q_HO225 h0_ h1_)) hb) (fun _ h_ => by first | trivial | exact h_ | exact h_.1))
       have z_HO231 := fun (h0_ : b 10 = true) (h1_ : b 11 = false) => (show Kd.R k25 25 w21 w.heap.size (fun k_ => k_ ≠ gb209 ∧ (b 6 = true → b 8 = false → some k_ ≠ v224.ownBlock)) v230 y229 from by first | exact (Kd.R_below (by (with_reducible repeat (first | apply Kd.R_alloc | apply Kd.R_drewN | apply Kd.R_drew)); exact (Q_HO231 h0_ h1_)) hb) | exact Kd.R_mono (Kd.R_below (by (with_reducible repeat (first | apply Kd.R_alloc | apply Kd.R_drewN | apply Kd.R_drew)); exact (Q_HO231 h0_ h1_)) hb) (fun _ h_ => by first | trivial | exact h_ | exact h_.1))
       clear BK208
       clear BK209
       clear HB
       have HO213 := n0_
       have BK208 := n1_
       have BK209 := n2_
       have HB := n3_
       clear n0_ n1_ n2_ n3_
       clear hb ho22
       refine hK.out _ _ ⟨v212, v215, v218, v221, v224, v227, v230, v233, m12_, m13_, (by rw [ha.out]; exact putSel_upk 0 hb_ rfl rfl rfl), (by (with_reducible repeat (first | refine blk_drewN ?_ _ | refine blk_drew ?_ | refine blk_alloc ?_ _)); exact BK208.out), (by (with_reducible repeat (first | refine blk_drewN ?_ _ | refine blk_drew ?_ | refine blk_alloc ?_ _)); exact BK209.out), (by repeat (first | (with_reducible first | exact HB.out | apply below_alloc | apply pw_below_drewN | apply below_drew1 | refine below_set ?_ GE208.out | refine below_set ?_ GE209.out) | exact HB.out)), fun _ _ => (by (with_reducible repeat (first | apply Kd.R_alloc | apply Kd.R_drewN | apply Kd.R_drew)); exact Kd.R_mono HO213.out (fun _ hk => hk.2)), fun h0_ _ => absurd ((hoff 2 (by kernel_rfl)).symm.trans h0_) (by decide), z_HO219, fun h0_ => absurd ((hoff 5 (by kernel_rfl)).symm.trans h0_) (by decide), z_HO225, fun h0_ _ => absurd ((hoff 8 (by kernel_rfl)).symm.trans h0_) (by decide), z_HO231, fun h0_ => absurd ((hoff 11 (by kernel_rfl)).symm.trans h0_) (by decide), fun h0_ => absurd ((hoff 12 (by kernel_rfl)).symm.trans h0_) (by decide), fun h0_ => absurd ((hoff 13 (by kernel_rfl)).symm.trans h0_) (by decide)⟩
      refine steps_cons ?_ ?_
      ·
       rintro b a w' ⟨v212, v215, v218, v221, v224, v227, v230, v233, m12_, m13_, ha, Q_BK208, Q_BK209, Q_HB, Q_HO213, Q_HO216, Q_HO219, Q_HO222, Q_HO225, Q_HO228, Q_HO231, Q_HO234, Q_X12_, Q_X13_⟩ hb_ hon hoff
       refine ⟨_, rfl, fun K hK => ?_⟩
       have e26 : a.tmps[26]? = some (v212) := by rw [ha]; exact putSel_on (e := (0, 26, v212)) 0 rfl rfl (hon 0 (by kernel_rfl)) rfl
       have e27 : a.tmps[27]? = some (.slice A0 l0.length c0) := by rw [ha]; exact (putSel_off rfl).trans rfl
       replace ha := Aside0.mk ha
       have BK208 := Aside0.mk Q_BK208
       have BK209 := Aside0.mk Q_BK209
       have HB := Aside0.mk Q_HB
       have HO213 := Aside0.mk (Q_HO213 (hon 0 (by kernel_rfl)) hb_)
       refine Kd.R_append_rows_step k50 (w0 := w) w.heap.size (by rfl) (.tmp 26) (.tmp 27) 40 50 (.agg #[(.int .i64 0), (.int .i64 0), (.int .i64 0), (.int .i64 0), (.int .i64 0)]) 40 rfl Try.underlying40 info50 rfl (by decide) (by omega) v212 y211 l0 _ _ _ (fun k_ => k_ ≠ gb208) (fun _ => False) (by first | exact eval_of e26 | rfl) (by first | exact eval_of e27 | rfl) ?aO ?aR (fun _ _ h => h) (fun _ h => h.elim) ?aF ?aB ?aS ?aL ?_
       (case aR => repeat (first | exact (Kd.C_below HR0.out HB.out) | (with_reducible refine Kd.C_alloc ?_ _) | (with_reducible refine Kd.C_drewN ?_ _) | (with_reducible refine Kd.C_drew ?_)))
       (case aB => exact (by repeat (first | (with_reducible first | exact HB.out | apply below_alloc | apply pw_below_drewN | apply below_drew1 | refine below_set ?_ GE208.out | refine below_set ?_ GE209.out) | exact HB.out)))
       (case aF => exact (fun k_ hk => Kd.freshB (g := gb208) (o := .cells #[.int .i64 2, .int .i64 a5_1, .int .i64 a5_2, .int .i64 a5_3, .int .i64 a5_4] 50 (0, 0)) (by (with_reducible repeat (first | refine blk_drewN ?_ _ | refine blk_drew ?_ | refine blk_alloc ?_ _)); exact BK208.out) k_ hk))
       (case aO => exact (by (with_reducible repeat (first | apply Kd.R_alloc | apply Kd.R_drewN | apply Kd.R_drew)); exact HO213.out))
       (case aS => exact (below_size (by repeat (first | (with_reducible first | exact HB.out | apply below_alloc | apply pw_below_drewN | apply below_drew1 | refine below_set ?_ GE208.out | refine below_set ?_ GE209.out) | exact HB.out))))
       (case aL => have := LMc9.out; omega)
       intro v215 w24 ho hb hg hat
       rw [← Ny214.out] at ho
       have n0_ := Aside0.mk (blk_grown (g := gb208) (o := .cells #[.int .i64 2, .int .i64 a5_1, .int .i64 a5_2, .int .i64 a5_3, .int .i64 a5_4] 50 (0, 0)) (by (with_reducible repeat (first | refine blk_drewN ?_ _ | refine blk_drew ?_ | refine blk_alloc ?_ _)); exact BK208.out) hg (Kd.R_away HO213.out (fun _ hk => hk)))
       have n1_ := Aside0.mk (blk_grown (g := gb209) (o := .cells #[.int .i64 a6_0, .int .i64 a6_1] 25 (0, 0)) (by (with_reducible repeat (first | refine blk_drewN ?_ _ | refine blk_drew ?_ | refine blk_alloc ?_ _)); exact BK209.out) hg (Kd.R_ne HO213.out BK209.out (by decide)))
       have n2_ := Aside0.mk (hb)
       have n3_ := Aside0.mk (ho)
       have z_HO219 := fun (h0_ : b 4 = true) (h1_ : b 5 = false) => (show Kd.R k50 50 w24 w.heap.size (fun k_ => k_ ≠ gb208 ∧ (b 0 = true → true = false → some k_ ≠ v212.ownBlock)) v218 y217 from Kd.R_mono (Kd.R_after (ok := fun k_ => k_ ≠ gb208) (Kd.R_mono (Q_HO219 h0_ h1_) (fun _ hk => ⟨hk.1, hk.2 (hon 0 (by kernel_rfl)) hb_⟩)) hg hat) (fun _ h_ => ⟨h_.1, fun _ g_ => absurd g_ (by decide)⟩))
       have z_HO225 := fun (h0_ : b 6 = true) (h1_ : b 8 = false) => (show Kd.R k25 25 w24 w.heap.size (fun k_ => k_ ≠ gb209) v224 y223 from by first | exact (Kd.R_over' (by (with_reducible repeat (first | apply Kd.R_alloc | apply Kd.R_drewN | apply Kd.R_drew)); exact (Q_HO225 h0_ h1_)) (Kd.R_typed (by (with_reducible repeat (first | apply Kd.R_alloc | apply Kd.R_drewN | apply Kd.R_drew)); exact HO213.out)) (by decide) hg) | exact Kd.R_mono (Kd.R_over' (by (with_reducible repeat (first | apply Kd.R_alloc | apply Kd.R_drewN | apply Kd.R_drew)); exact (Q_HO225 h0_ h1_)) (Kd.R_typed (by (with_reducible repeat (first | apply Kd.R_alloc | apply Kd.R_drewN | apply Kd.R_drew)); exact HO213.out)) (by decide) hg) (fun _ h_ => by first | trivial | exact h_ | exact h_.1))
       have z_HO231 := fun (h0_ : b 10 = true) (h1_ : b 11 = false) => (show Kd.R k25 25 w24 w.heap.size (fun k_ => k_ ≠ gb209 ∧ (b 6 = true → b 8 = false → some k_ ≠ v224.ownBlock)) v230 y229 from by first | exact (Kd.R_over' (by (with_reducible repeat (first | apply Kd.R_alloc | apply Kd.R_drewN | apply Kd.R_drew)); exact (Q_HO231 h0_ h1_)) (Kd.R_typed (by (with_reducible repeat (first | apply Kd.R_alloc | apply Kd.R_drewN | apply Kd.R_drew)); exact HO213.out)) (by decide) hg) | exact Kd.R_mono (Kd.R_over' (by (with_reducible repeat (first | apply Kd.R_alloc | apply Kd.R_drewN | apply Kd.R_drew)); exact (Q_HO231 h0_ h1_)) (Kd.R_typed (by (with_reducible repeat (first | apply Kd.R_alloc | apply Kd.R_drewN | apply Kd.R_drew)); exact HO213.out)) (by decide) hg) (fun _ h_ => by first | trivial | exact h_ | exact h_.1))
       clear BK208
       clear BK209
       clear HB
       clear HO213
       have BK208 := n0_
       have BK209 := n1_
       have HB := n2_
       have HO216 := n3_
       clear n0_ n1_ n2_ n3_
       clear ho hb hg hat
       refine hK.out _ _ ⟨v212, v215, v218, v221, v224, v227, v230, v233, m12_, m13_, (by rw [ha.out]; exact putSel_upk 1 hb_ rfl rfl rfl), (by (with_reducible repeat (first | refine blk_drewN ?_ _ | refine blk_drew ?_ | refine blk_alloc ?_ _)); exact BK208.out), (by (with_reducible repeat (first | refine blk_drewN ?_ _ | refine blk_drew ?_ | refine blk_alloc ?_ _)); exact BK209.out), (by repeat (first | (with_reducible first | exact HB.out | apply below_alloc | apply pw_below_drewN | apply below_drew1 | refine below_set ?_ GE208.out | refine below_set ?_ GE209.out) | exact HB.out)), fun _ h1_ => absurd ((up_self b 2).symm.trans h1_) (by decide), fun _ _ => (by (with_reducible repeat (first | apply Kd.R_alloc | apply Kd.R_drewN | apply Kd.R_drew)); exact HO216.out), z_HO219, fun h0_ => absurd ((hoff 5 (by kernel_rfl)).symm.trans h0_) (by decide), z_HO225, fun h0_ _ => absurd ((hoff 8 (by kernel_rfl)).symm.trans h0_) (by decide), z_HO231, fun h0_ => absurd ((hoff 11 (by kernel_rfl)).symm.trans h0_) (by decide), fun h0_ => absurd ((hoff 12 (by kernel_rfl)).symm.trans h0_) (by decide), fun h0_ => absurd ((hoff 13 (by kernel_rfl)).symm.trans h0_) (by decide)⟩
      refine steps_cons ?_ ?_
      ·
       rintro b a w' ⟨v212, v215, v218, v221, v224, v227, v230, v233, m12_, m13_, ha, Q_BK208, Q_BK209, Q_HB, Q_HO213, Q_HO216, Q_HO219, Q_HO222, Q_HO225, Q_HO228, Q_HO231, Q_HO234, Q_X12_, Q_X13_⟩ hb_ hon hoff
       refine ⟨_, rfl, fun K hK => ?_⟩
       have e12 : a.tmps[12]? = some (.pointer (some ⟨gb208, 0, none⟩)) := by rw [ha]; exact (putSel_off rfl).trans rfl
       replace ha := Aside0.mk ha
       have BK208 := Aside0.mk Q_BK208
       have BK209 := Aside0.mk Q_BK209
       have HB := Aside0.mk Q_HB
       have hc0_ : w'.cell? ⟨gb208, 0, none⟩ = some (.int .i64 2) := (blk_cell BK208.out 0).trans rfl
       have hc1_ : w'.cell? ⟨gb208, 1, none⟩ = some (.int .i64 a5_1) := (blk_cell BK208.out 1).trans rfl
       have hc2_ : w'.cell? ⟨gb208, 2, none⟩ = some (.int .i64 a5_2) := (blk_cell BK208.out 2).trans rfl
       have hc3_ : w'.cell? ⟨gb208, 3, none⟩ = some (.int .i64 a5_3) := (blk_cell BK208.out 3).trans rfl
       have hc4_ : w'.cell? ⟨gb208, 4, none⟩ = some (.int .i64 a5_4) := (blk_cell BK208.out 4).trans rfl
       refine value_ (w1 := w') (v := .agg #[.int .i64 2, .int .i64 a5_1, .int .i64 a5_2, .int .i64 a5_3, .int .i64 a5_4]) (by rfl) rfl ?_ ?_
       ·
        go_simp
        (try simp only [i64_w])
        try rfl
       refine hK.out _ _ ⟨v212, v215, v218, v221, v224, v227, v230, v233, m12_, m13_, (by rw [ha.out]; exact putSel_upk 2 hb_ rfl rfl rfl), Q_BK208, Q_BK209, Q_HB, Q_HO213, Q_HO216, fun h0_ _ => absurd ((hoff 4 (by kernel_rfl)).symm.trans h0_) (by decide), fun h0_ => absurd ((hoff 5 (by kernel_rfl)).symm.trans h0_) (by decide), Q_HO225, fun h0_ _ => absurd ((hoff 8 (by kernel_rfl)).symm.trans h0_) (by decide), Q_HO231, fun h0_ => absurd ((hoff 11 (by kernel_rfl)).symm.trans h0_) (by decide), fun h0_ => absurd ((hoff 12 (by kernel_rfl)).symm.trans h0_) (by decide), fun h0_ => absurd ((hoff 13 (by kernel_rfl)).symm.trans h0_) (by decide)⟩
      refine steps_cons ?_ ?_
      ·
       rintro b a w' ⟨v212, v215, v218, v221, v224, v227, v230, v233, m12_, m13_, ha, Q_BK208, Q_BK209, Q_HB, Q_HO213, Q_HO216, Q_HO219, Q_HO222, Q_HO225, Q_HO228, Q_HO231, Q_HO234, Q_X12_, Q_X13_⟩ hb_ hon hoff
       refine ⟨_, rfl, fun K hK => ?_⟩
       have e29 : a.tmps[29]? = some (.agg #[.int .i64 2, .int .i64 a5_1, .int .i64 a5_2, .int .i64 a5_3, .int .i64 a5_4]) := by rw [ha]; exact putSel_on (e := (3, 29, .agg #[.int .i64 2, .int .i64 a5_1, .int .i64 a5_2, .int .i64 a5_3, .int .i64 a5_4])) 2 rfl rfl (hon 3 (by kernel_rfl)) rfl
       replace ha := Aside0.mk ha
       have BK208 := Aside0.mk Q_BK208
       have BK209 := Aside0.mk Q_BK209
       have HB := Aside0.mk Q_HB
       refine Kd.R_lit_step k50 _ 50 ?hg (N := 30) ?hd (xs := ([(⟨2, a5_1, a5_2, (⟨a5_3, a5_4⟩ : S48)⟩ : S50)] : List (S50))) (inner := [.int .i64 2, .int .i64 a5_1, .int .i64 a5_2, .int .i64 a5_3, .int .i64 a5_4]) (ok := fun _ => True) (okp := fun _ => True) ?hr ?hp (fun _ hk => hk) trivial (Below.refl _ _) (Nat.le_refl _) (by simp) ?_; (case hd => rfl); (case hg => rfl); (case hr => first | (go_simp; done) | (go_simp; rfl)); (case hp => exact (Reps.c5 (show Kd.M k50 _ _ _ (⟨2, a5_1, a5_2, (⟨a5_3, a5_4⟩ : S48)⟩ : S50) [.int .i64 2, .int .i64 a5_1, .int .i64 a5_2, .int .i64 a5_3, .int .i64 a5_4] from (k50_mkM _ _ _ (⟨2, a5_1, a5_2, (⟨a5_3, a5_4⟩ : S48)⟩ : S50) )) (Reps.none _ _)))
       intro v218 w21 ho22 hb hg_ hnew_
       clear hg_ hnew_
       (first | rw [← Ny217.out] at ho22 | (simp only [Int.reduceToNat] at ho22; rw [← Ny217.out] at ho22))
       have z_HO219 : Kd.R k50 50 w21 w.heap.size (fun k_ => k_ ≠ gb208 ∧ (b 0 = true → b 2 = false → some k_ ≠ v212.ownBlock)) v218 y217 := by
        by_cases hq_ : b 0 = true ∧ b 2 = false
        · exact Kd.R_mono (Kd.R_lower (Kd.R_newB (Kd.R_new' ho22 (Kd.R_lt (Q_HO213 hq_.1 hq_.2))) BK208.out) (below_size HB.out)) (fun _ hk => ⟨hk.2, fun _ _ => hk.1.2⟩)
        · exact Kd.R_mono (Kd.R_lower (Kd.R_newB ho22 BK208.out) (below_size HB.out)) (fun _ hk => ⟨hk.2, fun h_ g_ => absurd ⟨h_, g_⟩ hq_⟩)
       have n0_ := Aside0.mk (Kd.R_lower (Kd.R_newB ho22 (g := gb208) (o := .cells #[.int .i64 2, .int .i64 a5_1, .int .i64 a5_2, .int .i64 a5_3, .int .i64 a5_4] 50 (0, 0)) (by (with_reducible repeat (first | refine blk_drewN ?_ _ | refine blk_drew ?_ | refine blk_alloc ?_ _)); exact BK208.out)) (below_size (by repeat (first | (with_reducible first | exact HB.out | apply below_alloc | apply pw_below_drewN | apply below_drew1 | refine below_set ?_ GE208.out | refine below_set ?_ GE209.out) | exact HB.out))))
       have n1_ := Aside0.mk (blk_below (g := gb208) (o := .cells #[.int .i64 2, .int .i64 a5_1, .int .i64 a5_2, .int .i64 a5_3, .int .i64 a5_4] 50 (0, 0)) (by (with_reducible repeat (first | refine blk_drewN ?_ _ | refine blk_drew ?_ | refine blk_alloc ?_ _)); exact BK208.out) hb)
       have n2_ := Aside0.mk (blk_below (g := gb209) (o := .cells #[.int .i64 a6_0, .int .i64 a6_1] 25 (0, 0)) (by (with_reducible repeat (first | refine blk_drewN ?_ _ | refine blk_drew ?_ | refine blk_alloc ?_ _)); exact BK209.out) hb)
       have n3_ := Aside0.mk (below_step (by repeat (first | (with_reducible first | exact HB.out | apply below_alloc | apply pw_below_drewN | apply below_drew1 | refine below_set ?_ GE208.out | refine below_set ?_ GE209.out) | exact HB.out)) hb)
       have z_HO213 := fun (h0_ : b 0 = true) (h1_ : b 2 = false) => (show Kd.R k50 50 w21 w.heap.size (fun k_ => k_ ≠ gb208) v212 y211 from by first | exact (Kd.R_elder' (by (with_reducible repeat (first | apply Kd.R_alloc | apply Kd.R_drewN | apply Kd.R_drew)); exact (Q_HO213 h0_ h1_)) (Kd.R_base ho22) hb) | exact Kd.R_mono (Kd.R_elder' (by (with_reducible repeat (first | apply Kd.R_alloc | apply Kd.R_drewN | apply Kd.R_drew)); exact (Q_HO213 h0_ h1_)) (Kd.R_base ho22) hb) (fun _ h_ => by first | trivial | exact h_ | exact h_.1))
       have z_HO216 := fun (h0_ : b 2 = true) (h1_ : b 5 = false) => (show Kd.R k50 50 w21 w.heap.size (fun k_ => k_ ≠ gb208) v215 y214 from by first | exact (Kd.R_elder' (by (with_reducible repeat (first | apply Kd.R_alloc | apply Kd.R_drewN | apply Kd.R_drew)); exact (Q_HO216 h0_ h1_)) (Kd.R_base ho22) hb) | exact Kd.R_mono (Kd.R_elder' (by (with_reducible repeat (first | apply Kd.R_alloc | apply Kd.R_drewN | apply Kd.R_drew)); exact (Q_HO216 h0_ h1_)) (Kd.R_base ho22) hb) (fun _ h_ => by first | trivial | exact h_ | exact h_.1))
       have z_HO225 := fun (h0_ : b 6 = true) (h1_ : b 8 = false) => (show Kd.R k25 25 w21 w.heap.size (fun k_ => k_ ≠ gb209) v224 y223 from by first | exact (Kd.R_below (by (with_reducible repeat (first | apply Kd.R_alloc | apply Kd.R_drewN | apply Kd.R_drew)); exact (Q_HO225 h0_ h1_)) hb) | exact Kd.R_mono (Kd.R_below (by (with_reducible repeat (first | apply Kd.R_alloc | apply Kd.R_drewN | apply Kd.R_drew)); exact (Q_HO225 h0_ h1_)) hb) (fun _ h_ => by first | trivial | exact h_ | exact h_.1))
       have z_HO231 := fun (h0_ : b 10 = true) (h1_ : b 11 = false) => (show Kd.R k25 25 w21 w.heap.size (fun k_ => k_ ≠ gb209 ∧ (b 6 = true → b 8 = false → some k_ ≠ v224.ownBlock)) v230 y229 from by first | exact (Kd.R_below (by (with_reducible repeat (first | apply Kd.R_alloc | apply Kd.R_drewN | apply Kd.R_drew)); exact (Q_HO231 h0_ h1_)) hb) | exact Kd.R_mono (Kd.R_below (by (with_reducible repeat (first | apply Kd.R_alloc | apply Kd.R_drewN | apply Kd.R_drew)); exact (Q_HO231 h0_ h1_)) hb) (fun _ h_ => by first | trivial | exact h_ | exact h_.1))
       clear BK208
       clear BK209
       clear HB
       have HO219 := n0_
       have BK208 := n1_
       have BK209 := n2_
       have HB := n3_
       clear n0_ n1_ n2_ n3_
       clear hb ho22
       refine hK.out _ _ ⟨v212, v215, v218, v221, v224, v227, v230, v233, m12_, m13_, (by rw [ha.out]; exact putSel_upk 3 hb_ rfl rfl rfl), (by (with_reducible repeat (first | refine blk_drewN ?_ _ | refine blk_drew ?_ | refine blk_alloc ?_ _)); exact BK208.out), (by (with_reducible repeat (first | refine blk_drewN ?_ _ | refine blk_drew ?_ | refine blk_alloc ?_ _)); exact BK209.out), (by repeat (first | (with_reducible first | exact HB.out | apply below_alloc | apply pw_below_drewN | apply below_drew1 | refine below_set ?_ GE208.out | refine below_set ?_ GE209.out) | exact HB.out)), z_HO213, z_HO216, fun _ _ => z_HO219, fun h0_ => absurd ((hoff 5 (by kernel_rfl)).symm.trans h0_) (by decide), z_HO225, fun h0_ _ => absurd ((hoff 8 (by kernel_rfl)).symm.trans h0_) (by decide), z_HO231, fun h0_ => absurd ((hoff 11 (by kernel_rfl)).symm.trans h0_) (by decide), fun h0_ => absurd ((hoff 12 (by kernel_rfl)).symm.trans h0_) (by decide), fun h0_ => absurd ((hoff 13 (by kernel_rfl)).symm.trans h0_) (by decide)⟩
      refine steps_cons ?_ ?_
      ·
       rintro b a w' ⟨v212, v215, v218, v221, v224, v227, v230, v233, m12_, m13_, ha, Q_BK208, Q_BK209, Q_HB, Q_HO213, Q_HO216, Q_HO219, Q_HO222, Q_HO225, Q_HO228, Q_HO231, Q_HO234, Q_X12_, Q_X13_⟩ hb_ hon hoff
       refine ⟨_, rfl, fun K hK => ?_⟩
       have e28 : a.tmps[28]? = some (v215) := by rw [ha]; exact putSel_on (e := (2, 28, v215)) 1 rfl rfl (hon 2 (by kernel_rfl)) rfl
       have e30 : a.tmps[30]? = some (v218) := by rw [ha]; exact putSel_on (e := (4, 30, v218)) 3 rfl rfl (hon 4 (by kernel_rfl)) rfl
       replace ha := Aside0.mk ha
       have BK208 := Aside0.mk Q_BK208
       have BK209 := Aside0.mk Q_BK209
       have HB := Aside0.mk Q_HB
       have HO216 := Aside0.mk (Q_HO216 (hon 2 (by kernel_rfl)) hb_)
       have HO219 := Aside0.mk (Kd.R_mono (Q_HO219 (hon 4 (by kernel_rfl)) hb_) (fun _ h_ => h_.1))
       obtain ⟨Ao28, co28, eo28⟩ := Kd.R_slice HO219.out
       (first | subst eo28 | (injection eo28 with f1_ f2_ f3_; have f4_ := f1_.symm; have f5_ := f3_.symm; clear f1_ f2_ f3_; subst f4_; subst f5_))
       refine Kd.R_append_rows_step k50 (w0 := w) w.heap.size (by rfl) (.tmp 28) (.tmp 30) 40 50 (.agg #[(.int .i64 0), (.int .i64 0), (.int .i64 0), (.int .i64 0), (.int .i64 0)]) 40 rfl Try.underlying40 info50 rfl (by decide) (by omega) v215 y214 y217 _ _ _ (fun k_ => k_ ≠ gb208) (fun _ => False) (by first | exact eval_of e28 | rfl) (by first | exact eval_of e30 | rfl) ?aO ?aR (fun _ _ h => h) (fun _ h => h.elim) ?aF ?aB ?aS ?aL ?_
       (case aR => repeat (first | exact (Kd.R_reads' HO219.out).2.2 | (with_reducible refine Kd.C_alloc ?_ _) | (with_reducible refine Kd.C_drewN ?_ _) | (with_reducible refine Kd.C_drew ?_)))
       (case aB => exact (by repeat (first | (with_reducible first | exact HB.out | apply below_alloc | apply pw_below_drewN | apply below_drew1 | refine below_set ?_ GE208.out | refine below_set ?_ GE209.out) | exact HB.out)))
       (case aF => exact (fun k_ hk => Kd.freshB (g := gb208) (o := .cells #[.int .i64 2, .int .i64 a5_1, .int .i64 a5_2, .int .i64 a5_3, .int .i64 a5_4] 50 (0, 0)) (by (with_reducible repeat (first | refine blk_drewN ?_ _ | refine blk_drew ?_ | refine blk_alloc ?_ _)); exact BK208.out) k_ hk))
       (case aO => exact (by (with_reducible repeat (first | apply Kd.R_alloc | apply Kd.R_drewN | apply Kd.R_drew)); exact HO216.out))
       (case aS => exact (below_size (by repeat (first | (with_reducible first | exact HB.out | apply below_alloc | apply pw_below_drewN | apply below_drew1 | refine below_set ?_ GE208.out | refine below_set ?_ GE209.out) | exact HB.out))))
       (case aL => have := LMc10.out; omega)
       intro v221 w27 ho hb hg hat
       rw [← Ny220.out] at ho
       have n0_ := Aside0.mk (blk_grown (g := gb208) (o := .cells #[.int .i64 2, .int .i64 a5_1, .int .i64 a5_2, .int .i64 a5_3, .int .i64 a5_4] 50 (0, 0)) (by (with_reducible repeat (first | refine blk_drewN ?_ _ | refine blk_drew ?_ | refine blk_alloc ?_ _)); exact BK208.out) hg (Kd.R_away HO216.out (fun _ hk => hk)))
       have n1_ := Aside0.mk (blk_grown (g := gb209) (o := .cells #[.int .i64 a6_0, .int .i64 a6_1] 25 (0, 0)) (by (with_reducible repeat (first | refine blk_drewN ?_ _ | refine blk_drew ?_ | refine blk_alloc ?_ _)); exact BK209.out) hg (Kd.R_ne HO216.out BK209.out (by decide)))
       have n2_ := Aside0.mk trivial
       have n3_ := Aside0.mk (hb)
       have n4_ := Aside0.mk (ho)
       have z_HO225 := fun (h0_ : b 6 = true) (h1_ : b 8 = false) => (show Kd.R k25 25 w27 w.heap.size (fun k_ => k_ ≠ gb209) v224 y223 from by first | exact (Kd.R_over' (by (with_reducible repeat (first | apply Kd.R_alloc | apply Kd.R_drewN | apply Kd.R_drew)); exact (Q_HO225 h0_ h1_)) (Kd.R_typed (by (with_reducible repeat (first | apply Kd.R_alloc | apply Kd.R_drewN | apply Kd.R_drew)); exact HO216.out)) (by decide) hg) | exact Kd.R_mono (Kd.R_over' (by (with_reducible repeat (first | apply Kd.R_alloc | apply Kd.R_drewN | apply Kd.R_drew)); exact (Q_HO225 h0_ h1_)) (Kd.R_typed (by (with_reducible repeat (first | apply Kd.R_alloc | apply Kd.R_drewN | apply Kd.R_drew)); exact HO216.out)) (by decide) hg) (fun _ h_ => by first | trivial | exact h_ | exact h_.1))
       have z_HO231 := fun (h0_ : b 10 = true) (h1_ : b 11 = false) => (show Kd.R k25 25 w27 w.heap.size (fun k_ => k_ ≠ gb209 ∧ (b 6 = true → b 8 = false → some k_ ≠ v224.ownBlock)) v230 y229 from by first | exact (Kd.R_over' (by (with_reducible repeat (first | apply Kd.R_alloc | apply Kd.R_drewN | apply Kd.R_drew)); exact (Q_HO231 h0_ h1_)) (Kd.R_typed (by (with_reducible repeat (first | apply Kd.R_alloc | apply Kd.R_drewN | apply Kd.R_drew)); exact HO216.out)) (by decide) hg) | exact Kd.R_mono (Kd.R_over' (by (with_reducible repeat (first | apply Kd.R_alloc | apply Kd.R_drewN | apply Kd.R_drew)); exact (Q_HO231 h0_ h1_)) (Kd.R_typed (by (with_reducible repeat (first | apply Kd.R_alloc | apply Kd.R_drewN | apply Kd.R_drew)); exact HO216.out)) (by decide) hg) (fun _ h_ => by first | trivial | exact h_ | exact h_.1))
       clear BK208
       clear BK209
       clear HO219
       clear HB
       clear HO216
       have BK208 := n0_
       have BK209 := n1_
       have HO219 := n2_
       have HB := n3_
       have HO222 := n4_
       clear n0_ n1_ n2_ n3_ n4_
       clear ho hb hg hat
       refine hK.out _ _ ⟨v212, v215, .slice Ao28 y217.length co28, v221, v224, v227, v230, v233, m12_, m13_, (by rw [ha.out]; exact putSel_upk 4 hb_ rfl rfl rfl), (by (with_reducible repeat (first | refine blk_drewN ?_ _ | refine blk_drew ?_ | refine blk_alloc ?_ _)); exact BK208.out), (by (with_reducible repeat (first | refine blk_drewN ?_ _ | refine blk_drew ?_ | refine blk_alloc ?_ _)); exact BK209.out), (by repeat (first | (with_reducible first | exact HB.out | apply below_alloc | apply pw_below_drewN | apply below_drew1 | refine below_set ?_ GE208.out | refine below_set ?_ GE209.out) | exact HB.out)), fun _ h1_ => absurd ((hon 2 (by kernel_rfl)).symm.trans h1_) (by decide), fun _ h1_ => absurd ((up_self b 5).symm.trans h1_) (by decide), fun _ h1_ => absurd ((up_self b 5).symm.trans h1_) (by decide), fun _ => (by (with_reducible repeat (first | apply Kd.R_alloc | apply Kd.R_drewN | apply Kd.R_drew)); exact HO222.out), z_HO225, fun h0_ _ => absurd ((hoff 8 (by kernel_rfl)).symm.trans h0_) (by decide), z_HO231, fun h0_ => absurd ((hoff 11 (by kernel_rfl)).symm.trans h0_) (by decide), fun h0_ => absurd ((hoff 12 (by kernel_rfl)).symm.trans h0_) (by decide), fun h0_ => absurd ((hoff 13 (by kernel_rfl)).symm.trans h0_) (by decide)⟩
      refine steps_cons ?_ ?_
      ·
       rintro b a w' ⟨v212, v215, v218, v221, v224, v227, v230, v233, m12_, m13_, ha, Q_BK208, Q_BK209, Q_HB, Q_HO213, Q_HO216, Q_HO219, Q_HO222, Q_HO225, Q_HO228, Q_HO231, Q_HO234, Q_X12_, Q_X13_⟩ hb_ hon hoff
       refine ⟨_, rfl, fun K hK => ?_⟩
       replace ha := Aside0.mk ha
       have BK208 := Aside0.mk Q_BK208
       have BK209 := Aside0.mk Q_BK209
       have HB := Aside0.mk Q_HB
       refine Kd.R_lit_step k25 _ 25 ?hg (N := 32) ?hd (xs := ([] : List (S25))) (inner := []) (ok := fun _ => True) (okp := fun _ => True) ?hr ?hp (fun _ hk => hk) trivial (Below.refl _ _) (Nat.le_refl _) (by simp) ?_; (case hd => rfl); (case hg => rfl); (case hr => first | (go_simp; done) | (go_simp; rfl)); (case hp => exact (Reps.none _ _))
       intro v224 w21 ho22 hb hg_ hnew_
       clear hg_ hnew_
       (first | rw [← Ny223.out] at ho22 | (simp only [Int.reduceToNat] at ho22; rw [← Ny223.out] at ho22))
       have n0_ := Aside0.mk (Kd.R_lower (Kd.R_newB ho22 (g := gb209) (o := .cells #[.int .i64 a6_0, .int .i64 a6_1] 25 (0, 0)) (by (with_reducible repeat (first | refine blk_drewN ?_ _ | refine blk_drew ?_ | refine blk_alloc ?_ _)); exact BK209.out)) (below_size (by repeat (first | (with_reducible first | exact HB.out | apply below_alloc | apply pw_below_drewN | apply below_drew1 | refine below_set ?_ GE208.out | refine below_set ?_ GE209.out) | exact HB.out))))
       have n1_ := Aside0.mk (blk_below (g := gb208) (o := .cells #[.int .i64 2, .int .i64 a5_1, .int .i64 a5_2, .int .i64 a5_3, .int .i64 a5_4] 50 (0, 0)) (by (with_reducible repeat (first | refine blk_drewN ?_ _ | refine blk_drew ?_ | refine blk_alloc ?_ _)); exact BK208.out) hb)
       have n2_ := Aside0.mk (blk_below (g := gb209) (o := .cells #[.int .i64 a6_0, .int .i64 a6_1] 25 (0, 0)) (by (with_reducible repeat (first | refine blk_drewN ?_ _ | refine blk_drew ?_ | refine blk_alloc ?_ _)); exact BK209.out) hb)
       have n3_ := Aside0.mk (below_step (by repeat (first | (with_reducible first | exact HB.out | apply below_alloc | apply pw_below_drewN | apply below_drew1 | refine below_set ?_ GE208.out | refine below_set ?_ GE209.out) | exact HB.out)) hb)
       have z_HO213 := fun (h0_ : b 0 = true) (h1_ : b 2 = false) => (show Kd.R k50 50 w21 w.heap.size (fun k_ => k_ ≠ gb208) v212 y211 from by first | exact (Kd.R_below (by (with_reducible repeat (first | apply Kd.R_alloc | apply Kd.R_drewN | apply Kd.R_drew)); exact (Q_HO213 h0_ h1_)) hb) | exact Kd.R_mono (Kd.R_below (by (with_reducible repeat (first | apply Kd.R_alloc | apply Kd.R_drewN | apply Kd.R_drew)); exact (Q_HO213 h0_ h1_)) hb) (fun _ h_ => by first | trivial | exact h_ | exact h_.1))
       have z_HO216 := fun (h0_ : b 2 = true) (h1_ : b 5 = false) => (show Kd.R k50 50 w21 w.heap.size (fun k_ => k_ ≠ gb208) v215 y214 from by first | exact (Kd.R_below (by (with_reducible repeat (first | apply Kd.R_alloc | apply Kd.R_drewN | apply Kd.R_drew)); exact (Q_HO216 h0_ h1_)) hb) | exact Kd.R_mono (Kd.R_below (by (with_reducible repeat (first | apply Kd.R_alloc | apply Kd.R_drewN | apply Kd.R_drew)); exact (Q_HO216 h0_ h1_)) hb) (fun _ h_ => by first | trivial | exact h_ | exact h_.1))
       have z_HO219 := fun (h0_ : b 4 = true) (h1_ : b 5 = false) => (show Kd.R k50 50 w21 w.heap.size (fun k_ => k_ ≠ gb208 ∧ (b 0 = true → b 2 = false → some k_ ≠ v212.ownBlock)) v218 y217 from by first | exact (Kd.R_below (by (with_reducible repeat (first | apply Kd.R_alloc | apply Kd.R_drewN | apply Kd.R_drew)); exact (Q_HO219 h0_ h1_)) hb) | exact Kd.R_mono (Kd.R_below (by (with_reducible repeat (first | apply Kd.R_alloc | apply Kd.R_drewN | apply Kd.R_drew)); exact (Q_HO219 h0_ h1_)) hb) (fun _ h_ => by first | trivial | exact h_ | exact h_.1))
       have z_HO222 := fun (h0_ : b 5 = true) => (show Kd.R k50 50 w21 w.heap.size (fun k_ => k_ ≠ gb208) v221 y220 from by first | exact (Kd.R_below (by (with_reducible repeat (first | apply Kd.R_alloc | apply Kd.R_drewN | apply Kd.R_drew)); exact (Q_HO222 h0_)) hb) | exact Kd.R_mono (Kd.R_below (by (with_reducible repeat (first | apply Kd.R_alloc | apply Kd.R_drewN | apply Kd.R_drew)); exact (Q_HO222 h0_)) hb) (fun _ h_ => by first | trivial | exact h_ | exact h_.1))
       have z_HO231 := fun (h0_ : b 10 = true) (h1_ : b 11 = false) => (show Kd.R k25 25 w21 w.heap.size (fun k_ => k_ ≠ gb209 ∧ (true = true → b 8 = false → some k_ ≠ v224.ownBlock)) v230 y229 from Kd.R_mono (Kd.R_elder' (Q_HO231 h0_ h1_) (Kd.R_base ho22) hb) (fun _ h_ => ⟨h_.1.1, fun _ _ => h_.2⟩))
       clear BK208
       clear BK209
       clear HB
       have HO225 := n0_
       have BK208 := n1_
       have BK209 := n2_
       have HB := n3_
       clear n0_ n1_ n2_ n3_
       clear hb ho22
       refine hK.out _ _ ⟨v212, v215, v218, v221, v224, v227, v230, v233, m12_, m13_, (by rw [ha.out]; exact putSel_upk 5 hb_ rfl rfl rfl), (by (with_reducible repeat (first | refine blk_drewN ?_ _ | refine blk_drew ?_ | refine blk_alloc ?_ _)); exact BK208.out), (by (with_reducible repeat (first | refine blk_drewN ?_ _ | refine blk_drew ?_ | refine blk_alloc ?_ _)); exact BK209.out), (by repeat (first | (with_reducible first | exact HB.out | apply below_alloc | apply pw_below_drewN | apply below_drew1 | refine below_set ?_ GE208.out | refine below_set ?_ GE209.out) | exact HB.out)), z_HO213, z_HO216, z_HO219, z_HO222, fun _ _ => (by (with_reducible repeat (first | apply Kd.R_alloc | apply Kd.R_drewN | apply Kd.R_drew)); exact Kd.R_mono HO225.out (fun _ hk => hk.2)), fun h0_ _ => absurd ((hoff 8 (by kernel_rfl)).symm.trans h0_) (by decide), z_HO231, fun h0_ => absurd ((hoff 11 (by kernel_rfl)).symm.trans h0_) (by decide), fun h0_ => absurd ((hoff 12 (by kernel_rfl)).symm.trans h0_) (by decide), fun h0_ => absurd ((hoff 13 (by kernel_rfl)).symm.trans h0_) (by decide)⟩
      refine steps_cons ?_ ?_
      ·
       rintro b a w' ⟨v212, v215, v218, v221, v224, v227, v230, v233, m12_, m13_, ha, Q_BK208, Q_BK209, Q_HB, Q_HO213, Q_HO216, Q_HO219, Q_HO222, Q_HO225, Q_HO228, Q_HO231, Q_HO234, Q_X12_, Q_X13_⟩ hb_ hon hoff
       refine ⟨_, rfl, fun K hK => ?_⟩
       have e32 : a.tmps[32]? = some (v224) := by rw [ha]; exact putSel_on (e := (6, 32, v224)) 5 rfl rfl (hon 6 (by kernel_rfl)) rfl
       have e33 : a.tmps[33]? = some (.slice A1 l1.length c1) := by rw [ha]; exact (putSel_off rfl).trans rfl
       replace ha := Aside0.mk ha
       have BK208 := Aside0.mk Q_BK208
       have BK209 := Aside0.mk Q_BK209
       have HB := Aside0.mk Q_HB
       have HO219 := Aside0.mk trivial
       have HO222 := Aside0.mk (Q_HO222 (hon 5 (by kernel_rfl)))
       have HO225 := Aside0.mk (Q_HO225 (hon 6 (by kernel_rfl)) hb_)
       refine Kd.R_append_rows_step k25 (w0 := w) w.heap.size (by rfl) (.tmp 32) (.tmp 33) 22 25 (.agg #[(.int .i64 0), (.int .i64 0)]) 16 rfl Try.underlying22 info25 rfl (by decide) (by omega) v224 y223 l1 _ _ _ (fun k_ => k_ ≠ gb209) (fun _ => False) (by first | exact eval_of e32 | rfl) (by first | exact eval_of e33 | rfl) ?aO ?aR (fun _ _ h => h) (fun _ h => h.elim) ?aF ?aB ?aS ?aL ?_
       (case aR => repeat (first | exact (Kd.C_below HR1.out HB.out) | (with_reducible refine Kd.C_alloc ?_ _) | (with_reducible refine Kd.C_drewN ?_ _) | (with_reducible refine Kd.C_drew ?_)))
       (case aB => exact (by repeat (first | (with_reducible first | exact HB.out | apply below_alloc | apply pw_below_drewN | apply below_drew1 | refine below_set ?_ GE208.out | refine below_set ?_ GE209.out) | exact HB.out)))
       (case aF => exact (fun k_ hk => Kd.freshB (g := gb209) (o := .cells #[.int .i64 a6_0, .int .i64 a6_1] 25 (0, 0)) (by (with_reducible repeat (first | refine blk_drewN ?_ _ | refine blk_drew ?_ | refine blk_alloc ?_ _)); exact BK209.out) k_ hk))
       (case aO => exact (by (with_reducible repeat (first | apply Kd.R_alloc | apply Kd.R_drewN | apply Kd.R_drew)); exact HO225.out))
       (case aS => exact (below_size (by repeat (first | (with_reducible first | exact HB.out | apply below_alloc | apply pw_below_drewN | apply below_drew1 | refine below_set ?_ GE208.out | refine below_set ?_ GE209.out) | exact HB.out))))
       (case aL => have := LMc11.out; omega)
       intro v227 w31 ho hb hg hat
       rw [← Ny226.out] at ho
       have n0_ := Aside0.mk (blk_grown (g := gb208) (o := .cells #[.int .i64 2, .int .i64 a5_1, .int .i64 a5_2, .int .i64 a5_3, .int .i64 a5_4] 50 (0, 0)) (by (with_reducible repeat (first | refine blk_drewN ?_ _ | refine blk_drew ?_ | refine blk_alloc ?_ _)); exact BK208.out) hg (Kd.R_ne HO225.out BK208.out (by decide)))
       have n1_ := Aside0.mk (blk_grown (g := gb209) (o := .cells #[.int .i64 a6_0, .int .i64 a6_1] 25 (0, 0)) (by (with_reducible repeat (first | refine blk_drewN ?_ _ | refine blk_drew ?_ | refine blk_alloc ?_ _)); exact BK209.out) hg (Kd.R_away HO225.out (fun _ hk => hk)))
       have n2_ := Aside0.mk trivial
       have n3_ := Aside0.mk (Kd.R_over' (by (with_reducible repeat (first | apply Kd.R_alloc | apply Kd.R_drewN | apply Kd.R_drew)); exact HO222.out) (Kd.R_typed (by (with_reducible repeat (first | apply Kd.R_alloc | apply Kd.R_drewN | apply Kd.R_drew)); exact HO225.out)) (by decide) hg)
       have n4_ := Aside0.mk (hb)
       have n5_ := Aside0.mk (ho)
       have z_HO231 := fun (h0_ : b 10 = true) (h1_ : b 11 = false) => (show Kd.R k25 25 w31 w.heap.size (fun k_ => k_ ≠ gb209 ∧ (b 6 = true → true = false → some k_ ≠ v224.ownBlock)) v230 y229 from Kd.R_mono (Kd.R_after (ok := fun k_ => k_ ≠ gb209) (Kd.R_mono (Q_HO231 h0_ h1_) (fun _ hk => ⟨hk.1, hk.2 (hon 6 (by kernel_rfl)) hb_⟩)) hg hat) (fun _ h_ => ⟨h_.1, fun _ g_ => absurd g_ (by decide)⟩))
       clear BK208
       clear BK209
       clear HO219
       clear HO222
       clear HB
       clear HO225
       have BK208 := n0_
       have BK209 := n1_
       have HO219 := n2_
       have HO222 := n3_
       have HB := n4_
       have HO228 := n5_
       clear n0_ n1_ n2_ n3_ n4_ n5_
       clear ho hb hg hat
       refine hK.out _ _ ⟨v212, v215, v218, v221, v224, v227, v230, v233, m12_, m13_, (by rw [ha.out]; exact putSel_upk 6 hb_ rfl rfl rfl), (by (with_reducible repeat (first | refine blk_drewN ?_ _ | refine blk_drew ?_ | refine blk_alloc ?_ _)); exact BK208.out), (by (with_reducible repeat (first | refine blk_drewN ?_ _ | refine blk_drew ?_ | refine blk_alloc ?_ _)); exact BK209.out), (by repeat (first | (with_reducible first | exact HB.out | apply below_alloc | apply pw_below_drewN | apply below_drew1 | refine below_set ?_ GE208.out | refine below_set ?_ GE209.out) | exact HB.out)), fun _ h1_ => absurd ((hon 2 (by kernel_rfl)).symm.trans h1_) (by decide), fun _ h1_ => absurd ((hon 5 (by kernel_rfl)).symm.trans h1_) (by decide), fun _ h1_ => absurd ((hon 5 (by kernel_rfl)).symm.trans h1_) (by decide), fun _ => (by (with_reducible repeat (first | apply Kd.R_alloc | apply Kd.R_drewN | apply Kd.R_drew)); exact HO222.out), fun _ h1_ => absurd ((up_self b 8).symm.trans h1_) (by decide), fun _ _ => (by (with_reducible repeat (first | apply Kd.R_alloc | apply Kd.R_drewN | apply Kd.R_drew)); exact HO228.out), z_HO231, fun h0_ => absurd ((hoff 11 (by kernel_rfl)).symm.trans h0_) (by decide), fun h0_ => absurd ((hoff 12 (by kernel_rfl)).symm.trans h0_) (by decide), fun h0_ => absurd ((hoff 13 (by kernel_rfl)).symm.trans h0_) (by decide)⟩
      refine steps_cons ?_ ?_
      ·
       rintro b a w' ⟨v212, v215, v218, v221, v224, v227, v230, v233, m12_, m13_, ha, Q_BK208, Q_BK209, Q_HB, Q_HO213, Q_HO216, Q_HO219, Q_HO222, Q_HO225, Q_HO228, Q_HO231, Q_HO234, Q_X12_, Q_X13_⟩ hb_ hon hoff
       refine ⟨_, rfl, fun K hK => ?_⟩
       have e13 : a.tmps[13]? = some (.pointer (some ⟨gb209, 0, none⟩)) := by rw [ha]; exact (putSel_off rfl).trans rfl
       replace ha := Aside0.mk ha
       have BK208 := Aside0.mk Q_BK208
       have BK209 := Aside0.mk Q_BK209
       have HB := Aside0.mk Q_HB
       have hc0_ : w'.cell? ⟨gb209, 0, none⟩ = some (.int .i64 a6_0) := (blk_cell BK209.out 0).trans rfl
       have hc1_ : w'.cell? ⟨gb209, 1, none⟩ = some (.int .i64 a6_1) := (blk_cell BK209.out 1).trans rfl
       refine value_ (w1 := w') (v := .agg #[.int .i64 a6_0, .int .i64 a6_1]) (by rfl) rfl ?_ ?_
       ·
        go_simp
        (try simp only [i64_w])
        try rfl
       refine hK.out _ _ ⟨v212, v215, v218, v221, v224, v227, v230, v233, m12_, m13_, (by rw [ha.out]; exact putSel_upk 7 hb_ rfl rfl rfl), Q_BK208, Q_BK209, Q_HB, Q_HO213, Q_HO216, Q_HO219, Q_HO222, Q_HO225, Q_HO228, fun h0_ _ => absurd ((hoff 10 (by kernel_rfl)).symm.trans h0_) (by decide), fun h0_ => absurd ((hoff 11 (by kernel_rfl)).symm.trans h0_) (by decide), fun h0_ => absurd ((hoff 12 (by kernel_rfl)).symm.trans h0_) (by decide), fun h0_ => absurd ((hoff 13 (by kernel_rfl)).symm.trans h0_) (by decide)⟩
      refine steps_cons ?_ ?_
      ·
       rintro b a w' ⟨v212, v215, v218, v221, v224, v227, v230, v233, m12_, m13_, ha, Q_BK208, Q_BK209, Q_HB, Q_HO213, Q_HO216, Q_HO219, Q_HO222, Q_HO225, Q_HO228, Q_HO231, Q_HO234, Q_X12_, Q_X13_⟩ hb_ hon hoff
       refine ⟨_, rfl, fun K hK => ?_⟩
       have e35 : a.tmps[35]? = some (.agg #[.int .i64 a6_0, .int .i64 a6_1]) := by rw [ha]; exact putSel_on (e := (9, 35, .agg #[.int .i64 a6_0, .int .i64 a6_1])) 7 rfl rfl (hon 9 (by kernel_rfl)) rfl
       replace ha := Aside0.mk ha
       have BK208 := Aside0.mk Q_BK208
       have BK209 := Aside0.mk Q_BK209
       have HB := Aside0.mk Q_HB
       refine Kd.R_lit_step k25 _ 25 ?hg (N := 36) ?hd (xs := ([(⟨a6_0, a6_1⟩ : S25)] : List (S25))) (inner := [.int .i64 a6_0, .int .i64 a6_1]) (ok := fun _ => True) (okp := fun _ => True) ?hr ?hp (fun _ hk => hk) trivial (Below.refl _ _) (Nat.le_refl _) (by simp) ?_; (case hd => rfl); (case hg => rfl); (case hr => first | (go_simp; done) | (go_simp; rfl)); (case hp => exact (Reps.c2 (show Kd.M k25 _ _ _ (⟨a6_0, a6_1⟩ : S25) [.int .i64 a6_0, .int .i64 a6_1] from (k25_mkM _ _ _ (⟨a6_0, a6_1⟩ : S25) )) (Reps.none _ _)))
       intro v230 w21 ho22 hb hg_ hnew_
       clear hg_ hnew_
       (first | rw [← Ny229.out] at ho22 | (simp only [Int.reduceToNat] at ho22; rw [← Ny229.out] at ho22))
       have z_HO231 : Kd.R k25 25 w21 w.heap.size (fun k_ => k_ ≠ gb209 ∧ (b 6 = true → b 8 = false → some k_ ≠ v224.ownBlock)) v230 y229 := by
        by_cases hq_ : b 6 = true ∧ b 8 = false
        · exact Kd.R_mono (Kd.R_lower (Kd.R_newB (Kd.R_new' ho22 (Kd.R_lt (Q_HO225 hq_.1 hq_.2))) BK209.out) (below_size HB.out)) (fun _ hk => ⟨hk.2, fun _ _ => hk.1.2⟩)
        · exact Kd.R_mono (Kd.R_lower (Kd.R_newB ho22 BK209.out) (below_size HB.out)) (fun _ hk => ⟨hk.2, fun h_ g_ => absurd ⟨h_, g_⟩ hq_⟩)
       have n0_ := Aside0.mk (Kd.R_lower (Kd.R_newB ho22 (g := gb209) (o := .cells #[.int .i64 a6_0, .int .i64 a6_1] 25 (0, 0)) (by (with_reducible repeat (first | refine blk_drewN ?_ _ | refine blk_drew ?_ | refine blk_alloc ?_ _)); exact BK209.out)) (below_size (by repeat (first | (with_reducible first | exact HB.out | apply below_alloc | apply pw_below_drewN | apply below_drew1 | refine below_set ?_ GE208.out | refine below_set ?_ GE209.out) | exact HB.out))))
       have n1_ := Aside0.mk (blk_below (g := gb208) (o := .cells #[.int .i64 2, .int .i64 a5_1, .int .i64 a5_2, .int .i64 a5_3, .int .i64 a5_4] 50 (0, 0)) (by (with_reducible repeat (first | refine blk_drewN ?_ _ | refine blk_drew ?_ | refine blk_alloc ?_ _)); exact BK208.out) hb)
       have n2_ := Aside0.mk (blk_below (g := gb209) (o := .cells #[.int .i64 a6_0, .int .i64 a6_1] 25 (0, 0)) (by (with_reducible repeat (first | refine blk_drewN ?_ _ | refine blk_drew ?_ | refine blk_alloc ?_ _)); exact BK209.out) hb)
       have n3_ := Aside0.mk (below_step (by repeat (first | (with_reducible first | exact HB.out | apply below_alloc | apply pw_below_drewN | apply below_drew1 | refine below_set ?_ GE208.out | refine below_set ?_ GE209.out) | exact HB.out)) hb)
       have z_HO213 := fun (h0_ : b 0 = true) (h1_ : b 2 = false) => (show Kd.R k50 50 w21 w.heap.size (fun k_ => k_ ≠ gb208) v212 y211 from by first | exact (Kd.R_below (by (with_reducible repeat (first | apply Kd.R_alloc | apply Kd.R_drewN | apply Kd.R_drew)); exact (Q_HO213 h0_ h1_)) hb) | exact Kd.R_mono (Kd.R_below (by (with_reducible repeat (first | apply Kd.R_alloc | apply Kd.R_drewN | apply Kd.R_drew)); exact (Q_HO213 h0_ h1_)) hb) (fun _ h_ => by first | trivial | exact h_ | exact h_.1))
       have z_HO216 := fun (h0_ : b 2 = true) (h1_ : b 5 = false) => (show Kd.R k50 50 w21 w.heap.size (fun k_ => k_ ≠ gb208) v215 y214 from by first | exact (Kd.R_below (by (with_reducible repeat (first | apply Kd.R_alloc | apply Kd.R_drewN | apply Kd.R_drew)); exact (Q_HO216 h0_ h1_)) hb) | exact Kd.R_mono (Kd.R_below (by (with_reducible repeat (first | apply Kd.R_alloc | apply Kd.R_drewN | apply Kd.R_drew)); exact (Q_HO216 h0_ h1_)) hb) (fun _ h_ => by first | trivial | exact h_ | exact h_.1))
       have z_HO219 := fun (h0_ : b 4 = true) (h1_ : b 5 = false) => (show Kd.R k50 50 w21 w.heap.size (fun k_ => k_ ≠ gb208 ∧ (b 0 = true → b 2 = false → some k_ ≠ v212.ownBlock)) v218 y217 from by first | exact (Kd.R_below (by (with_reducible repeat (first | apply Kd.R_alloc | apply Kd.R_drewN | apply Kd.R_drew)); exact (Q_HO219 h0_ h1_)) hb) | exact Kd.R_mono (Kd.R_below (by (with_reducible repeat (first | apply Kd.R_alloc | apply Kd.R_drewN | apply Kd.R_drew)); exact (Q_HO219 h0_ h1_)) hb) (fun _ h_ => by first | trivial | exact h_ | exact h_.1))
       have z_HO222 := fun (h0_ : b 5 = true) => (show Kd.R k50 50 w21 w.heap.size (fun k_ => k_ ≠ gb208) v221 y220 from by first | exact (Kd.R_below (by (with_reducible repeat (first | apply Kd.R_alloc | apply Kd.R_drewN | apply Kd.R_drew)); exact (Q_HO222 h0_)) hb) | exact Kd.R_mono (Kd.R_below (by (with_reducible repeat (first | apply Kd.R_alloc | apply Kd.R_drewN | apply Kd.R_drew)); exact (Q_HO222 h0_)) hb) (fun _ h_ => by first | trivial | exact h_ | exact h_.1))
       have z_HO225 := fun (h0_ : b 6 = true) (h1_ : b 8 = false) => (show Kd.R k25 25 w21 w.heap.size (fun k_ => k_ ≠ gb209) v224 y223 from by first | exact (Kd.R_elder' (by (with_reducible repeat (first | apply Kd.R_alloc | apply Kd.R_drewN | apply Kd.R_drew)); exact (Q_HO225 h0_ h1_)) (Kd.R_base ho22) hb) | exact Kd.R_mono (Kd.R_elder' (by (with_reducible repeat (first | apply Kd.R_alloc | apply Kd.R_drewN | apply Kd.R_drew)); exact (Q_HO225 h0_ h1_)) (Kd.R_base ho22) hb) (fun _ h_ => by first | trivial | exact h_ | exact h_.1))
       have z_HO228 := fun (h0_ : b 8 = true) (h1_ : b 11 = false) => (show Kd.R k25 25 w21 w.heap.size (fun k_ => k_ ≠ gb209) v227 y226 from by first | exact (Kd.R_elder' (by (with_reducible repeat (first | apply Kd.R_alloc | apply Kd.R_drewN | apply Kd.R_drew)); exact (Q_HO228 h0_ h1_)) (Kd.R_base ho22) hb) | exact Kd.R_mono (Kd.R_elder' (by (with_reducible repeat (first | apply Kd.R_alloc | apply Kd.R_drewN | apply Kd.R_drew)); exact (Q_HO228 h0_ h1_)) (Kd.R_base ho22) hb) (fun _ h_ => by first | trivial | exact h_ | exact h_.1))
       clear BK208
       clear BK209
       clear HB
       have HO231 := n0_
       have BK208 := n1_
       have BK209 := n2_
       have HB := n3_
       clear n0_ n1_ n2_ n3_
       clear hb ho22
       refine hK.out _ _ ⟨v212, v215, v218, v221, v224, v227, v230, v233, m12_, m13_, (by rw [ha.out]; exact putSel_upk 8 hb_ rfl rfl rfl), (by (with_reducible repeat (first | refine blk_drewN ?_ _ | refine blk_drew ?_ | refine blk_alloc ?_ _)); exact BK208.out), (by (with_reducible repeat (first | refine blk_drewN ?_ _ | refine blk_drew ?_ | refine blk_alloc ?_ _)); exact BK209.out), (by repeat (first | (with_reducible first | exact HB.out | apply below_alloc | apply pw_below_drewN | apply below_drew1 | refine below_set ?_ GE208.out | refine below_set ?_ GE209.out) | exact HB.out)), z_HO213, z_HO216, z_HO219, z_HO222, z_HO225, z_HO228, fun _ _ => z_HO231, fun h0_ => absurd ((hoff 11 (by kernel_rfl)).symm.trans h0_) (by decide), fun h0_ => absurd ((hoff 12 (by kernel_rfl)).symm.trans h0_) (by decide), fun h0_ => absurd ((hoff 13 (by kernel_rfl)).symm.trans h0_) (by decide)⟩
      refine steps_cons ?_ ?_
      ·
       rintro b a w' ⟨v212, v215, v218, v221, v224, v227, v230, v233, m12_, m13_, ha, Q_BK208, Q_BK209, Q_HB, Q_HO213, Q_HO216, Q_HO219, Q_HO222, Q_HO225, Q_HO228, Q_HO231, Q_HO234, Q_X12_, Q_X13_⟩ hb_ hon hoff
       refine ⟨_, rfl, fun K hK => ?_⟩
       have e34 : a.tmps[34]? = some (v227) := by rw [ha]; exact putSel_on (e := (8, 34, v227)) 6 rfl rfl (hon 8 (by kernel_rfl)) rfl
       have e36 : a.tmps[36]? = some (v230) := by rw [ha]; exact putSel_on (e := (10, 36, v230)) 8 rfl rfl (hon 10 (by kernel_rfl)) rfl
       replace ha := Aside0.mk ha
       have BK208 := Aside0.mk Q_BK208
       have BK209 := Aside0.mk Q_BK209
       have HB := Aside0.mk Q_HB
       have HO219 := Aside0.mk trivial
       have HO222 := Aside0.mk (Q_HO222 (hon 5 (by kernel_rfl)))
       have HO228 := Aside0.mk (Q_HO228 (hon 8 (by kernel_rfl)) hb_)
       have HO231 := Aside0.mk (Kd.R_mono (Q_HO231 (hon 10 (by kernel_rfl)) hb_) (fun _ h_ => h_.1))
       obtain ⟨Ao35, co35, eo35⟩ := Kd.R_slice HO231.out
       (first | subst eo35 | (injection eo35 with f1_ f2_ f3_; have f4_ := f1_.symm; have f5_ := f3_.symm; clear f1_ f2_ f3_; subst f4_; subst f5_))
       refine Kd.R_append_rows_step k25 (w0 := w) w.heap.size (by rfl) (.tmp 34) (.tmp 36) 22 25 (.agg #[(.int .i64 0), (.int .i64 0)]) 16 rfl Try.underlying22 info25 rfl (by decide) (by omega) v227 y226 y229 _ _ _ (fun k_ => k_ ≠ gb209) (fun _ => False) (by first | exact eval_of e34 | rfl) (by first | exact eval_of e36 | rfl) ?aO ?aR (fun _ _ h => h) (fun _ h => h.elim) ?aF ?aB ?aS ?aL ?_
       (case aR => repeat (first | exact (Kd.R_reads' HO231.out).2.2 | (with_reducible refine Kd.C_alloc ?_ _) | (with_reducible refine Kd.C_drewN ?_ _) | (with_reducible refine Kd.C_drew ?_)))
       (case aB => exact (by repeat (first | (with_reducible first | exact HB.out | apply below_alloc | apply pw_below_drewN | apply below_drew1 | refine below_set ?_ GE208.out | refine below_set ?_ GE209.out) | exact HB.out)))
       (case aF => exact (fun k_ hk => Kd.freshB (g := gb209) (o := .cells #[.int .i64 a6_0, .int .i64 a6_1] 25 (0, 0)) (by (with_reducible repeat (first | refine blk_drewN ?_ _ | refine blk_drew ?_ | refine blk_alloc ?_ _)); exact BK209.out) k_ hk))
       (case aO => exact (by (with_reducible repeat (first | apply Kd.R_alloc | apply Kd.R_drewN | apply Kd.R_drew)); exact HO228.out))
       (case aS => exact (below_size (by repeat (first | (with_reducible first | exact HB.out | apply below_alloc | apply pw_below_drewN | apply below_drew1 | refine below_set ?_ GE208.out | refine below_set ?_ GE209.out) | exact HB.out))))
       (case aL => have := LMc12.out; omega)
       intro v233 w34 ho hb hg hat
       rw [← Ny232.out] at ho
       have n0_ := Aside0.mk (blk_grown (g := gb208) (o := .cells #[.int .i64 2, .int .i64 a5_1, .int .i64 a5_2, .int .i64 a5_3, .int .i64 a5_4] 50 (0, 0)) (by (with_reducible repeat (first | refine blk_drewN ?_ _ | refine blk_drew ?_ | refine blk_alloc ?_ _)); exact BK208.out) hg (Kd.R_ne HO228.out BK208.out (by decide)))
       have n1_ := Aside0.mk (blk_grown (g := gb209) (o := .cells #[.int .i64 a6_0, .int .i64 a6_1] 25 (0, 0)) (by (with_reducible repeat (first | refine blk_drewN ?_ _ | refine blk_drew ?_ | refine blk_alloc ?_ _)); exact BK209.out) hg (Kd.R_away HO228.out (fun _ hk => hk)))
       have n2_ := Aside0.mk trivial
       have n3_ := Aside0.mk (Kd.R_over' (by (with_reducible repeat (first | apply Kd.R_alloc | apply Kd.R_drewN | apply Kd.R_drew)); exact HO222.out) (Kd.R_typed (by (with_reducible repeat (first | apply Kd.R_alloc | apply Kd.R_drewN | apply Kd.R_drew)); exact HO228.out)) (by decide) hg)
       have n4_ := Aside0.mk trivial
       have n5_ := Aside0.mk (hb)
       have n6_ := Aside0.mk (ho)
       clear BK208
       clear BK209
       clear HO219
       clear HO222
       clear HO231
       clear HB
       clear HO228
       have BK208 := n0_
       have BK209 := n1_
       have HO219 := n2_
       have HO222 := n3_
       have HO231 := n4_
       have HB := n5_
       have HO234 := n6_
       clear n0_ n1_ n2_ n3_ n4_ n5_ n6_
       clear ho hb hg hat
       refine hK.out _ _ ⟨v212, v215, v218, v221, v224, v227, .slice Ao35 y229.length co35, v233, m12_, m13_, (by rw [ha.out]; exact putSel_upk 9 hb_ rfl rfl rfl), (by (with_reducible repeat (first | refine blk_drewN ?_ _ | refine blk_drew ?_ | refine blk_alloc ?_ _)); exact BK208.out), (by (with_reducible repeat (first | refine blk_drewN ?_ _ | refine blk_drew ?_ | refine blk_alloc ?_ _)); exact BK209.out), (by repeat (first | (with_reducible first | exact HB.out | apply below_alloc | apply pw_below_drewN | apply below_drew1 | refine below_set ?_ GE208.out | refine below_set ?_ GE209.out) | exact HB.out)), fun _ h1_ => absurd ((hon 2 (by kernel_rfl)).symm.trans h1_) (by decide), fun _ h1_ => absurd ((hon 5 (by kernel_rfl)).symm.trans h1_) (by decide), fun _ h1_ => absurd ((hon 5 (by kernel_rfl)).symm.trans h1_) (by decide), fun _ => (by (with_reducible repeat (first | apply Kd.R_alloc | apply Kd.R_drewN | apply Kd.R_drew)); exact HO222.out), fun _ h1_ => absurd ((hon 8 (by kernel_rfl)).symm.trans h1_) (by decide), fun _ h1_ => absurd ((up_self b 11).symm.trans h1_) (by decide), fun _ h1_ => absurd ((up_self b 11).symm.trans h1_) (by decide), fun _ => (by (with_reducible repeat (first | apply Kd.R_alloc | apply Kd.R_drewN | apply Kd.R_drew)); exact HO234.out), fun h0_ => absurd ((hoff 12 (by kernel_rfl)).symm.trans h0_) (by decide), fun h0_ => absurd ((hoff 13 (by kernel_rfl)).symm.trans h0_) (by decide)⟩
      refine steps_cons ?_ ?_
      ·
       rintro b a w' ⟨v212, v215, v218, v221, v224, v227, v230, v233, m12_, m13_, ha, Q_BK208, Q_BK209, Q_HB, Q_HO213, Q_HO216, Q_HO219, Q_HO222, Q_HO225, Q_HO228, Q_HO231, Q_HO234, Q_X12_, Q_X13_⟩ hb_ hon hoff
       refine ⟨_, rfl, fun K hK => ?_⟩
       have e31 : a.tmps[31]? = some (v221) := by rw [ha]; exact putSel_on (e := (5, 31, v221)) 4 rfl rfl (hon 5 (by kernel_rfl)) rfl
       replace ha := Aside0.mk ha
       have BK208 := Aside0.mk Q_BK208
       have BK209 := Aside0.mk Q_BK209
       have HB := Aside0.mk Q_HB
       have HO219 := Aside0.mk trivial
       have HO222 := Aside0.mk (Q_HO222 (hon 5 (by kernel_rfl)))
       have HO231 := Aside0.mk trivial
       have HO234 := Aside0.mk (Q_HO234 (hon 11 (by kernel_rfl)))
       refine value_ (w1 := w') (v := v221) (by rfl) rfl ?_ ?_
       ·
        go_simp
        (try simp only [i64_w])
        try rfl
       refine hK.out _ _ ⟨v212, v215, v218, v221, v224, v227, v230, v233, (v221), m13_, (by rw [ha.out]; exact putSel_upk 10 hb_ rfl rfl rfl), Q_BK208, Q_BK209, Q_HB, fun _ h1_ => absurd ((hon 2 (by kernel_rfl)).symm.trans h1_) (by decide), fun _ h1_ => absurd ((hon 5 (by kernel_rfl)).symm.trans h1_) (by decide), Q_HO219, Q_HO222, fun _ h1_ => absurd ((hon 8 (by kernel_rfl)).symm.trans h1_) (by decide), fun _ h1_ => absurd ((hon 11 (by kernel_rfl)).symm.trans h1_) (by decide), Q_HO231, Q_HO234, fun _ => rfl, fun h0_ => absurd ((hoff 13 (by kernel_rfl)).symm.trans h0_) (by decide)⟩
      refine steps_cons ?_ ?_
      ·
       rintro b a w' ⟨v212, v215, v218, v221, v224, v227, v230, v233, m12_, m13_, ha, Q_BK208, Q_BK209, Q_HB, Q_HO213, Q_HO216, Q_HO219, Q_HO222, Q_HO225, Q_HO228, Q_HO231, Q_HO234, Q_X12_, Q_X13_⟩ hb_ hon hoff
       refine ⟨_, rfl, fun K hK => ?_⟩
       have e37 : a.tmps[37]? = some (v233) := by rw [ha]; exact putSel_on (e := (11, 37, v233)) 9 rfl rfl (hon 11 (by kernel_rfl)) rfl
       replace ha := Aside0.mk ha
       have BK208 := Aside0.mk Q_BK208
       have BK209 := Aside0.mk Q_BK209
       have HB := Aside0.mk Q_HB
       have HO219 := Aside0.mk trivial
       have HO222 := Aside0.mk (Q_HO222 (hon 5 (by kernel_rfl)))
       have HO231 := Aside0.mk trivial
       have HO234 := Aside0.mk (Q_HO234 (hon 11 (by kernel_rfl)))
       refine value_ (w1 := w') (v := v233) (by rfl) rfl ?_ ?_
       ·
        go_simp
        (try simp only [i64_w])
        try rfl
       refine hK.out _ _ ⟨v212, v215, v218, v221, v224, v227, v230, v233, m12_, (v233), (by rw [ha.out]; exact putSel_upk 11 hb_ rfl rfl rfl), Q_BK208, Q_BK209, Q_HB, fun _ h1_ => absurd ((hon 2 (by kernel_rfl)).symm.trans h1_) (by decide), fun _ h1_ => absurd ((hon 5 (by kernel_rfl)).symm.trans h1_) (by decide), Q_HO219, Q_HO222, fun _ h1_ => absurd ((hon 8 (by kernel_rfl)).symm.trans h1_) (by decide), fun _ h1_ => absurd ((hon 11 (by kernel_rfl)).symm.trans h1_) (by decide), Q_HO231, Q_HO234, Q_X12_, fun _ => rfl⟩
      exact steps_nil
     rintro b a w35 hall ⟨v212, v215, v218, v221, v224, v227, v230, v233, m12_, m13_, ha, Q_BK208, Q_BK209, Q_HB, Q_HO213, Q_HO216, Q_HO219, Q_HO222, Q_HO225, Q_HO228, Q_HO231, Q_HO234, Q_X12_, Q_X13_⟩
     clear BK208 BK209 HB
     have hb0_ := hall 0 (by kernel_rfl)
     have hb2_ := hall 2 (by kernel_rfl)
     have hb3_ := hall 3 (by kernel_rfl)
     have hb4_ := hall 4 (by kernel_rfl)
     have hb5_ := hall 5 (by kernel_rfl)
     have hb6_ := hall 6 (by kernel_rfl)
     have hb8_ := hall 8 (by kernel_rfl)
     have hb9_ := hall 9 (by kernel_rfl)
     have hb10_ := hall 10 (by kernel_rfl)
     have hb11_ := hall 11 (by kernel_rfl)
     have hb12_ := hall 12 (by kernel_rfl)
     have hb13_ := hall 13 (by kernel_rfl)
     subst ha
     obtain rfl := (Q_X12_ hb12_).symm
     obtain rfl := (Q_X13_ hb13_).symm
     simp only [putSel, hb0_, hb2_, hb3_, hb4_, hb5_, hb6_, hb8_, hb9_, hb10_, hb11_, hb12_, hb13_, if_true, Act.put, List.setIfInBounds_toArray, List.set_cons_zero, List.set_cons_succ]
     have BK208 := Aside0.mk Q_BK208
     clear Q_BK208
     have BK209 := Aside0.mk Q_BK209
     clear Q_BK209
     have HB := Aside0.mk Q_HB
     clear Q_HB
     clear Q_HO213
     clear Q_HO216
     have HO219 := Aside0.mk trivial
     clear Q_HO219
     have HO222 := Aside0.mk (Q_HO222 hb5_)
     clear Q_HO222
     clear Q_HO225
     clear Q_HO228
     have HO231 := Aside0.mk trivial
     clear Q_HO231
     have HO234 := Aside0.mk (Q_HO234 hb11_)
     clear Q_HO234
     clear hall hb0_ hb2_ hb3_ hb4_ hb5_ hb6_ hb8_ hb9_ hb10_ hb11_ hb12_ hb13_
     go_upto_region 4 with (fail)
     go_cut [53] (fun v53 wc => ∃ (kq : Nat) (x53_12 : Bool), v53 = .bool x53_12 ∧ Aside0 (slotmeshlaw17_MediumMore.j0 kq l0 l1 a2 l3 a4 t210 y220 y232 x53_12 = some r) ∧ Aside0 (kq ≤ k) ∧ Aside0 (Kd.R k50 50 wc w.heap.size (fun k_ => k_ ≠ gb208) v221 y220) ∧ Aside0 (Kd.R k25 25 wc w.heap.size (fun k_ => k_ ≠ gb209) v233 y232) ∧ Aside0 (wc.heap[gb208]? = some (.cells #[.int .i64 2, .int .i64 a5_1, .int .i64 a5_2, .int .i64 a5_3, .int .i64 a5_4] 50 (0, 0))) ∧ Aside0 (wc.heap[gb209]? = some (.cells #[.int .i64 a6_0, .int .i64 a6_1] 25 (0, 0))) ∧ Aside0 (Below w.heap.size w wc))
     case first =>
      have H := HC13.out
      clear HC13
      replace H := Option.bind_eq_some_iff.mp H
      obtain ⟨t235, A360, H⟩ := H
      try dsimp only at H
      have A36 := Aside0.mk A360
      clear A360
      by_cases c37 : t235 = true
      ·
       subst c37
       rw [if_pos rfl] at H
       replace H := Option.bind_eq_some_iff.mp H
       obtain ⟨t236, A380, H⟩ := H
       try dsimp only at H
       have A38 := Aside0.mk A380
       clear A380
       have H' := Aside0.mk H
       clear H
       go_wp2_with (first | ((with_reducible refine gate_callee (f := 28) rfl ?_); refine goesL_ (some 43) rfl rfl Try.func28 (by kernel_rfl) rfl #[.slice A0 l0.length c0, .slice A1 l1.length c1, .int .i64 a2, .slice A3 l3.length c3, .int .i64 a4] rfl (by (try simp only [List.map_toArray, List.map_cons, List.map_nil]); first | done | rfl | (simp only [List.length_drop, List.length_take]; rfl)) ?_; (with_reducible refine (slotmeshlaw17_valid.calls k _ _ l0 _ _ l1 a2 _ _ l3 a4 true _ ?side1 ?side2 ?side3 ?side4 ?side5 ?side6 A36.out).mono ?_); (case side1 => repeat (first | exact (Kd.C_below HR0.out HB.out) | (with_reducible refine Kd.C_alloc ?_ _) | (with_reducible refine Kd.C_drewN ?_ _) | (with_reducible refine Kd.C_drew ?_))); (case side2 => exact HC0.out); (case side3 => repeat (first | exact (Kd.C_below HR1.out HB.out) | (with_reducible refine Kd.C_alloc ?_ _) | (with_reducible refine Kd.C_drewN ?_ _) | (with_reducible refine Kd.C_drew ?_))); (case side4 => exact HC1.out); (case side5 => repeat (first | exact (Kd.C_below HR3.out HB.out) | (with_reducible refine Kd.C_alloc ?_ _) | (with_reducible refine Kd.C_drewN ?_ _) | (with_reducible refine Kd.C_drew ?_))); (case side6 => exact HC3.out); rintro e w39 ⟨rfl, hb⟩; refine ⟨_, rfl, ?_⟩; have n0_ := Aside0.mk trivial; have n1_ := Aside0.mk (Kd.R_below (by (with_reducible repeat (first | apply Kd.R_alloc | apply Kd.R_drewN | apply Kd.R_drew)); exact HO222.out) hb); have n2_ := Aside0.mk trivial; have n3_ := Aside0.mk (Kd.R_below (by (with_reducible repeat (first | apply Kd.R_alloc | apply Kd.R_drewN | apply Kd.R_drew)); exact HO234.out) hb); have n4_ := Aside0.mk (blk_below (g := gb208) (o := .cells #[.int .i64 2, .int .i64 a5_1, .int .i64 a5_2, .int .i64 a5_3, .int .i64 a5_4] 50 (0, 0)) (by (with_reducible repeat (first | refine blk_drewN ?_ _ | refine blk_drew ?_ | refine blk_alloc ?_ _)); exact BK208.out) hb); have n5_ := Aside0.mk (blk_below (g := gb209) (o := .cells #[.int .i64 a6_0, .int .i64 a6_1] 25 (0, 0)) (by (with_reducible repeat (first | refine blk_drewN ?_ _ | refine blk_drew ?_ | refine blk_alloc ?_ _)); exact BK209.out) hb); have n6_ := Aside0.mk (below_step (by repeat (first | (with_reducible first | exact HB.out | apply below_alloc | apply pw_below_drewN | apply below_drew1 | refine below_set ?_ GE208.out | refine below_set ?_ GE209.out) | exact HB.out)) hb); clear HO219; clear HO222; clear HO231; clear HO234; clear BK208; clear BK209; clear HB; have HO219 := n0_; have HO222 := n1_; have HO231 := n2_; have HO234 := n3_; have BK208 := n4_; have BK209 := n5_; have HB := n6_; clear n0_ n1_ n2_ n3_ n4_ n5_ n6_; (try clear hb); (try clear hb2); (try clear hk); (try clear hi); obtain ⟨Ao40, co40, eo40⟩ := Kd.R_slice HO222.out; subst eo40; obtain ⟨Ao41, co41, eo41⟩ := Kd.R_slice HO234.out; subst eo41) | (go_at_call 28; (with_reducible refine (slotmeshlaw17_valid.calls k _ _ y220 _ _ y232 a2 _ _ l3 a4 t236 _ ?side1 ?side2 ?side3 ?side4 ?side5 ?side6 A38.out).mono ?_); (case side1 => repeat (first | exact (Kd.R_reads' HO222.out).2.2 | (with_reducible refine Kd.C_alloc ?_ _) | (with_reducible refine Kd.C_drewN ?_ _) | (with_reducible refine Kd.C_drew ?_))); (case side2 => exact (Kd.R_reads' HO222.out).2.1); (case side3 => repeat (first | exact (Kd.R_reads' HO234.out).2.2 | (with_reducible refine Kd.C_alloc ?_ _) | (with_reducible refine Kd.C_drewN ?_ _) | (with_reducible refine Kd.C_drew ?_))); (case side4 => exact (Kd.R_reads' HO234.out).2.1); (case side5 => repeat (first | exact (Kd.C_below HR3.out HB.out) | (with_reducible refine Kd.C_alloc ?_ _) | (with_reducible refine Kd.C_drewN ?_ _) | (with_reducible refine Kd.C_drew ?_))); (case side6 => exact HC3.out); rintro e w42 ⟨rfl, hb⟩; have n0_ := Aside0.mk trivial; have n1_ := Aside0.mk (Kd.R_below (by (with_reducible repeat (first | apply Kd.R_alloc | apply Kd.R_drewN | apply Kd.R_drew)); exact HO222.out) hb); have n2_ := Aside0.mk trivial; have n3_ := Aside0.mk (Kd.R_below (by (with_reducible repeat (first | apply Kd.R_alloc | apply Kd.R_drewN | apply Kd.R_drew)); exact HO234.out) hb); have n4_ := Aside0.mk (blk_below (g := gb208) (o := .cells #[.int .i64 2, .int .i64 a5_1, .int .i64 a5_2, .int .i64 a5_3, .int .i64 a5_4] 50 (0, 0)) (by (with_reducible repeat (first | refine blk_drewN ?_ _ | refine blk_drew ?_ | refine blk_alloc ?_ _)); exact BK208.out) hb); have n5_ := Aside0.mk (blk_below (g := gb209) (o := .cells #[.int .i64 a6_0, .int .i64 a6_1] 25 (0, 0)) (by (with_reducible repeat (first | refine blk_drewN ?_ _ | refine blk_drew ?_ | refine blk_alloc ?_ _)); exact BK209.out) hb); have n6_ := Aside0.mk (below_step (by repeat (first | (with_reducible first | exact HB.out | apply below_alloc | apply pw_below_drewN | apply below_drew1 | refine below_set ?_ GE208.out | refine below_set ?_ GE209.out) | exact HB.out)) hb); clear HO219; clear HO222; clear HO231; clear HO234; clear BK208; clear BK209; clear HB; have HO219 := n0_; have HO222 := n1_; have HO231 := n2_; have HO234 := n3_; have BK208 := n4_; have BK209 := n5_; have HB := n6_; clear n0_ n1_ n2_ n3_ n4_ n5_ n6_; (try clear hb); (try clear hb2); (try clear hk); (try clear hi)))
       go_meet
       case rel => exact ⟨_, (!t236), (by first | rfl | (simp; done) | (simp [*]; done)), H', ⟨by first | omega | exact Nat.le_refl _⟩, ⟨by (with_reducible repeat (first | apply Kd.R_alloc | apply Kd.R_drewN | apply Kd.R_drew)); exact HO222.out⟩, ⟨by (with_reducible repeat (first | apply Kd.R_alloc | apply Kd.R_drewN | apply Kd.R_drew)); exact HO234.out⟩, ⟨by (with_reducible repeat (first | refine blk_drewN ?_ _ | refine blk_drew ?_ | refine blk_alloc ?_ _)); exact BK208.out⟩, ⟨by (with_reducible repeat (first | refine blk_drewN ?_ _ | refine blk_drew ?_ | refine blk_alloc ?_ _)); exact BK209.out⟩, ⟨by repeat (first | (with_reducible first | exact HB.out | apply below_alloc | apply pw_below_drewN | apply below_drew1 | refine below_set ?_ GE208.out | refine below_set ?_ GE209.out) | exact HB.out)⟩⟩
      ·
       replace c37 := Bool.eq_false_iff.mpr c37
       subst c37
       rw [if_neg (show ¬ (false = true) by decide)] at H
       have H' := Aside0.mk H
       clear H
       go_wp2_with (first | ((with_reducible refine gate_callee (f := 28) rfl ?_); refine goesL_ (some 43) rfl rfl Try.func28 (by kernel_rfl) rfl #[.slice A0 l0.length c0, .slice A1 l1.length c1, .int .i64 a2, .slice A3 l3.length c3, .int .i64 a4] rfl (by (try simp only [List.map_toArray, List.map_cons, List.map_nil]); first | done | rfl | (simp only [List.length_drop, List.length_take]; rfl)) ?_; (with_reducible refine (slotmeshlaw17_valid.calls k _ _ l0 _ _ l1 a2 _ _ l3 a4 false _ ?side1 ?side2 ?side3 ?side4 ?side5 ?side6 A36.out).mono ?_); (case side1 => repeat (first | exact (Kd.C_below HR0.out HB.out) | (with_reducible refine Kd.C_alloc ?_ _) | (with_reducible refine Kd.C_drewN ?_ _) | (with_reducible refine Kd.C_drew ?_))); (case side2 => exact HC0.out); (case side3 => repeat (first | exact (Kd.C_below HR1.out HB.out) | (with_reducible refine Kd.C_alloc ?_ _) | (with_reducible refine Kd.C_drewN ?_ _) | (with_reducible refine Kd.C_drew ?_))); (case side4 => exact HC1.out); (case side5 => repeat (first | exact (Kd.C_below HR3.out HB.out) | (with_reducible refine Kd.C_alloc ?_ _) | (with_reducible refine Kd.C_drewN ?_ _) | (with_reducible refine Kd.C_drew ?_))); (case side6 => exact HC3.out); rintro e w43 ⟨rfl, hb⟩; refine ⟨_, rfl, ?_⟩; have n0_ := Aside0.mk trivial; have n1_ := Aside0.mk (Kd.R_below (by (with_reducible repeat (first | apply Kd.R_alloc | apply Kd.R_drewN | apply Kd.R_drew)); exact HO222.out) hb); have n2_ := Aside0.mk trivial; have n3_ := Aside0.mk (Kd.R_below (by (with_reducible repeat (first | apply Kd.R_alloc | apply Kd.R_drewN | apply Kd.R_drew)); exact HO234.out) hb); have n4_ := Aside0.mk (blk_below (g := gb208) (o := .cells #[.int .i64 2, .int .i64 a5_1, .int .i64 a5_2, .int .i64 a5_3, .int .i64 a5_4] 50 (0, 0)) (by (with_reducible repeat (first | refine blk_drewN ?_ _ | refine blk_drew ?_ | refine blk_alloc ?_ _)); exact BK208.out) hb); have n5_ := Aside0.mk (blk_below (g := gb209) (o := .cells #[.int .i64 a6_0, .int .i64 a6_1] 25 (0, 0)) (by (with_reducible repeat (first | refine blk_drewN ?_ _ | refine blk_drew ?_ | refine blk_alloc ?_ _)); exact BK209.out) hb); have n6_ := Aside0.mk (below_step (by repeat (first | (with_reducible first | exact HB.out | apply below_alloc | apply pw_below_drewN | apply below_drew1 | refine below_set ?_ GE208.out | refine below_set ?_ GE209.out) | exact HB.out)) hb); clear HO219; clear HO222; clear HO231; clear HO234; clear BK208; clear BK209; clear HB; have HO219 := n0_; have HO222 := n1_; have HO231 := n2_; have HO234 := n3_; have BK208 := n4_; have BK209 := n5_; have HB := n6_; clear n0_ n1_ n2_ n3_ n4_ n5_ n6_; (try clear hb); (try clear hb2); (try clear hk); (try clear hi)))
       go_meet
       case rel => exact ⟨_, (true), (by first | rfl | (simp; done) | (simp [*]; done)), H', ⟨by first | omega | exact Nat.le_refl _⟩, ⟨by (with_reducible repeat (first | apply Kd.R_alloc | apply Kd.R_drewN | apply Kd.R_drew)); exact HO222.out⟩, ⟨by (with_reducible repeat (first | apply Kd.R_alloc | apply Kd.R_drewN | apply Kd.R_drew)); exact HO234.out⟩, ⟨by (with_reducible repeat (first | refine blk_drewN ?_ _ | refine blk_drew ?_ | refine blk_alloc ?_ _)); exact BK208.out⟩, ⟨by (with_reducible repeat (first | refine blk_drewN ?_ _ | refine blk_drew ?_ | refine blk_alloc ?_ _)); exact BK209.out⟩, ⟨by repeat (first | (with_reducible first | exact HB.out | apply below_alloc | apply pw_below_drewN | apply below_drew1 | refine below_set ?_ GE208.out | refine below_set ?_ GE209.out) | exact HB.out)⟩⟩
     case rest =>
      clear HC13
      try clear c1
      try clear c2
      try clear p2
      try clear c3
      try clear c4
      try clear c5
      try clear c9
      try clear c10
      try clear c11
      try clear c12
      try clear c15
      try clear c17
      try clear c27
      try clear c28
      try clear c37
      try clear hcz18_0
      try clear hcz18_1
      try clear hcz18_2
      try clear hcz18_3
      try clear hcz18_4
      try clear hfz18_0
      try clear hfz18_1
      try clear hfz18_2
      try clear hfz18_3
      try clear hfz18_4
      obtain ⟨kq, x53_12, rfl, HA, HJ12, HO_16, HO_17, BK208, BK209, HB⟩ := hcut
      cases kq with
      | zero => exact absurd HA.out (by simp [slotmeshlaw17_MediumMore.j0])
      | succ kj12 =>
       have H := HA.out
       clear HA
       simp only [slotmeshlaw17_MediumMore.j0] at H
       by_cases c44 : x53_12 = true
       ·
        subst c44
        rw [if_pos rfl] at H
        obtain rfl := Option.some.inj H
        go_wp2
        go_ret
        exact ⟨by first | rfl | (simp [errW_none, errW_some] <;> rfl) | (simp [*, errW_none, errW_some] <;> rfl), by repeat (first | (with_reducible first | exact HB.out | apply below_alloc | apply pw_below_drewN | apply below_drew1 | refine below_set ?_ GE208.out | refine below_set ?_ GE209.out) | exact HB.out)⟩
       ·
        replace c44 := Bool.eq_false_iff.mpr c44
        subst c44
        rw [if_neg (show ¬ (false = true) by decide)] at H
        replace H := Option.bind_eq_some_iff.mp H
        obtain ⟨⟨t237, t238⟩, A450, H⟩ := H
        try dsimp only at H
        have A45 := Aside0.mk A450
        clear A450
        replace H := Option.bind_eq_some_iff.mp H
        obtain ⟨⟨t241, t242⟩, A460, H⟩ := H
        try dsimp only at H
        have A46 := Aside0.mk A460
        clear A460
        have HC47 := Aside0.mk H
        clear H
        go_upto_region 9 with (first | ((with_reducible refine gate_callee (f := 29) rfl ?_); refine goesL_ (some 61) rfl rfl Try.func29 (by kernel_rfl) rfl #[.slice A0 l0.length c0, .slice A1 l1.length c1, .int .i64 a2, .slice A3 l3.length c3, .int .i64 a4] rfl (by (try simp only [List.map_toArray, List.map_cons, List.map_nil]); first | done | rfl | (simp only [List.length_drop, List.length_take]; rfl)) ?_; (with_reducible refine (medium_Catch.calls kj12 _ _ l0 _ _ l1 a2 _ _ l3 a4 t237 t238 _ ?side1 ?side2 ?side3 ?side4 ?side5 ?side6 A45.out).mono ?_); (case side1 => repeat (first | exact (Kd.C_below HR0.out HB.out) | (with_reducible refine Kd.C_alloc ?_ _) | (with_reducible refine Kd.C_drewN ?_ _) | (with_reducible refine Kd.C_drew ?_))); (case side2 => exact HC0.out); (case side3 => repeat (first | exact (Kd.C_below HR1.out HB.out) | (with_reducible refine Kd.C_alloc ?_ _) | (with_reducible refine Kd.C_drewN ?_ _) | (with_reducible refine Kd.C_drew ?_))); (case side4 => exact HC1.out); (case side5 => repeat (first | exact (Kd.C_below HR3.out HB.out) | (with_reducible refine Kd.C_alloc ?_ _) | (with_reducible refine Kd.C_drewN ?_ _) | (with_reducible refine Kd.C_drew ?_))); (case side6 => exact HC3.out); rintro e w48 ⟨v239, rfl, ho0, hb⟩; refine ⟨_, rfl, ?_⟩; have n0_ := Aside0.mk (Kd.R_below (by (with_reducible repeat (first | apply Kd.R_alloc | apply Kd.R_drewN | apply Kd.R_drew)); exact HO_16.out) hb); have n1_ := Aside0.mk (Kd.R_below (by (with_reducible repeat (first | apply Kd.R_alloc | apply Kd.R_drewN | apply Kd.R_drew)); exact HO_17.out) hb); have n2_ := Aside0.mk (Kd.R_lower ho0 (below_size (by repeat (first | (with_reducible first | exact HB.out | apply below_alloc | apply pw_below_drewN | apply below_drew1 | refine below_set ?_ GE208.out | refine below_set ?_ GE209.out) | exact HB.out)))); have n3_ := Aside0.mk (blk_below (g := gb208) (o := .cells #[.int .i64 2, .int .i64 a5_1, .int .i64 a5_2, .int .i64 a5_3, .int .i64 a5_4] 50 (0, 0)) (by (with_reducible repeat (first | refine blk_drewN ?_ _ | refine blk_drew ?_ | refine blk_alloc ?_ _)); exact BK208.out) hb); have n4_ := Aside0.mk (blk_below (g := gb209) (o := .cells #[.int .i64 a6_0, .int .i64 a6_1] 25 (0, 0)) (by (with_reducible repeat (first | refine blk_drewN ?_ _ | refine blk_drew ?_ | refine blk_alloc ?_ _)); exact BK209.out) hb); have n5_ := Aside0.mk (below_step (by repeat (first | (with_reducible first | exact HB.out | apply below_alloc | apply pw_below_drewN | apply below_drew1 | refine below_set ?_ GE208.out | refine below_set ?_ GE209.out) | exact HB.out)) hb); clear HO_16; clear HO_17; clear BK208; clear BK209; clear HB; have HO_16 := n0_; have HO_17 := n1_; have HO240 := n2_; have BK208 := n3_; have BK209 := n4_; have HB := n5_; clear n0_ n1_ n2_ n3_ n4_ n5_; (try clear hb); (try clear hb2); (try clear hk); (try clear hi); (try clear ho0); obtain ⟨Ao49, co49, eo49⟩ := Kd.R_slice HO_16.out; subst eo49; obtain ⟨Ao50, co50, eo50⟩ := Kd.R_slice HO_17.out; subst eo50) | ((with_reducible refine gate_callee (f := 29) rfl ?_); refine goesL_ (some 70) rfl rfl Try.func29 (by kernel_rfl) rfl #[.slice Ao49 y220.length co49, .slice Ao50 y232.length co50, .int .i64 a2, .slice A3 l3.length c3, .int .i64 a4] rfl (by (try simp only [List.map_toArray, List.map_cons, List.map_nil]); first | done | rfl | (simp only [List.length_drop, List.length_take]; rfl)) ?_; (with_reducible refine (medium_Catch.calls kj12 _ _ y220 _ _ y232 a2 _ _ l3 a4 t241 t242 _ ?side1 ?side2 ?side3 ?side4 ?side5 ?side6 A46.out).mono ?_); (case side1 => repeat (first | exact (Kd.R_reads' HO_16.out).2.2 | (with_reducible refine Kd.C_alloc ?_ _) | (with_reducible refine Kd.C_drewN ?_ _) | (with_reducible refine Kd.C_drew ?_))); (case side2 => exact (Kd.R_reads' HO_16.out).2.1); (case side3 => repeat (first | exact (Kd.R_reads' HO_17.out).2.2 | (with_reducible refine Kd.C_alloc ?_ _) | (with_reducible refine Kd.C_drewN ?_ _) | (with_reducible refine Kd.C_drew ?_))); (case side4 => exact (Kd.R_reads' HO_17.out).2.1); (case side5 => repeat (first | exact (Kd.C_below HR3.out HB.out) | (with_reducible refine Kd.C_alloc ?_ _) | (with_reducible refine Kd.C_drewN ?_ _) | (with_reducible refine Kd.C_drew ?_))); (case side6 => exact HC3.out); rintro e w51 ⟨v243, rfl, ho0, hb⟩; refine ⟨_, rfl, ?_⟩; have n0_ := Aside0.mk (Kd.R_below (by (with_reducible repeat (first | apply Kd.R_alloc | apply Kd.R_drewN | apply Kd.R_drew)); exact HO_16.out) hb); have n1_ := Aside0.mk (Kd.R_below (by (with_reducible repeat (first | apply Kd.R_alloc | apply Kd.R_drewN | apply Kd.R_drew)); exact HO_17.out) hb); have n2_ := Aside0.mk (Kd.R_elder' (by (with_reducible repeat (first | apply Kd.R_alloc | apply Kd.R_drewN | apply Kd.R_drew)); exact HO240.out) (Kd.R_base ho0) hb); have n3_ := Aside0.mk (Kd.R_lower (Kd.R_new' ho0 (Kd.R_lt (by (with_reducible repeat (first | apply Kd.R_alloc | apply Kd.R_drewN | apply Kd.R_drew)); exact HO240.out))) (below_size (by repeat (first | (with_reducible first | exact HB.out | apply below_alloc | apply pw_below_drewN | apply below_drew1 | refine below_set ?_ GE208.out | refine below_set ?_ GE209.out) | exact HB.out)))); have n4_ := Aside0.mk (blk_below (g := gb208) (o := .cells #[.int .i64 2, .int .i64 a5_1, .int .i64 a5_2, .int .i64 a5_3, .int .i64 a5_4] 50 (0, 0)) (by (with_reducible repeat (first | refine blk_drewN ?_ _ | refine blk_drew ?_ | refine blk_alloc ?_ _)); exact BK208.out) hb); have n5_ := Aside0.mk (blk_below (g := gb209) (o := .cells #[.int .i64 a6_0, .int .i64 a6_1] 25 (0, 0)) (by (with_reducible repeat (first | refine blk_drewN ?_ _ | refine blk_drew ?_ | refine blk_alloc ?_ _)); exact BK209.out) hb); have n6_ := Aside0.mk (below_step (by repeat (first | (with_reducible first | exact HB.out | apply below_alloc | apply pw_below_drewN | apply below_drew1 | refine below_set ?_ GE208.out | refine below_set ?_ GE209.out) | exact HB.out)) hb); clear HO_16; clear HO_17; clear HO240; clear BK208; clear BK209; clear HB; have HO_16 := n0_; have HO_17 := n1_; have HO240 := n2_; have HO244 := n3_; have BK208 := n4_; have BK209 := n5_; have HB := n6_; clear n0_ n1_ n2_ n3_ n4_ n5_ n6_; (try clear hb); (try clear hb2); (try clear hk); (try clear hi); (try clear ho0)))
        (try simp only [Act.put, List.setIfInBounds_toArray, List.set_cons_zero, List.set_cons_succ])
        go_cut [100] (fun v100 wc => ∃ (kq : Nat) (x100_46 : Bool), v100 = .bool x100_46 ∧ Aside0 (slotmeshlaw17_MediumMore.j1 kq a2 t210 y220 y232 t237 t241 (l0.length : Int) x100_46 = some r) ∧ Aside0 (kq ≤ kj12) ∧ Aside0 (Kd.R k50 50 wc w.heap.size (fun k_ => k_ ≠ gb208) (.slice Ao49 y220.length co49) y220) ∧ Aside0 (Kd.R k25 25 wc w.heap.size (fun k_ => k_ ≠ gb209) (.slice Ao50 y232.length co50) y232) ∧ Aside0 (Kd.R (Kd.int .i64) 3 wc w.heap.size (fun k_ => some k_ ≠ (v243 : Value).ownBlock) v239 t237) ∧ Aside0 (Kd.R (Kd.int .i64) 3 wc w.heap.size (fun k_ => some k_ ≠ (v239 : Value).ownBlock) v243 t241) ∧ Aside0 (wc.heap[gb208]? = some (.cells #[.int .i64 2, .int .i64 a5_1, .int .i64 a5_2, .int .i64 a5_3, .int .i64 a5_4] 50 (0, 0))) ∧ Aside0 (wc.heap[gb209]? = some (.cells #[.int .i64 a6_0, .int .i64 a6_1] 25 (0, 0))) ∧ Aside0 (Below w.heap.size w wc))
        case first =>
         have H := HC47.out
         clear HC47
         by_cases c52 : t238 = 0
         ·
          rw [if_pos c52] at H
          have c52b0 : (t238 == 0) = true := beq_iff_eq.mpr c52
          have c52b1 : (t238 != 0) = false := bne_eq_false_iff_eq.mpr c52
          clear c52
          (first | rw [c52b0] | (simp only [i64_w, i32_w]; rw [c52b0]) | skip)
          by_cases c53 : t242 = 0
          ·
           rw [if_pos c53] at H
           have c53b0 : (t242 == 0) = true := beq_iff_eq.mpr c53
           have c53b1 : (t242 != 0) = false := bne_eq_false_iff_eq.mpr c53
           clear c53
           by_cases c54 : (t237.length : Int) = (l0.length : Int)
           ·
            rw [if_pos c54] at H
            have c54b0 : ((t237.length : Int) == (l0.length : Int)) = true := beq_iff_eq.mpr c54
            have c54b1 : ((t237.length : Int) != (l0.length : Int)) = false := bne_eq_false_iff_eq.mpr c54
            have c54b2 : (t237.length == l0.length) = true := by first | simpa using c54 | (simp at c54 ⊢; omega)
            clear c54
            by_cases c55 : (t241.length : Int) = (wrap64 ((l0.length : Int) + 1))
            ·
             rw [if_pos c55] at H
             have c55b0 : ((t241.length : Int) == (wrap64 ((l0.length : Int) + 1))) = true := beq_iff_eq.mpr c55
             have c55b1 : ((t241.length : Int) != (wrap64 ((l0.length : Int) + 1))) = false := bne_eq_false_iff_eq.mpr c55
             clear c55
             by_cases c56 : 0 ≤ (l0.length : Int)
             ·
              rw [if_pos c56] at H
              have c56b0 : decide (0 ≤ (l0.length : Int)) = true := decide_eq_true c56
              have c56b1 : decide (0 ≤ l0.length) = true := decide_eq_true (by omega)
              clear c56
              by_cases c57 : (l0.length : Int) < (t241.length : Int)
              ·
               rw [if_pos c57] at H
               have c57b0 : decide ((l0.length : Int) < (t241.length : Int)) = true := decide_eq_true c57
               have c57b1 : decide (l0.length < t241.length) = true := decide_eq_true (Int.ofNat_lt.mp c57)
               clear c57
               have H' := Aside0.mk H
               clear H
               obtain ⟨Ao58, co58, eo58⟩ := Kd.R_slice HO240.out
               subst eo58
               obtain ⟨Ao59, co59, eo59⟩ := Kd.R_slice HO244.out
               subst eo59
               have p245 : 0 ≤ ((l0.length : Int) : Int) := of_decide_eq_true (by first | (with_reducible assumption) | assumption)
               have q245 : (l0.length : Int) < (t241.length : Int) := of_decide_eq_true (by first | (with_reducible assumption) | assumption)
               obtain ⟨ad245, e245, hx245_0⟩ := Kd.at_int (Kd.R_reads' HO244.out).2.2 (l0.length : Int) p245 q245
               cases e245
               (try simp only [Go.IntWalk.toNatUp] at hx245_0)
               replace p245 := eq_true p245
               replace q245 := eq_true q245
               go_wp2
               go_meet
               case rel => exact ⟨_, (((rd t241 (l0.length : Int)) != (-1))), (by first | rfl | (simp; done) | (simp [*]; done)), H', ⟨by have := HJ12.out; first | omega | exact Nat.le_refl _⟩, ⟨by (with_reducible repeat (first | apply Kd.R_alloc | apply Kd.R_drewN | apply Kd.R_drew)); exact HO_16.out⟩, ⟨by (with_reducible repeat (first | apply Kd.R_alloc | apply Kd.R_drewN | apply Kd.R_drew)); exact HO_17.out⟩, ⟨by (with_reducible repeat (first | apply Kd.R_alloc | apply Kd.R_drewN | apply Kd.R_drew)); exact Kd.R_mono HO240.out (fun _ hk => hk.2)⟩, ⟨by (with_reducible repeat (first | apply Kd.R_alloc | apply Kd.R_drewN | apply Kd.R_drew)); exact Kd.R_mono HO244.out (fun _ hk => hk.2)⟩, ⟨by (with_reducible repeat (first | refine blk_drewN ?_ _ | refine blk_drew ?_ | refine blk_alloc ?_ _)); exact BK208.out⟩, ⟨by (with_reducible repeat (first | refine blk_drewN ?_ _ | refine blk_drew ?_ | refine blk_alloc ?_ _)); exact BK209.out⟩, ⟨by repeat (first | (with_reducible first | exact HB.out | apply below_alloc | apply pw_below_drewN | apply below_drew1 | refine below_set ?_ GE208.out | refine below_set ?_ GE209.out) | exact HB.out)⟩⟩
              ·
               rw [if_neg c57] at H
               exact absurd H (by simp)
             ·
              rw [if_neg c56] at H
              exact absurd H (by simp)
            ·
             rw [if_neg c55] at H
             have c55b0 : ((t241.length : Int) == (wrap64 ((l0.length : Int) + 1))) = false := beq_eq_false_iff_ne.mpr c55
             have c55b1 : ((t241.length : Int) != (wrap64 ((l0.length : Int) + 1))) = true := bne_iff_ne.mpr c55
             have H' := Aside0.mk H
             clear H
             obtain ⟨Ao60, co60, eo60⟩ := Kd.R_slice HO240.out
             subst eo60
             obtain ⟨Ao61, co61, eo61⟩ := Kd.R_slice HO244.out
             subst eo61
             go_wp2
             go_meet
             case rel => exact ⟨_, (true), (by first | rfl | (simp; done) | (simp [*]; done)), H', ⟨by have := HJ12.out; first | omega | exact Nat.le_refl _⟩, ⟨by (with_reducible repeat (first | apply Kd.R_alloc | apply Kd.R_drewN | apply Kd.R_drew)); exact HO_16.out⟩, ⟨by (with_reducible repeat (first | apply Kd.R_alloc | apply Kd.R_drewN | apply Kd.R_drew)); exact HO_17.out⟩, ⟨by (with_reducible repeat (first | apply Kd.R_alloc | apply Kd.R_drewN | apply Kd.R_drew)); exact Kd.R_mono HO240.out (fun _ hk => hk.2)⟩, ⟨by (with_reducible repeat (first | apply Kd.R_alloc | apply Kd.R_drewN | apply Kd.R_drew)); exact Kd.R_mono HO244.out (fun _ hk => hk.2)⟩, ⟨by (with_reducible repeat (first | refine blk_drewN ?_ _ | refine blk_drew ?_ | refine blk_alloc ?_ _)); exact BK208.out⟩, ⟨by (with_reducible repeat (first | refine blk_drewN ?_ _ | refine blk_drew ?_ | refine blk_alloc ?_ _)); exact BK209.out⟩, ⟨by repeat (first | (with_reducible first | exact HB.out | apply below_alloc | apply pw_below_drewN | apply below_drew1 | refine below_set ?_ GE208.out | refine below_set ?_ GE209.out) | exact HB.out)⟩⟩
           ·
            rw [if_neg c54] at H
            have c54b0 : ((t237.length : Int) == (l0.length : Int)) = false := beq_eq_false_iff_ne.mpr c54
            have c54b1 : ((t237.length : Int) != (l0.length : Int)) = true := bne_iff_ne.mpr c54
            have c54b2 : (t237.length == l0.length) = false := by first | simpa using c54 | (simp at c54 ⊢; omega)
            have H' := Aside0.mk H
            clear H
            obtain ⟨Ao62, co62, eo62⟩ := Kd.R_slice HO240.out
            subst eo62
            go_wp2
            go_meet
            case rel => exact ⟨_, (true), (by first | rfl | (simp; done) | (simp [*]; done)), H', ⟨by have := HJ12.out; first | omega | exact Nat.le_refl _⟩, ⟨by (with_reducible repeat (first | apply Kd.R_alloc | apply Kd.R_drewN | apply Kd.R_drew)); exact HO_16.out⟩, ⟨by (with_reducible repeat (first | apply Kd.R_alloc | apply Kd.R_drewN | apply Kd.R_drew)); exact HO_17.out⟩, ⟨by (with_reducible repeat (first | apply Kd.R_alloc | apply Kd.R_drewN | apply Kd.R_drew)); exact Kd.R_mono HO240.out (fun _ hk => hk.2)⟩, ⟨by (with_reducible repeat (first | apply Kd.R_alloc | apply Kd.R_drewN | apply Kd.R_drew)); exact Kd.R_mono HO244.out (fun _ hk => hk.2)⟩, ⟨by (with_reducible repeat (first | refine blk_drewN ?_ _ | refine blk_drew ?_ | refine blk_alloc ?_ _)); exact BK208.out⟩, ⟨by (with_reducible repeat (first | refine blk_drewN ?_ _ | refine blk_drew ?_ | refine blk_alloc ?_ _)); exact BK209.out⟩, ⟨by repeat (first | (with_reducible first | exact HB.out | apply below_alloc | apply pw_below_drewN | apply below_drew1 | refine below_set ?_ GE208.out | refine below_set ?_ GE209.out) | exact HB.out)⟩⟩
          ·
           rw [if_neg c53] at H
           have c53b0 : (t242 == 0) = false := beq_eq_false_iff_ne.mpr c53
           have c53b1 : (t242 != 0) = true := bne_iff_ne.mpr c53
           have H' := Aside0.mk H
           clear H
           go_wp2
           go_meet
           case rel => exact ⟨_, (true), (by first | rfl | (simp; done) | (simp [*]; done)), H', ⟨by have := HJ12.out; first | omega | exact Nat.le_refl _⟩, ⟨by (with_reducible repeat (first | apply Kd.R_alloc | apply Kd.R_drewN | apply Kd.R_drew)); exact HO_16.out⟩, ⟨by (with_reducible repeat (first | apply Kd.R_alloc | apply Kd.R_drewN | apply Kd.R_drew)); exact HO_17.out⟩, ⟨by (with_reducible repeat (first | apply Kd.R_alloc | apply Kd.R_drewN | apply Kd.R_drew)); exact Kd.R_mono HO240.out (fun _ hk => hk.2)⟩, ⟨by (with_reducible repeat (first | apply Kd.R_alloc | apply Kd.R_drewN | apply Kd.R_drew)); exact Kd.R_mono HO244.out (fun _ hk => hk.2)⟩, ⟨by (with_reducible repeat (first | refine blk_drewN ?_ _ | refine blk_drew ?_ | refine blk_alloc ?_ _)); exact BK208.out⟩, ⟨by (with_reducible repeat (first | refine blk_drewN ?_ _ | refine blk_drew ?_ | refine blk_alloc ?_ _)); exact BK209.out⟩, ⟨by repeat (first | (with_reducible first | exact HB.out | apply below_alloc | apply pw_below_drewN | apply below_drew1 | refine below_set ?_ GE208.out | refine below_set ?_ GE209.out) | exact HB.out)⟩⟩
         ·
          rw [if_neg c52] at H
          have c52b0 : (t238 == 0) = false := beq_eq_false_iff_ne.mpr c52
          have c52b1 : (t238 != 0) = true := bne_iff_ne.mpr c52
          (first | rw [c52b0] | (simp only [i64_w, i32_w]; rw [c52b0]) | skip)
          have H' := Aside0.mk H
          clear H
          go_wp2
          go_meet
          case rel => exact ⟨_, (true), (by first | rfl | (simp; done) | (simp [*]; done)), H', ⟨by have := HJ12.out; first | omega | exact Nat.le_refl _⟩, ⟨by (with_reducible repeat (first | apply Kd.R_alloc | apply Kd.R_drewN | apply Kd.R_drew)); exact HO_16.out⟩, ⟨by (with_reducible repeat (first | apply Kd.R_alloc | apply Kd.R_drewN | apply Kd.R_drew)); exact HO_17.out⟩, ⟨by (with_reducible repeat (first | apply Kd.R_alloc | apply Kd.R_drewN | apply Kd.R_drew)); exact Kd.R_mono HO240.out (fun _ hk => hk.2)⟩, ⟨by (with_reducible repeat (first | apply Kd.R_alloc | apply Kd.R_drewN | apply Kd.R_drew)); exact Kd.R_mono HO244.out (fun _ hk => hk.2)⟩, ⟨by (with_reducible repeat (first | refine blk_drewN ?_ _ | refine blk_drew ?_ | refine blk_alloc ?_ _)); exact BK208.out⟩, ⟨by (with_reducible repeat (first | refine blk_drewN ?_ _ | refine blk_drew ?_ | refine blk_alloc ?_ _)); exact BK209.out⟩, ⟨by repeat (first | (with_reducible first | exact HB.out | apply below_alloc | apply pw_below_drewN | apply below_drew1 | refine below_set ?_ GE208.out | refine below_set ?_ GE209.out) | exact HB.out)⟩⟩
        case rest =>
         clear HC47
         try clear c1
         try clear c2
         try clear p2
         try clear q2
         try clear hx2
         try clear c3
         try clear c4
         try clear c5
         try clear p6
         try clear c9
         try clear c10
         try clear c11
         try clear c12
         try clear c15
         try clear c17
         try clear p24
         try clear q24
         try clear hx24
         try clear c27
         try clear c28
         try clear c29
         try clear c37
         try clear c44
         try clear c52
         try clear c52b0
         try clear c52b1
         try clear c53
         try clear c53b0
         try clear c53b1
         try clear c54
         try clear c54b0
         try clear c54b1
         try clear c54b2
         try clear c55
         try clear c55b0
         try clear c55b1
         try clear c56
         try clear c56b0
         try clear c56b1
         try clear c57
         try clear c57b0
         try clear c57b1
         try clear hcz18_0
         try clear hcz18_1
         try clear hcz18_2
         try clear hcz18_3
         try clear hcz18_4
         try clear hfz18_0
         try clear hfz18_1
         try clear hfz18_2
         try clear hfz18_3
         try clear hfz18_4
         try clear hx245_0
         try clear p2
         try clear p245
         try clear q245
         obtain ⟨kq, x100_46, rfl, HA, HJ46, HO_16, HO_17, HO_18, HO_20, BK208, BK209, HB⟩ := hcut
         cases kq with
         | zero => exact absurd HA.out (by simp [slotmeshlaw17_MediumMore.j1])
         | succ kj46 =>
          have H := HA.out
          clear HA
          simp only [slotmeshlaw17_MediumMore.j1] at H
          by_cases c63 : x100_46 = true
          ·
           subst c63
           rw [if_pos rfl] at H
           exact absurd (Option.some.inj H) (by rw [HRT.out]; decide)
          ·
           replace c63 := Bool.eq_false_iff.mpr c63
           subst c63
           rw [if_neg (show ¬ (false = true) by decide)] at H
           have H' := Aside0.mk H
           clear H
           go_wp2
           go_loopg [102] kj46 (fun kq v102 w' => ∃ (x102_3 : Int), v102 = .int .i64 x102_3 ∧ Aside0 (slotmeshlaw17_MediumMore.l0 kq a2 t210 y220 y232 t237 t241 (l0.length : Int) (l0.length : Int) x102_3 = some r) ∧ Aside0 (kq ≤ kj46) ∧ Aside0 (Kd.R k50 50 w' w.heap.size (fun k_ => k_ ≠ gb208) (.slice Ao49 y220.length co49) y220) ∧ Aside0 (Kd.R k25 25 w' w.heap.size (fun k_ => k_ ≠ gb209) (.slice Ao50 y232.length co50) y232) ∧ Aside0 (Kd.R (Kd.int .i64) 3 w' w.heap.size (fun k_ => some k_ ≠ (v243 : Value).ownBlock) v239 t237) ∧ Aside0 (Kd.R (Kd.int .i64) 3 w' w.heap.size (fun k_ => some k_ ≠ (v239 : Value).ownBlock) v243 t241) ∧ Aside0 (w'.heap[gb208]? = some (.cells #[.int .i64 2, .int .i64 a5_1, .int .i64 a5_2, .int .i64 a5_3, .int .i64 a5_4] 50 (0, 0))) ∧ Aside0 (w'.heap[gb209]? = some (.cells #[.int .i64 a6_0, .int .i64 a6_1] 25 (0, 0))) ∧ Aside0 (Below w.heap.size w w'))
           case atStart => exact ⟨(0), (by first | rfl | (simp; done) | (simp [*]; done)), H', ⟨Nat.le_refl _⟩, ⟨by (with_reducible repeat (first | apply Kd.R_alloc | apply Kd.R_drewN | apply Kd.R_drew)); exact HO_16.out⟩, ⟨by (with_reducible repeat (first | apply Kd.R_alloc | apply Kd.R_drewN | apply Kd.R_drew)); exact HO_17.out⟩, ⟨by (with_reducible repeat (first | apply Kd.R_alloc | apply Kd.R_drewN | apply Kd.R_drew)); exact HO_18.out⟩, ⟨by (with_reducible repeat (first | apply Kd.R_alloc | apply Kd.R_drewN | apply Kd.R_drew)); exact HO_20.out⟩, ⟨by (with_reducible repeat (first | refine blk_drewN ?_ _ | refine blk_drew ?_ | refine blk_alloc ?_ _)); exact BK208.out⟩, ⟨by (with_reducible repeat (first | refine blk_drewN ?_ _ | refine blk_drew ?_ | refine blk_alloc ?_ _)); exact BK209.out⟩, ⟨by repeat (first | (with_reducible first | exact HB.out | apply below_alloc | apply pw_below_drewN | apply below_drew1 | refine below_set ?_ GE208.out | refine below_set ?_ GE209.out) | exact HB.out)⟩⟩
           case round =>
            clear H'
            try clear c1
            try clear c2
            try clear p2
            try clear q2
            try clear hx2
            try clear c3
            try clear c4
            try clear c5
            try clear c6
            try clear p6
            try clear c9
            try clear c10
            try clear c11
            try clear c12
            try clear c15
            try clear c17
            try clear p24
            try clear q24
            try clear hx24
            try clear c27
            try clear c28
            try clear c29
            try clear c37
            try clear c44
            try clear c52
            try clear c52b0
            try clear c52b1
            try clear c53
            try clear c53b0
            try clear c53b1
            try clear c54
            try clear c54b0
            try clear c54b1
            try clear c54b2
            try clear c55
            try clear c55b0
            try clear c55b1
            try clear c56
            try clear c56b0
            try clear c56b1
            try clear c57
            try clear c57b0
            try clear c57b1
            try clear c63
            try clear hcz18_0
            try clear hcz18_1
            try clear hcz18_2
            try clear hcz18_3
            try clear hcz18_4
            try clear hfz18_0
            try clear hfz18_1
            try clear hfz18_2
            try clear hfz18_3
            try clear hfz18_4
            try clear hx245_0
            try clear p2
            try clear p24
            try clear p245
            try clear p6
            try clear q2
            try clear q24
            try clear q245
            obtain ⟨x102_3, rfl, HA, HK3, HO_16, HO_17, HO_18, HO_20, BK208, BK209, HB⟩ := hrel
            cases gk with
            | zero => exact absurd HA.out (by simp [slotmeshlaw17_MediumMore.l0])
            | succ k3 =>
             have H := HA.out
             clear HA
             simp only [slotmeshlaw17_MediumMore.l0] at H
             by_cases c64 : x102_3 < (l0.length : Int)
             ·
              rw [if_pos c64] at H
              have c64b0 : decide (x102_3 < (l0.length : Int)) = true := decide_eq_true c64
              clear c64
              replace H := Option.bind_eq_some_iff.mp H
              obtain ⟨t246, A650, H⟩ := H
              try dsimp only at H
              have A65 := Aside0.mk A650
              clear A650
              by_cases c66 : t246 = true
              ·
               subst c66
               rw [if_pos rfl] at H
               by_cases c67 : 0 ≤ x102_3
               ·
                rw [if_pos c67] at H
                have c67b0 : decide (0 ≤ x102_3) = true := decide_eq_true c67
                clear c67
                by_cases c68 : x102_3 < (t241.length : Int)
                ·
                 rw [if_pos c68] at H
                 have c68b0 : decide (x102_3 < (t241.length : Int)) = true := decide_eq_true c68
                 clear c68
                 by_cases c69 : (rd t241 x102_3) = (l0.length : Int)
                 ·
                  rw [if_pos c69] at H
                  have c69b0 : ((rd t241 x102_3) == (l0.length : Int)) = true := beq_iff_eq.mpr c69
                  have c69b1 : ((rd t241 x102_3) != (l0.length : Int)) = false := bne_eq_false_iff_eq.mpr c69
                  clear c69
                  by_cases c70 : x102_3 < (t237.length : Int)
                  ·
                   rw [if_pos c70] at H
                   have c70b0 : decide (x102_3 < (t237.length : Int)) = true := decide_eq_true c70
                   clear c70
                   by_cases c71 : (rd t237 x102_3) = (-1)
                   ·
                    rw [if_pos c71] at H
                    have c71b0 : ((rd t237 x102_3) == (-1)) = true := beq_iff_eq.mpr c71
                    have c71b1 : ((rd t237 x102_3) != (-1)) = false := bne_eq_false_iff_eq.mpr c71
                    clear c71
                    have H' := Aside0.mk H
                    clear H
                    go_wp2_with (first | ((with_reducible refine gate_callee (f := 34) rfl ?_); refine goesL_ (some 110) rfl rfl Try.func34 (by kernel_rfl) rfl #[.slice Ao49 y220.length co49, .slice Ao50 y232.length co50, .int .i64 a2, .int .i64 (l0.length : Int), .int .i64 x102_3] rfl (by (try simp only [List.map_toArray, List.map_cons, List.map_nil]); first | done | rfl | (simp only [List.length_drop, List.length_take]; rfl)) ?_; (with_reducible refine (slotmeshlaw17_heard.calls _ _ y220 _ _ y232 a2 (l0.length : Int) x102_3 true _ ?side1 ?side2 ?side3 ?side4 A65.out).mono ?_); (case side1 => repeat (first | exact (Kd.R_reads' HO_16.out).2.2 | (with_reducible refine Kd.C_alloc ?_ _) | (with_reducible refine Kd.C_drewN ?_ _) | (with_reducible refine Kd.C_drew ?_))); (case side2 => exact (Kd.R_reads' HO_16.out).2.1); (case side3 => repeat (first | exact (Kd.R_reads' HO_17.out).2.2 | (with_reducible refine Kd.C_alloc ?_ _) | (with_reducible refine Kd.C_drewN ?_ _) | (with_reducible refine Kd.C_drew ?_))); (case side4 => exact (Kd.R_reads' HO_17.out).2.1); rintro e w72 ⟨rfl, hb⟩; refine ⟨_, rfl, ?_⟩; have n0_ := Aside0.mk (Kd.R_below (by (with_reducible repeat (first | apply Kd.R_alloc | apply Kd.R_drewN | apply Kd.R_drew)); exact HO_16.out) hb); have n1_ := Aside0.mk (Kd.R_below (by (with_reducible repeat (first | apply Kd.R_alloc | apply Kd.R_drewN | apply Kd.R_drew)); exact HO_17.out) hb); have n2_ := Aside0.mk (Kd.R_below (by (with_reducible repeat (first | apply Kd.R_alloc | apply Kd.R_drewN | apply Kd.R_drew)); exact HO_18.out) hb); have n3_ := Aside0.mk (Kd.R_below (by (with_reducible repeat (first | apply Kd.R_alloc | apply Kd.R_drewN | apply Kd.R_drew)); exact HO_20.out) hb); have n4_ := Aside0.mk (blk_below (g := gb208) (o := .cells #[.int .i64 2, .int .i64 a5_1, .int .i64 a5_2, .int .i64 a5_3, .int .i64 a5_4] 50 (0, 0)) (by (with_reducible repeat (first | refine blk_drewN ?_ _ | refine blk_drew ?_ | refine blk_alloc ?_ _)); exact BK208.out) hb); have n5_ := Aside0.mk (blk_below (g := gb209) (o := .cells #[.int .i64 a6_0, .int .i64 a6_1] 25 (0, 0)) (by (with_reducible repeat (first | refine blk_drewN ?_ _ | refine blk_drew ?_ | refine blk_alloc ?_ _)); exact BK209.out) hb); have n6_ := Aside0.mk (below_step (by repeat (first | (with_reducible first | exact HB.out | apply below_alloc | apply pw_below_drewN | apply below_drew1 | refine below_set ?_ GE208.out | refine below_set ?_ GE209.out) | exact HB.out)) hb); clear HO_16; clear HO_17; clear HO_18; clear HO_20; clear BK208; clear BK209; clear HB; have HO_16 := n0_; have HO_17 := n1_; have HO_18 := n2_; have HO_20 := n3_; have BK208 := n4_; have BK209 := n5_; have HB := n6_; clear n0_ n1_ n2_ n3_ n4_ n5_ n6_; (try clear hb); (try clear hb2); (try clear hk); (try clear hi); obtain ⟨Ao73, co73, eo73⟩ := Kd.R_slice HO_20.out; subst eo73; have p247 : 0 ≤ (x102_3 : Int) := of_decide_eq_true (by first | (with_reducible assumption) | assumption); have q247 : x102_3 < (t241.length : Int) := of_decide_eq_true (by first | (with_reducible assumption) | assumption); obtain ⟨ad247, e247, hx247_0⟩ := Kd.at_int (Kd.R_reads' HO_20.out).2.2 x102_3 p247 q247; cases e247; replace p247 := eq_true p247; replace q247 := eq_true q247; have p248 : 0 ≤ (x102_3 : Int) := of_decide_eq_true (by first | (with_reducible assumption) | assumption); have q248 : x102_3 < (t241.length : Int) := of_decide_eq_true (by first | (with_reducible assumption) | assumption); obtain ⟨ad248, e248, hx248_0⟩ := Kd.at_int (Kd.R_reads' HO_20.out).2.2 x102_3 p248 q248; obtain rfl : ad247 = ad248 := (by injection e248); replace p248 := eq_true p248; replace q248 := eq_true q248; obtain ⟨Ao74, co74, eo74⟩ := Kd.R_slice HO_18.out; subst eo74; have p249 : 0 ≤ (x102_3 : Int) := of_decide_eq_true (by first | (with_reducible assumption) | assumption); have q249 : x102_3 < (t237.length : Int) := of_decide_eq_true (by first | (with_reducible assumption) | assumption); obtain ⟨ad249, e249, hx249_0⟩ := Kd.at_int (Kd.R_reads' HO_18.out).2.2 x102_3 p249 q249; cases e249; replace p249 := eq_true p249; replace q249 := eq_true q249; have p250 : 0 ≤ (x102_3 : Int) := of_decide_eq_true (by first | (with_reducible assumption) | assumption); have q250 : x102_3 < (t237.length : Int) := of_decide_eq_true (by first | (with_reducible assumption) | assumption); obtain ⟨ad250, e250, hx250_0⟩ := Kd.at_int (Kd.R_reads' HO_18.out).2.2 x102_3 p250 q250; obtain rfl : ad249 = ad250 := (by injection e250); replace p250 := eq_true p250; replace q250 := eq_true q250))
                    go_roundg k3
                    case measure => have := HJ12.out; have := HJ46.out; have := HK3.out; omega
                    case rel => exact ⟨(wrap64 (x102_3 + 1)), (by first | rfl | (simp; done) | (simp [*]; done)), H', ⟨by have := HJ12.out; have := HJ46.out; have := HK3.out; omega⟩, ⟨by (with_reducible repeat (first | apply Kd.R_alloc | apply Kd.R_drewN | apply Kd.R_drew)); exact HO_16.out⟩, ⟨by (with_reducible repeat (first | apply Kd.R_alloc | apply Kd.R_drewN | apply Kd.R_drew)); exact HO_17.out⟩, ⟨by (with_reducible repeat (first | apply Kd.R_alloc | apply Kd.R_drewN | apply Kd.R_drew)); exact HO_18.out⟩, ⟨by (with_reducible repeat (first | apply Kd.R_alloc | apply Kd.R_drewN | apply Kd.R_drew)); exact HO_20.out⟩, ⟨by (with_reducible repeat (first | refine blk_drewN ?_ _ | refine blk_drew ?_ | refine blk_alloc ?_ _)); exact BK208.out⟩, ⟨by (with_reducible repeat (first | refine blk_drewN ?_ _ | refine blk_drew ?_ | refine blk_alloc ?_ _)); exact BK209.out⟩, ⟨by repeat (first | (with_reducible first | exact HB.out | apply below_alloc | apply pw_below_drewN | apply below_drew1 | refine below_set ?_ GE208.out | refine below_set ?_ GE209.out) | exact HB.out)⟩⟩
                   ·
                    rw [if_neg c71] at H
                    have c71b0 : ((rd t237 x102_3) == (-1)) = false := beq_eq_false_iff_ne.mpr c71
                    have c71b1 : ((rd t237 x102_3) != (-1)) = true := bne_iff_ne.mpr c71
                    obtain rfl := Option.some.inj H
                    go_wp2_with (first | ((with_reducible refine gate_callee (f := 34) rfl ?_); refine goesL_ (some 110) rfl rfl Try.func34 (by kernel_rfl) rfl #[.slice Ao49 y220.length co49, .slice Ao50 y232.length co50, .int .i64 a2, .int .i64 (l0.length : Int), .int .i64 x102_3] rfl (by (try simp only [List.map_toArray, List.map_cons, List.map_nil]); first | done | rfl | (simp only [List.length_drop, List.length_take]; rfl)) ?_; (with_reducible refine (slotmeshlaw17_heard.calls _ _ y220 _ _ y232 a2 (l0.length : Int) x102_3 true _ ?side1 ?side2 ?side3 ?side4 A65.out).mono ?_); (case side1 => repeat (first | exact (Kd.R_reads' HO_16.out).2.2 | (with_reducible refine Kd.C_alloc ?_ _) | (with_reducible refine Kd.C_drewN ?_ _) | (with_reducible refine Kd.C_drew ?_))); (case side2 => exact (Kd.R_reads' HO_16.out).2.1); (case side3 => repeat (first | exact (Kd.R_reads' HO_17.out).2.2 | (with_reducible refine Kd.C_alloc ?_ _) | (with_reducible refine Kd.C_drewN ?_ _) | (with_reducible refine Kd.C_drew ?_))); (case side4 => exact (Kd.R_reads' HO_17.out).2.1); rintro e w75 ⟨rfl, hb⟩; refine ⟨_, rfl, ?_⟩; have n0_ := Aside0.mk (Kd.R_below (by (with_reducible repeat (first | apply Kd.R_alloc | apply Kd.R_drewN | apply Kd.R_drew)); exact HO_16.out) hb); have n1_ := Aside0.mk (Kd.R_below (by (with_reducible repeat (first | apply Kd.R_alloc | apply Kd.R_drewN | apply Kd.R_drew)); exact HO_17.out) hb); have n2_ := Aside0.mk (Kd.R_below (by (with_reducible repeat (first | apply Kd.R_alloc | apply Kd.R_drewN | apply Kd.R_drew)); exact HO_18.out) hb); have n3_ := Aside0.mk (Kd.R_below (by (with_reducible repeat (first | apply Kd.R_alloc | apply Kd.R_drewN | apply Kd.R_drew)); exact HO_20.out) hb); have n4_ := Aside0.mk (blk_below (g := gb208) (o := .cells #[.int .i64 2, .int .i64 a5_1, .int .i64 a5_2, .int .i64 a5_3, .int .i64 a5_4] 50 (0, 0)) (by (with_reducible repeat (first | refine blk_drewN ?_ _ | refine blk_drew ?_ | refine blk_alloc ?_ _)); exact BK208.out) hb); have n5_ := Aside0.mk (blk_below (g := gb209) (o := .cells #[.int .i64 a6_0, .int .i64 a6_1] 25 (0, 0)) (by (with_reducible repeat (first | refine blk_drewN ?_ _ | refine blk_drew ?_ | refine blk_alloc ?_ _)); exact BK209.out) hb); have n6_ := Aside0.mk (below_step (by repeat (first | (with_reducible first | exact HB.out | apply below_alloc | apply pw_below_drewN | apply below_drew1 | refine below_set ?_ GE208.out | refine below_set ?_ GE209.out) | exact HB.out)) hb); clear HO_16; clear HO_17; clear HO_18; clear HO_20; clear BK208; clear BK209; clear HB; have HO_16 := n0_; have HO_17 := n1_; have HO_18 := n2_; have HO_20 := n3_; have BK208 := n4_; have BK209 := n5_; have HB := n6_; clear n0_ n1_ n2_ n3_ n4_ n5_ n6_; (try clear hb); (try clear hb2); (try clear hk); (try clear hi); obtain ⟨Ao76, co76, eo76⟩ := Kd.R_slice HO_20.out; subst eo76; have p247 : 0 ≤ (x102_3 : Int) := of_decide_eq_true (by first | (with_reducible assumption) | assumption); have q247 : x102_3 < (t241.length : Int) := of_decide_eq_true (by first | (with_reducible assumption) | assumption); obtain ⟨ad247, e247, hx247_0⟩ := Kd.at_int (Kd.R_reads' HO_20.out).2.2 x102_3 p247 q247; cases e247; replace p247 := eq_true p247; replace q247 := eq_true q247; have p248 : 0 ≤ (x102_3 : Int) := of_decide_eq_true (by first | (with_reducible assumption) | assumption); have q248 : x102_3 < (t241.length : Int) := of_decide_eq_true (by first | (with_reducible assumption) | assumption); obtain ⟨ad248, e248, hx248_0⟩ := Kd.at_int (Kd.R_reads' HO_20.out).2.2 x102_3 p248 q248; obtain rfl : ad247 = ad248 := (by injection e248); replace p248 := eq_true p248; replace q248 := eq_true q248; obtain ⟨Ao77, co77, eo77⟩ := Kd.R_slice HO_18.out; subst eo77; have p249 : 0 ≤ (x102_3 : Int) := of_decide_eq_true (by first | (with_reducible assumption) | assumption); have q249 : x102_3 < (t237.length : Int) := of_decide_eq_true (by first | (with_reducible assumption) | assumption); obtain ⟨ad249, e249, hx249_0⟩ := Kd.at_int (Kd.R_reads' HO_18.out).2.2 x102_3 p249 q249; cases e249; replace p249 := eq_true p249; replace q249 := eq_true q249))
                    go_ret
                    exact ⟨by first | rfl | (simp [errW_none, errW_some] <;> rfl) | (simp [*, errW_none, errW_some] <;> rfl), by repeat (first | (with_reducible first | exact HB.out | apply below_alloc | apply pw_below_drewN | apply below_drew1 | refine below_set ?_ GE208.out | refine below_set ?_ GE209.out) | exact HB.out)⟩
                  ·
                   rw [if_neg c70] at H
                   exact absurd H (by simp)
                 ·
                  rw [if_neg c69] at H
                  have c69b0 : ((rd t241 x102_3) == (l0.length : Int)) = false := beq_eq_false_iff_ne.mpr c69
                  have c69b1 : ((rd t241 x102_3) != (l0.length : Int)) = true := bne_iff_ne.mpr c69
                  by_cases c78 : (rd t241 x102_3) = (-1)
                  ·
                   rw [if_pos c78] at H
                   have c78b0 : ((rd t241 x102_3) == (-1)) = true := beq_iff_eq.mpr c78
                   have c78b1 : ((rd t241 x102_3) != (-1)) = false := bne_eq_false_iff_eq.mpr c78
                   clear c78
                   by_cases c79 : x102_3 < (t237.length : Int)
                   ·
                    rw [if_pos c79] at H
                    have c79b0 : decide (x102_3 < (t237.length : Int)) = true := decide_eq_true c79
                    clear c79
                    by_cases c80 : (rd t237 x102_3) = (-1)
                    ·
                     rw [if_pos c80] at H
                     have c80b0 : ((rd t237 x102_3) == (-1)) = true := beq_iff_eq.mpr c80
                     have c80b1 : ((rd t237 x102_3) != (-1)) = false := bne_eq_false_iff_eq.mpr c80
                     clear c80
                     have H' := Aside0.mk H
                     clear H
                     go_wp2_with (first | ((with_reducible refine gate_callee (f := 34) rfl ?_); refine goesL_ (some 110) rfl rfl Try.func34 (by kernel_rfl) rfl #[.slice Ao49 y220.length co49, .slice Ao50 y232.length co50, .int .i64 a2, .int .i64 (l0.length : Int), .int .i64 x102_3] rfl (by (try simp only [List.map_toArray, List.map_cons, List.map_nil]); first | done | rfl | (simp only [List.length_drop, List.length_take]; rfl)) ?_; (with_reducible refine (slotmeshlaw17_heard.calls _ _ y220 _ _ y232 a2 (l0.length : Int) x102_3 true _ ?side1 ?side2 ?side3 ?side4 A65.out).mono ?_); (case side1 => repeat (first | exact (Kd.R_reads' HO_16.out).2.2 | (with_reducible refine Kd.C_alloc ?_ _) | (with_reducible refine Kd.C_drewN ?_ _) | (with_reducible refine Kd.C_drew ?_))); (case side2 => exact (Kd.R_reads' HO_16.out).2.1); (case side3 => repeat (first | exact (Kd.R_reads' HO_17.out).2.2 | (with_reducible refine Kd.C_alloc ?_ _) | (with_reducible refine Kd.C_drewN ?_ _) | (with_reducible refine Kd.C_drew ?_))); (case side4 => exact (Kd.R_reads' HO_17.out).2.1); rintro e w81 ⟨rfl, hb⟩; refine ⟨_, rfl, ?_⟩; have n0_ := Aside0.mk (Kd.R_below (by (with_reducible repeat (first | apply Kd.R_alloc | apply Kd.R_drewN | apply Kd.R_drew)); exact HO_16.out) hb); have n1_ := Aside0.mk (Kd.R_below (by (with_reducible repeat (first | apply Kd.R_alloc | apply Kd.R_drewN | apply Kd.R_drew)); exact HO_17.out) hb); have n2_ := Aside0.mk (Kd.R_below (by (with_reducible repeat (first | apply Kd.R_alloc | apply Kd.R_drewN | apply Kd.R_drew)); exact HO_18.out) hb); have n3_ := Aside0.mk (Kd.R_below (by (with_reducible repeat (first | apply Kd.R_alloc | apply Kd.R_drewN | apply Kd.R_drew)); exact HO_20.out) hb); have n4_ := Aside0.mk (blk_below (g := gb208) (o := .cells #[.int .i64 2, .int .i64 a5_1, .int .i64 a5_2, .int .i64 a5_3, .int .i64 a5_4] 50 (0, 0)) (by (with_reducible repeat (first | refine blk_drewN ?_ _ | refine blk_drew ?_ | refine blk_alloc ?_ _)); exact BK208.out) hb); have n5_ := Aside0.mk (blk_below (g := gb209) (o := .cells #[.int .i64 a6_0, .int .i64 a6_1] 25 (0, 0)) (by (with_reducible repeat (first | refine blk_drewN ?_ _ | refine blk_drew ?_ | refine blk_alloc ?_ _)); exact BK209.out) hb); have n6_ := Aside0.mk (below_step (by repeat (first | (with_reducible first | exact HB.out | apply below_alloc | apply pw_below_drewN | apply below_drew1 | refine below_set ?_ GE208.out | refine below_set ?_ GE209.out) | exact HB.out)) hb); clear HO_16; clear HO_17; clear HO_18; clear HO_20; clear BK208; clear BK209; clear HB; have HO_16 := n0_; have HO_17 := n1_; have HO_18 := n2_; have HO_20 := n3_; have BK208 := n4_; have BK209 := n5_; have HB := n6_; clear n0_ n1_ n2_ n3_ n4_ n5_ n6_; (try clear hb); (try clear hb2); (try clear hk); (try clear hi); obtain ⟨Ao82, co82, eo82⟩ := Kd.R_slice HO_20.out; subst eo82; have p247 : 0 ≤ (x102_3 : Int) := of_decide_eq_true (by first | (with_reducible assumption) | assumption); have q247 : x102_3 < (t241.length : Int) := of_decide_eq_true (by first | (with_reducible assumption) | assumption); obtain ⟨ad247, e247, hx247_0⟩ := Kd.at_int (Kd.R_reads' HO_20.out).2.2 x102_3 p247 q247; cases e247; replace p247 := eq_true p247; replace q247 := eq_true q247; have p251 : 0 ≤ (x102_3 : Int) := of_decide_eq_true (by first | (with_reducible assumption) | assumption); have q251 : x102_3 < (t241.length : Int) := of_decide_eq_true (by first | (with_reducible assumption) | assumption); obtain ⟨ad251, e251, hx251_0⟩ := Kd.at_int (Kd.R_reads' HO_20.out).2.2 x102_3 p251 q251; obtain rfl : ad247 = ad251 := (by injection e251); replace p251 := eq_true p251; replace q251 := eq_true q251; have p252 : 0 ≤ (x102_3 : Int) := of_decide_eq_true (by first | (with_reducible assumption) | assumption); have q252 : x102_3 < (t241.length : Int) := of_decide_eq_true (by first | (with_reducible assumption) | assumption); obtain ⟨ad252, e252, hx252_0⟩ := Kd.at_int (Kd.R_reads' HO_20.out).2.2 x102_3 p252 q252; obtain rfl : ad247 = ad252 := (by injection e252); replace p252 := eq_true p252; replace q252 := eq_true q252; obtain ⟨Ao83, co83, eo83⟩ := Kd.R_slice HO_18.out; subst eo83; have p253 : 0 ≤ (x102_3 : Int) := of_decide_eq_true (by first | (with_reducible assumption) | assumption); have q253 : x102_3 < (t237.length : Int) := of_decide_eq_true (by first | (with_reducible assumption) | assumption); obtain ⟨ad253, e253, hx253_0⟩ := Kd.at_int (Kd.R_reads' HO_18.out).2.2 x102_3 p253 q253; cases e253; replace p253 := eq_true p253; replace q253 := eq_true q253))
                     go_roundg k3
                     case measure => have := HJ12.out; have := HJ46.out; have := HK3.out; omega
                     case rel => exact ⟨(wrap64 (x102_3 + 1)), (by first | rfl | (simp; done) | (simp [*]; done)), H', ⟨by have := HJ12.out; have := HJ46.out; have := HK3.out; omega⟩, ⟨by (with_reducible repeat (first | apply Kd.R_alloc | apply Kd.R_drewN | apply Kd.R_drew)); exact HO_16.out⟩, ⟨by (with_reducible repeat (first | apply Kd.R_alloc | apply Kd.R_drewN | apply Kd.R_drew)); exact HO_17.out⟩, ⟨by (with_reducible repeat (first | apply Kd.R_alloc | apply Kd.R_drewN | apply Kd.R_drew)); exact HO_18.out⟩, ⟨by (with_reducible repeat (first | apply Kd.R_alloc | apply Kd.R_drewN | apply Kd.R_drew)); exact HO_20.out⟩, ⟨by (with_reducible repeat (first | refine blk_drewN ?_ _ | refine blk_drew ?_ | refine blk_alloc ?_ _)); exact BK208.out⟩, ⟨by (with_reducible repeat (first | refine blk_drewN ?_ _ | refine blk_drew ?_ | refine blk_alloc ?_ _)); exact BK209.out⟩, ⟨by repeat (first | (with_reducible first | exact HB.out | apply below_alloc | apply pw_below_drewN | apply below_drew1 | refine below_set ?_ GE208.out | refine below_set ?_ GE209.out) | exact HB.out)⟩⟩
                    ·
                     rw [if_neg c80] at H
                     have c80b0 : ((rd t237 x102_3) == (-1)) = false := beq_eq_false_iff_ne.mpr c80
                     have c80b1 : ((rd t237 x102_3) != (-1)) = true := bne_iff_ne.mpr c80
                     by_cases c84 : (rd t241 x102_3) = (-2)
                     ·
                      rw [if_pos c84] at H
                      have c84b0 : ((rd t241 x102_3) == (-2)) = true := beq_iff_eq.mpr c84
                      have c84b1 : ((rd t241 x102_3) != (-2)) = false := bne_eq_false_iff_eq.mpr c84
                      clear c84
                      have H' := Aside0.mk H
                      clear H
                      go_wp2_with (first | ((with_reducible refine gate_callee (f := 34) rfl ?_); refine goesL_ (some 110) rfl rfl Try.func34 (by kernel_rfl) rfl #[.slice Ao49 y220.length co49, .slice Ao50 y232.length co50, .int .i64 a2, .int .i64 (l0.length : Int), .int .i64 x102_3] rfl (by (try simp only [List.map_toArray, List.map_cons, List.map_nil]); first | done | rfl | (simp only [List.length_drop, List.length_take]; rfl)) ?_; (with_reducible refine (slotmeshlaw17_heard.calls _ _ y220 _ _ y232 a2 (l0.length : Int) x102_3 true _ ?side1 ?side2 ?side3 ?side4 A65.out).mono ?_); (case side1 => repeat (first | exact (Kd.R_reads' HO_16.out).2.2 | (with_reducible refine Kd.C_alloc ?_ _) | (with_reducible refine Kd.C_drewN ?_ _) | (with_reducible refine Kd.C_drew ?_))); (case side2 => exact (Kd.R_reads' HO_16.out).2.1); (case side3 => repeat (first | exact (Kd.R_reads' HO_17.out).2.2 | (with_reducible refine Kd.C_alloc ?_ _) | (with_reducible refine Kd.C_drewN ?_ _) | (with_reducible refine Kd.C_drew ?_))); (case side4 => exact (Kd.R_reads' HO_17.out).2.1); rintro e w85 ⟨rfl, hb⟩; refine ⟨_, rfl, ?_⟩; have n0_ := Aside0.mk (Kd.R_below (by (with_reducible repeat (first | apply Kd.R_alloc | apply Kd.R_drewN | apply Kd.R_drew)); exact HO_16.out) hb); have n1_ := Aside0.mk (Kd.R_below (by (with_reducible repeat (first | apply Kd.R_alloc | apply Kd.R_drewN | apply Kd.R_drew)); exact HO_17.out) hb); have n2_ := Aside0.mk (Kd.R_below (by (with_reducible repeat (first | apply Kd.R_alloc | apply Kd.R_drewN | apply Kd.R_drew)); exact HO_18.out) hb); have n3_ := Aside0.mk (Kd.R_below (by (with_reducible repeat (first | apply Kd.R_alloc | apply Kd.R_drewN | apply Kd.R_drew)); exact HO_20.out) hb); have n4_ := Aside0.mk (blk_below (g := gb208) (o := .cells #[.int .i64 2, .int .i64 a5_1, .int .i64 a5_2, .int .i64 a5_3, .int .i64 a5_4] 50 (0, 0)) (by (with_reducible repeat (first | refine blk_drewN ?_ _ | refine blk_drew ?_ | refine blk_alloc ?_ _)); exact BK208.out) hb); have n5_ := Aside0.mk (blk_below (g := gb209) (o := .cells #[.int .i64 a6_0, .int .i64 a6_1] 25 (0, 0)) (by (with_reducible repeat (first | refine blk_drewN ?_ _ | refine blk_drew ?_ | refine blk_alloc ?_ _)); exact BK209.out) hb); have n6_ := Aside0.mk (below_step (by repeat (first | (with_reducible first | exact HB.out | apply below_alloc | apply pw_below_drewN | apply below_drew1 | refine below_set ?_ GE208.out | refine below_set ?_ GE209.out) | exact HB.out)) hb); clear HO_16; clear HO_17; clear HO_18; clear HO_20; clear BK208; clear BK209; clear HB; have HO_16 := n0_; have HO_17 := n1_; have HO_18 := n2_; have HO_20 := n3_; have BK208 := n4_; have BK209 := n5_; have HB := n6_; clear n0_ n1_ n2_ n3_ n4_ n5_ n6_; (try clear hb); (try clear hb2); (try clear hk); (try clear hi); obtain ⟨Ao86, co86, eo86⟩ := Kd.R_slice HO_20.out; subst eo86; have p247 : 0 ≤ (x102_3 : Int) := of_decide_eq_true (by first | (with_reducible assumption) | assumption); have q247 : x102_3 < (t241.length : Int) := of_decide_eq_true (by first | (with_reducible assumption) | assumption); obtain ⟨ad247, e247, hx247_0⟩ := Kd.at_int (Kd.R_reads' HO_20.out).2.2 x102_3 p247 q247; cases e247; replace p247 := eq_true p247; replace q247 := eq_true q247; have p251 : 0 ≤ (x102_3 : Int) := of_decide_eq_true (by first | (with_reducible assumption) | assumption); have q251 : x102_3 < (t241.length : Int) := of_decide_eq_true (by first | (with_reducible assumption) | assumption); obtain ⟨ad251, e251, hx251_0⟩ := Kd.at_int (Kd.R_reads' HO_20.out).2.2 x102_3 p251 q251; obtain rfl : ad247 = ad251 := (by injection e251); replace p251 := eq_true p251; replace q251 := eq_true q251; have p252 : 0 ≤ (x102_3 : Int) := of_decide_eq_true (by first | (with_reducible assumption) | assumption); have q252 : x102_3 < (t241.length : Int) := of_decide_eq_true (by first | (with_reducible assumption) | assumption); obtain ⟨ad252, e252, hx252_0⟩ := Kd.at_int (Kd.R_reads' HO_20.out).2.2 x102_3 p252 q252; obtain rfl : ad247 = ad252 := (by injection e252); replace p252 := eq_true p252; replace q252 := eq_true q252; obtain ⟨Ao87, co87, eo87⟩ := Kd.R_slice HO_18.out; subst eo87; have p253 : 0 ≤ (x102_3 : Int) := of_decide_eq_true (by first | (with_reducible assumption) | assumption); have q253 : x102_3 < (t237.length : Int) := of_decide_eq_true (by first | (with_reducible assumption) | assumption); obtain ⟨ad253, e253, hx253_0⟩ := Kd.at_int (Kd.R_reads' HO_18.out).2.2 x102_3 p253 q253; cases e253; replace p253 := eq_true p253; replace q253 := eq_true q253; have p254 : 0 ≤ (x102_3 : Int) := of_decide_eq_true (by first | (with_reducible assumption) | assumption); have q254 : x102_3 < (t241.length : Int) := of_decide_eq_true (by first | (with_reducible assumption) | assumption); obtain ⟨ad254, e254, hx254_0⟩ := Kd.at_int (Kd.R_reads' HO_20.out).2.2 x102_3 p254 q254; obtain rfl : ad247 = ad254 := (by injection e254); replace p254 := eq_true p254; replace q254 := eq_true q254))
                      go_roundg k3
                      case measure => have := HJ12.out; have := HJ46.out; have := HK3.out; omega
                      case rel => exact ⟨(wrap64 (x102_3 + 1)), (by first | rfl | (simp; done) | (simp [*]; done)), H', ⟨by have := HJ12.out; have := HJ46.out; have := HK3.out; omega⟩, ⟨by (with_reducible repeat (first | apply Kd.R_alloc | apply Kd.R_drewN | apply Kd.R_drew)); exact HO_16.out⟩, ⟨by (with_reducible repeat (first | apply Kd.R_alloc | apply Kd.R_drewN | apply Kd.R_drew)); exact HO_17.out⟩, ⟨by (with_reducible repeat (first | apply Kd.R_alloc | apply Kd.R_drewN | apply Kd.R_drew)); exact HO_18.out⟩, ⟨by (with_reducible repeat (first | apply Kd.R_alloc | apply Kd.R_drewN | apply Kd.R_drew)); exact HO_20.out⟩, ⟨by (with_reducible repeat (first | refine blk_drewN ?_ _ | refine blk_drew ?_ | refine blk_alloc ?_ _)); exact BK208.out⟩, ⟨by (with_reducible repeat (first | refine blk_drewN ?_ _ | refine blk_drew ?_ | refine blk_alloc ?_ _)); exact BK209.out⟩, ⟨by repeat (first | (with_reducible first | exact HB.out | apply below_alloc | apply pw_below_drewN | apply below_drew1 | refine below_set ?_ GE208.out | refine below_set ?_ GE209.out) | exact HB.out)⟩⟩
                     ·
                      rw [if_neg c84] at H
                      have c84b0 : ((rd t241 x102_3) == (-2)) = false := beq_eq_false_iff_ne.mpr c84
                      have c84b1 : ((rd t241 x102_3) != (-2)) = true := bne_iff_ne.mpr c84
                      obtain rfl := Option.some.inj H
                      go_wp2_with (first | ((with_reducible refine gate_callee (f := 34) rfl ?_); refine goesL_ (some 110) rfl rfl Try.func34 (by kernel_rfl) rfl #[.slice Ao49 y220.length co49, .slice Ao50 y232.length co50, .int .i64 a2, .int .i64 (l0.length : Int), .int .i64 x102_3] rfl (by (try simp only [List.map_toArray, List.map_cons, List.map_nil]); first | done | rfl | (simp only [List.length_drop, List.length_take]; rfl)) ?_; (with_reducible refine (slotmeshlaw17_heard.calls _ _ y220 _ _ y232 a2 (l0.length : Int) x102_3 true _ ?side1 ?side2 ?side3 ?side4 A65.out).mono ?_); (case side1 => repeat (first | exact (Kd.R_reads' HO_16.out).2.2 | (with_reducible refine Kd.C_alloc ?_ _) | (with_reducible refine Kd.C_drewN ?_ _) | (with_reducible refine Kd.C_drew ?_))); (case side2 => exact (Kd.R_reads' HO_16.out).2.1); (case side3 => repeat (first | exact (Kd.R_reads' HO_17.out).2.2 | (with_reducible refine Kd.C_alloc ?_ _) | (with_reducible refine Kd.C_drewN ?_ _) | (with_reducible refine Kd.C_drew ?_))); (case side4 => exact (Kd.R_reads' HO_17.out).2.1); rintro e w88 ⟨rfl, hb⟩; refine ⟨_, rfl, ?_⟩; have n0_ := Aside0.mk (Kd.R_below (by (with_reducible repeat (first | apply Kd.R_alloc | apply Kd.R_drewN | apply Kd.R_drew)); exact HO_16.out) hb); have n1_ := Aside0.mk (Kd.R_below (by (with_reducible repeat (first | apply Kd.R_alloc | apply Kd.R_drewN | apply Kd.R_drew)); exact HO_17.out) hb); have n2_ := Aside0.mk (Kd.R_below (by (with_reducible repeat (first | apply Kd.R_alloc | apply Kd.R_drewN | apply Kd.R_drew)); exact HO_18.out) hb); have n3_ := Aside0.mk (Kd.R_below (by (with_reducible repeat (first | apply Kd.R_alloc | apply Kd.R_drewN | apply Kd.R_drew)); exact HO_20.out) hb); have n4_ := Aside0.mk (blk_below (g := gb208) (o := .cells #[.int .i64 2, .int .i64 a5_1, .int .i64 a5_2, .int .i64 a5_3, .int .i64 a5_4] 50 (0, 0)) (by (with_reducible repeat (first | refine blk_drewN ?_ _ | refine blk_drew ?_ | refine blk_alloc ?_ _)); exact BK208.out) hb); have n5_ := Aside0.mk (blk_below (g := gb209) (o := .cells #[.int .i64 a6_0, .int .i64 a6_1] 25 (0, 0)) (by (with_reducible repeat (first | refine blk_drewN ?_ _ | refine blk_drew ?_ | refine blk_alloc ?_ _)); exact BK209.out) hb); have n6_ := Aside0.mk (below_step (by repeat (first | (with_reducible first | exact HB.out | apply below_alloc | apply pw_below_drewN | apply below_drew1 | refine below_set ?_ GE208.out | refine below_set ?_ GE209.out) | exact HB.out)) hb); clear HO_16; clear HO_17; clear HO_18; clear HO_20; clear BK208; clear BK209; clear HB; have HO_16 := n0_; have HO_17 := n1_; have HO_18 := n2_; have HO_20 := n3_; have BK208 := n4_; have BK209 := n5_; have HB := n6_; clear n0_ n1_ n2_ n3_ n4_ n5_ n6_; (try clear hb); (try clear hb2); (try clear hk); (try clear hi); obtain ⟨Ao89, co89, eo89⟩ := Kd.R_slice HO_20.out; subst eo89; have p247 : 0 ≤ (x102_3 : Int) := of_decide_eq_true (by first | (with_reducible assumption) | assumption); have q247 : x102_3 < (t241.length : Int) := of_decide_eq_true (by first | (with_reducible assumption) | assumption); obtain ⟨ad247, e247, hx247_0⟩ := Kd.at_int (Kd.R_reads' HO_20.out).2.2 x102_3 p247 q247; cases e247; replace p247 := eq_true p247; replace q247 := eq_true q247; have p251 : 0 ≤ (x102_3 : Int) := of_decide_eq_true (by first | (with_reducible assumption) | assumption); have q251 : x102_3 < (t241.length : Int) := of_decide_eq_true (by first | (with_reducible assumption) | assumption); obtain ⟨ad251, e251, hx251_0⟩ := Kd.at_int (Kd.R_reads' HO_20.out).2.2 x102_3 p251 q251; obtain rfl : ad247 = ad251 := (by injection e251); replace p251 := eq_true p251; replace q251 := eq_true q251; have p252 : 0 ≤ (x102_3 : Int) := of_decide_eq_true (by first | (with_reducible assumption) | assumption); have q252 : x102_3 < (t241.length : Int) := of_decide_eq_true (by first | (with_reducible assumption) | assumption); obtain ⟨ad252, e252, hx252_0⟩ := Kd.at_int (Kd.R_reads' HO_20.out).2.2 x102_3 p252 q252; obtain rfl : ad247 = ad252 := (by injection e252); replace p252 := eq_true p252; replace q252 := eq_true q252; obtain ⟨Ao90, co90, eo90⟩ := Kd.R_slice HO_18.out; subst eo90; have p253 : 0 ≤ (x102_3 : Int) := of_decide_eq_true (by first | (with_reducible assumption) | assumption); have q253 : x102_3 < (t237.length : Int) := of_decide_eq_true (by first | (with_reducible assumption) | assumption); obtain ⟨ad253, e253, hx253_0⟩ := Kd.at_int (Kd.R_reads' HO_18.out).2.2 x102_3 p253 q253; cases e253; replace p253 := eq_true p253; replace q253 := eq_true q253; have p254 : 0 ≤ (x102_3 : Int) := of_decide_eq_true (by first | (with_reducible assumption) | assumption); have q254 : x102_3 < (t241.length : Int) := of_decide_eq_true (by first | (with_reducible assumption) | assumption); obtain ⟨ad254, e254, hx254_0⟩ := Kd.at_int (Kd.R_reads' HO_20.out).2.2 x102_3 p254 q254; obtain rfl : ad247 = ad254 := (by injection e254); replace p254 := eq_true p254; replace q254 := eq_true q254))
                      go_ret
                      exact ⟨by first | rfl | (simp [errW_none, errW_some] <;> rfl) | (simp [*, errW_none, errW_some] <;> rfl), by repeat (first | (with_reducible first | exact HB.out | apply below_alloc | apply pw_below_drewN | apply below_drew1 | refine below_set ?_ GE208.out | refine below_set ?_ GE209.out) | exact HB.out)⟩
                   ·
                    rw [if_neg c79] at H
                    exact absurd H (by simp)
                  ·
                   rw [if_neg c78] at H
                   have c78b0 : ((rd t241 x102_3) == (-1)) = false := beq_eq_false_iff_ne.mpr c78
                   have c78b1 : ((rd t241 x102_3) != (-1)) = true := bne_iff_ne.mpr c78
                   by_cases c91 : (rd t241 x102_3) = (-2)
                   ·
                    rw [if_pos c91] at H
                    have c91b0 : ((rd t241 x102_3) == (-2)) = true := beq_iff_eq.mpr c91
                    have c91b1 : ((rd t241 x102_3) != (-2)) = false := bne_eq_false_iff_eq.mpr c91
                    clear c91
                    by_cases c92 : x102_3 < (t237.length : Int)
                    ·
                     rw [if_pos c92] at H
                     have c92b0 : decide (x102_3 < (t237.length : Int)) = true := decide_eq_true c92
                     clear c92
                     by_cases c93 : (rd t237 x102_3) = (-1)
                     ·
                      rw [if_pos c93] at H
                      have c93b0 : ((rd t237 x102_3) == (-1)) = true := beq_iff_eq.mpr c93
                      have c93b1 : ((rd t237 x102_3) != (-1)) = false := bne_eq_false_iff_eq.mpr c93
                      clear c93
                      have H' := Aside0.mk H
                      clear H
                      go_wp2_with (first | ((with_reducible refine gate_callee (f := 34) rfl ?_); refine goesL_ (some 110) rfl rfl Try.func34 (by kernel_rfl) rfl #[.slice Ao49 y220.length co49, .slice Ao50 y232.length co50, .int .i64 a2, .int .i64 (l0.length : Int), .int .i64 x102_3] rfl (by (try simp only [List.map_toArray, List.map_cons, List.map_nil]); first | done | rfl | (simp only [List.length_drop, List.length_take]; rfl)) ?_; (with_reducible refine (slotmeshlaw17_heard.calls _ _ y220 _ _ y232 a2 (l0.length : Int) x102_3 true _ ?side1 ?side2 ?side3 ?side4 A65.out).mono ?_); (case side1 => repeat (first | exact (Kd.R_reads' HO_16.out).2.2 | (with_reducible refine Kd.C_alloc ?_ _) | (with_reducible refine Kd.C_drewN ?_ _) | (with_reducible refine Kd.C_drew ?_))); (case side2 => exact (Kd.R_reads' HO_16.out).2.1); (case side3 => repeat (first | exact (Kd.R_reads' HO_17.out).2.2 | (with_reducible refine Kd.C_alloc ?_ _) | (with_reducible refine Kd.C_drewN ?_ _) | (with_reducible refine Kd.C_drew ?_))); (case side4 => exact (Kd.R_reads' HO_17.out).2.1); rintro e w94 ⟨rfl, hb⟩; refine ⟨_, rfl, ?_⟩; have n0_ := Aside0.mk (Kd.R_below (by (with_reducible repeat (first | apply Kd.R_alloc | apply Kd.R_drewN | apply Kd.R_drew)); exact HO_16.out) hb); have n1_ := Aside0.mk (Kd.R_below (by (with_reducible repeat (first | apply Kd.R_alloc | apply Kd.R_drewN | apply Kd.R_drew)); exact HO_17.out) hb); have n2_ := Aside0.mk (Kd.R_below (by (with_reducible repeat (first | apply Kd.R_alloc | apply Kd.R_drewN | apply Kd.R_drew)); exact HO_18.out) hb); have n3_ := Aside0.mk (Kd.R_below (by (with_reducible repeat (first | apply Kd.R_alloc | apply Kd.R_drewN | apply Kd.R_drew)); exact HO_20.out) hb); have n4_ := Aside0.mk (blk_below (g := gb208) (o := .cells #[.int .i64 2, .int .i64 a5_1, .int .i64 a5_2, .int .i64 a5_3, .int .i64 a5_4] 50 (0, 0)) (by (with_reducible repeat (first | refine blk_drewN ?_ _ | refine blk_drew ?_ | refine blk_alloc ?_ _)); exact BK208.out) hb); have n5_ := Aside0.mk (blk_below (g := gb209) (o := .cells #[.int .i64 a6_0, .int .i64 a6_1] 25 (0, 0)) (by (with_reducible repeat (first | refine blk_drewN ?_ _ | refine blk_drew ?_ | refine blk_alloc ?_ _)); exact BK209.out) hb); have n6_ := Aside0.mk (below_step (by repeat (first | (with_reducible first | exact HB.out | apply below_alloc | apply pw_below_drewN | apply below_drew1 | refine below_set ?_ GE208.out | refine below_set ?_ GE209.out) | exact HB.out)) hb); clear HO_16; clear HO_17; clear HO_18; clear HO_20; clear BK208; clear BK209; clear HB; have HO_16 := n0_; have HO_17 := n1_; have HO_18 := n2_; have HO_20 := n3_; have BK208 := n4_; have BK209 := n5_; have HB := n6_; clear n0_ n1_ n2_ n3_ n4_ n5_ n6_; (try clear hb); (try clear hb2); (try clear hk); (try clear hi); obtain ⟨Ao95, co95, eo95⟩ := Kd.R_slice HO_20.out; subst eo95; have p247 : 0 ≤ (x102_3 : Int) := of_decide_eq_true (by first | (with_reducible assumption) | assumption); have q247 : x102_3 < (t241.length : Int) := of_decide_eq_true (by first | (with_reducible assumption) | assumption); obtain ⟨ad247, e247, hx247_0⟩ := Kd.at_int (Kd.R_reads' HO_20.out).2.2 x102_3 p247 q247; cases e247; replace p247 := eq_true p247; replace q247 := eq_true q247; have p251 : 0 ≤ (x102_3 : Int) := of_decide_eq_true (by first | (with_reducible assumption) | assumption); have q251 : x102_3 < (t241.length : Int) := of_decide_eq_true (by first | (with_reducible assumption) | assumption); obtain ⟨ad251, e251, hx251_0⟩ := Kd.at_int (Kd.R_reads' HO_20.out).2.2 x102_3 p251 q251; obtain rfl : ad247 = ad251 := (by injection e251); replace p251 := eq_true p251; replace q251 := eq_true q251; have p255 : 0 ≤ (x102_3 : Int) := of_decide_eq_true (by first | (with_reducible assumption) | assumption); have q255 : x102_3 < (t241.length : Int) := of_decide_eq_true (by first | (with_reducible assumption) | assumption); obtain ⟨ad255, e255, hx255_0⟩ := Kd.at_int (Kd.R_reads' HO_20.out).2.2 x102_3 p255 q255; obtain rfl : ad247 = ad255 := (by injection e255); replace p255 := eq_true p255; replace q255 := eq_true q255; have p256 : 0 ≤ (x102_3 : Int) := of_decide_eq_true (by first | (with_reducible assumption) | assumption); have q256 : x102_3 < (t241.length : Int) := of_decide_eq_true (by first | (with_reducible assumption) | assumption); obtain ⟨ad256, e256, hx256_0⟩ := Kd.at_int (Kd.R_reads' HO_20.out).2.2 x102_3 p256 q256; obtain rfl : ad247 = ad256 := (by injection e256); replace p256 := eq_true p256; replace q256 := eq_true q256; obtain ⟨Ao96, co96, eo96⟩ := Kd.R_slice HO_18.out; subst eo96; have p257 : 0 ≤ (x102_3 : Int) := of_decide_eq_true (by first | (with_reducible assumption) | assumption); have q257 : x102_3 < (t237.length : Int) := of_decide_eq_true (by first | (with_reducible assumption) | assumption); obtain ⟨ad257, e257, hx257_0⟩ := Kd.at_int (Kd.R_reads' HO_18.out).2.2 x102_3 p257 q257; cases e257; replace p257 := eq_true p257; replace q257 := eq_true q257))
                      go_roundg k3
                      case measure => have := HJ12.out; have := HJ46.out; have := HK3.out; omega
                      case rel => exact ⟨(wrap64 (x102_3 + 1)), (by first | rfl | (simp; done) | (simp [*]; done)), H', ⟨by have := HJ12.out; have := HJ46.out; have := HK3.out; omega⟩, ⟨by (with_reducible repeat (first | apply Kd.R_alloc | apply Kd.R_drewN | apply Kd.R_drew)); exact HO_16.out⟩, ⟨by (with_reducible repeat (first | apply Kd.R_alloc | apply Kd.R_drewN | apply Kd.R_drew)); exact HO_17.out⟩, ⟨by (with_reducible repeat (first | apply Kd.R_alloc | apply Kd.R_drewN | apply Kd.R_drew)); exact HO_18.out⟩, ⟨by (with_reducible repeat (first | apply Kd.R_alloc | apply Kd.R_drewN | apply Kd.R_drew)); exact HO_20.out⟩, ⟨by (with_reducible repeat (first | refine blk_drewN ?_ _ | refine blk_drew ?_ | refine blk_alloc ?_ _)); exact BK208.out⟩, ⟨by (with_reducible repeat (first | refine blk_drewN ?_ _ | refine blk_drew ?_ | refine blk_alloc ?_ _)); exact BK209.out⟩, ⟨by repeat (first | (with_reducible first | exact HB.out | apply below_alloc | apply pw_below_drewN | apply below_drew1 | refine below_set ?_ GE208.out | refine below_set ?_ GE209.out) | exact HB.out)⟩⟩
                     ·
                      rw [if_neg c93] at H
                      have c93b0 : ((rd t237 x102_3) == (-1)) = false := beq_eq_false_iff_ne.mpr c93
                      have c93b1 : ((rd t237 x102_3) != (-1)) = true := bne_iff_ne.mpr c93
                      have H' := Aside0.mk H
                      clear H
                      go_wp2_with (first | ((with_reducible refine gate_callee (f := 34) rfl ?_); refine goesL_ (some 110) rfl rfl Try.func34 (by kernel_rfl) rfl #[.slice Ao49 y220.length co49, .slice Ao50 y232.length co50, .int .i64 a2, .int .i64 (l0.length : Int), .int .i64 x102_3] rfl (by (try simp only [List.map_toArray, List.map_cons, List.map_nil]); first | done | rfl | (simp only [List.length_drop, List.length_take]; rfl)) ?_; (with_reducible refine (slotmeshlaw17_heard.calls _ _ y220 _ _ y232 a2 (l0.length : Int) x102_3 true _ ?side1 ?side2 ?side3 ?side4 A65.out).mono ?_); (case side1 => repeat (first | exact (Kd.R_reads' HO_16.out).2.2 | (with_reducible refine Kd.C_alloc ?_ _) | (with_reducible refine Kd.C_drewN ?_ _) | (with_reducible refine Kd.C_drew ?_))); (case side2 => exact (Kd.R_reads' HO_16.out).2.1); (case side3 => repeat (first | exact (Kd.R_reads' HO_17.out).2.2 | (with_reducible refine Kd.C_alloc ?_ _) | (with_reducible refine Kd.C_drewN ?_ _) | (with_reducible refine Kd.C_drew ?_))); (case side4 => exact (Kd.R_reads' HO_17.out).2.1); rintro e w97 ⟨rfl, hb⟩; refine ⟨_, rfl, ?_⟩; have n0_ := Aside0.mk (Kd.R_below (by (with_reducible repeat (first | apply Kd.R_alloc | apply Kd.R_drewN | apply Kd.R_drew)); exact HO_16.out) hb); have n1_ := Aside0.mk (Kd.R_below (by (with_reducible repeat (first | apply Kd.R_alloc | apply Kd.R_drewN | apply Kd.R_drew)); exact HO_17.out) hb); have n2_ := Aside0.mk (Kd.R_below (by (with_reducible repeat (first | apply Kd.R_alloc | apply Kd.R_drewN | apply Kd.R_drew)); exact HO_18.out) hb); have n3_ := Aside0.mk (Kd.R_below (by (with_reducible repeat (first | apply Kd.R_alloc | apply Kd.R_drewN | apply Kd.R_drew)); exact HO_20.out) hb); have n4_ := Aside0.mk (blk_below (g := gb208) (o := .cells #[.int .i64 2, .int .i64 a5_1, .int .i64 a5_2, .int .i64 a5_3, .int .i64 a5_4] 50 (0, 0)) (by (with_reducible repeat (first | refine blk_drewN ?_ _ | refine blk_drew ?_ | refine blk_alloc ?_ _)); exact BK208.out) hb); have n5_ := Aside0.mk (blk_below (g := gb209) (o := .cells #[.int .i64 a6_0, .int .i64 a6_1] 25 (0, 0)) (by (with_reducible repeat (first | refine blk_drewN ?_ _ | refine blk_drew ?_ | refine blk_alloc ?_ _)); exact BK209.out) hb); have n6_ := Aside0.mk (below_step (by repeat (first | (with_reducible first | exact HB.out | apply below_alloc | apply pw_below_drewN | apply below_drew1 | refine below_set ?_ GE208.out | refine below_set ?_ GE209.out) | exact HB.out)) hb); clear HO_16; clear HO_17; clear HO_18; clear HO_20; clear BK208; clear BK209; clear HB; have HO_16 := n0_; have HO_17 := n1_; have HO_18 := n2_; have HO_20 := n3_; have BK208 := n4_; have BK209 := n5_; have HB := n6_; clear n0_ n1_ n2_ n3_ n4_ n5_ n6_; (try clear hb); (try clear hb2); (try clear hk); (try clear hi); obtain ⟨Ao98, co98, eo98⟩ := Kd.R_slice HO_20.out; subst eo98; have p247 : 0 ≤ (x102_3 : Int) := of_decide_eq_true (by first | (with_reducible assumption) | assumption); have q247 : x102_3 < (t241.length : Int) := of_decide_eq_true (by first | (with_reducible assumption) | assumption); obtain ⟨ad247, e247, hx247_0⟩ := Kd.at_int (Kd.R_reads' HO_20.out).2.2 x102_3 p247 q247; cases e247; replace p247 := eq_true p247; replace q247 := eq_true q247; have p251 : 0 ≤ (x102_3 : Int) := of_decide_eq_true (by first | (with_reducible assumption) | assumption); have q251 : x102_3 < (t241.length : Int) := of_decide_eq_true (by first | (with_reducible assumption) | assumption); obtain ⟨ad251, e251, hx251_0⟩ := Kd.at_int (Kd.R_reads' HO_20.out).2.2 x102_3 p251 q251; obtain rfl : ad247 = ad251 := (by injection e251); replace p251 := eq_true p251; replace q251 := eq_true q251; have p255 : 0 ≤ (x102_3 : Int) := of_decide_eq_true (by first | (with_reducible assumption) | assumption); have q255 : x102_3 < (t241.length : Int) := of_decide_eq_true (by first | (with_reducible assumption) | assumption); obtain ⟨ad255, e255, hx255_0⟩ := Kd.at_int (Kd.R_reads' HO_20.out).2.2 x102_3 p255 q255; obtain rfl : ad247 = ad255 := (by injection e255); replace p255 := eq_true p255; replace q255 := eq_true q255; have p256 : 0 ≤ (x102_3 : Int) := of_decide_eq_true (by first | (with_reducible assumption) | assumption); have q256 : x102_3 < (t241.length : Int) := of_decide_eq_true (by first | (with_reducible assumption) | assumption); obtain ⟨ad256, e256, hx256_0⟩ := Kd.at_int (Kd.R_reads' HO_20.out).2.2 x102_3 p256 q256; obtain rfl : ad247 = ad256 := (by injection e256); replace p256 := eq_true p256; replace q256 := eq_true q256; obtain ⟨Ao99, co99, eo99⟩ := Kd.R_slice HO_18.out; subst eo99; have p257 : 0 ≤ (x102_3 : Int) := of_decide_eq_true (by first | (with_reducible assumption) | assumption); have q257 : x102_3 < (t237.length : Int) := of_decide_eq_true (by first | (with_reducible assumption) | assumption); obtain ⟨ad257, e257, hx257_0⟩ := Kd.at_int (Kd.R_reads' HO_18.out).2.2 x102_3 p257 q257; cases e257; replace p257 := eq_true p257; replace q257 := eq_true q257; have p258 : 0 ≤ (x102_3 : Int) := of_decide_eq_true (by first | (with_reducible assumption) | assumption); have q258 : x102_3 < (t241.length : Int) := of_decide_eq_true (by first | (with_reducible assumption) | assumption); obtain ⟨ad258, e258, hx258_0⟩ := Kd.at_int (Kd.R_reads' HO_20.out).2.2 x102_3 p258 q258; obtain rfl : ad247 = ad258 := (by injection e258); replace p258 := eq_true p258; replace q258 := eq_true q258))
                      go_roundg k3
                      case measure => have := HJ12.out; have := HJ46.out; have := HK3.out; omega
                      case rel => exact ⟨(wrap64 (x102_3 + 1)), (by first | rfl | (simp; done) | (simp [*]; done)), H', ⟨by have := HJ12.out; have := HJ46.out; have := HK3.out; omega⟩, ⟨by (with_reducible repeat (first | apply Kd.R_alloc | apply Kd.R_drewN | apply Kd.R_drew)); exact HO_16.out⟩, ⟨by (with_reducible repeat (first | apply Kd.R_alloc | apply Kd.R_drewN | apply Kd.R_drew)); exact HO_17.out⟩, ⟨by (with_reducible repeat (first | apply Kd.R_alloc | apply Kd.R_drewN | apply Kd.R_drew)); exact HO_18.out⟩, ⟨by (with_reducible repeat (first | apply Kd.R_alloc | apply Kd.R_drewN | apply Kd.R_drew)); exact HO_20.out⟩, ⟨by (with_reducible repeat (first | refine blk_drewN ?_ _ | refine blk_drew ?_ | refine blk_alloc ?_ _)); exact BK208.out⟩, ⟨by (with_reducible repeat (first | refine blk_drewN ?_ _ | refine blk_drew ?_ | refine blk_alloc ?_ _)); exact BK209.out⟩, ⟨by repeat (first | (with_reducible first | exact HB.out | apply below_alloc | apply pw_below_drewN | apply below_drew1 | refine below_set ?_ GE208.out | refine below_set ?_ GE209.out) | exact HB.out)⟩⟩
                    ·
                     rw [if_neg c92] at H
                     exact absurd H (by simp)
                   ·
                    rw [if_neg c91] at H
                    have c91b0 : ((rd t241 x102_3) == (-2)) = false := beq_eq_false_iff_ne.mpr c91
                    have c91b1 : ((rd t241 x102_3) != (-2)) = true := bne_iff_ne.mpr c91
                    obtain rfl := Option.some.inj H
                    go_wp2_with (first | ((with_reducible refine gate_callee (f := 34) rfl ?_); refine goesL_ (some 110) rfl rfl Try.func34 (by kernel_rfl) rfl #[.slice Ao49 y220.length co49, .slice Ao50 y232.length co50, .int .i64 a2, .int .i64 (l0.length : Int), .int .i64 x102_3] rfl (by (try simp only [List.map_toArray, List.map_cons, List.map_nil]); first | done | rfl | (simp only [List.length_drop, List.length_take]; rfl)) ?_; (with_reducible refine (slotmeshlaw17_heard.calls _ _ y220 _ _ y232 a2 (l0.length : Int) x102_3 true _ ?side1 ?side2 ?side3 ?side4 A65.out).mono ?_); (case side1 => repeat (first | exact (Kd.R_reads' HO_16.out).2.2 | (with_reducible refine Kd.C_alloc ?_ _) | (with_reducible refine Kd.C_drewN ?_ _) | (with_reducible refine Kd.C_drew ?_))); (case side2 => exact (Kd.R_reads' HO_16.out).2.1); (case side3 => repeat (first | exact (Kd.R_reads' HO_17.out).2.2 | (with_reducible refine Kd.C_alloc ?_ _) | (with_reducible refine Kd.C_drewN ?_ _) | (with_reducible refine Kd.C_drew ?_))); (case side4 => exact (Kd.R_reads' HO_17.out).2.1); rintro e w100 ⟨rfl, hb⟩; refine ⟨_, rfl, ?_⟩; have n0_ := Aside0.mk (Kd.R_below (by (with_reducible repeat (first | apply Kd.R_alloc | apply Kd.R_drewN | apply Kd.R_drew)); exact HO_16.out) hb); have n1_ := Aside0.mk (Kd.R_below (by (with_reducible repeat (first | apply Kd.R_alloc | apply Kd.R_drewN | apply Kd.R_drew)); exact HO_17.out) hb); have n2_ := Aside0.mk (Kd.R_below (by (with_reducible repeat (first | apply Kd.R_alloc | apply Kd.R_drewN | apply Kd.R_drew)); exact HO_18.out) hb); have n3_ := Aside0.mk (Kd.R_below (by (with_reducible repeat (first | apply Kd.R_alloc | apply Kd.R_drewN | apply Kd.R_drew)); exact HO_20.out) hb); have n4_ := Aside0.mk (blk_below (g := gb208) (o := .cells #[.int .i64 2, .int .i64 a5_1, .int .i64 a5_2, .int .i64 a5_3, .int .i64 a5_4] 50 (0, 0)) (by (with_reducible repeat (first | refine blk_drewN ?_ _ | refine blk_drew ?_ | refine blk_alloc ?_ _)); exact BK208.out) hb); have n5_ := Aside0.mk (blk_below (g := gb209) (o := .cells #[.int .i64 a6_0, .int .i64 a6_1] 25 (0, 0)) (by (with_reducible repeat (first | refine blk_drewN ?_ _ | refine blk_drew ?_ | refine blk_alloc ?_ _)); exact BK209.out) hb); have n6_ := Aside0.mk (below_step (by repeat (first | (with_reducible first | exact HB.out | apply below_alloc | apply pw_below_drewN | apply below_drew1 | refine below_set ?_ GE208.out | refine below_set ?_ GE209.out) | exact HB.out)) hb); clear HO_16; clear HO_17; clear HO_18; clear HO_20; clear BK208; clear BK209; clear HB; have HO_16 := n0_; have HO_17 := n1_; have HO_18 := n2_; have HO_20 := n3_; have BK208 := n4_; have BK209 := n5_; have HB := n6_; clear n0_ n1_ n2_ n3_ n4_ n5_ n6_; (try clear hb); (try clear hb2); (try clear hk); (try clear hi); obtain ⟨Ao101, co101, eo101⟩ := Kd.R_slice HO_20.out; subst eo101; have p247 : 0 ≤ (x102_3 : Int) := of_decide_eq_true (by first | (with_reducible assumption) | assumption); have q247 : x102_3 < (t241.length : Int) := of_decide_eq_true (by first | (with_reducible assumption) | assumption); obtain ⟨ad247, e247, hx247_0⟩ := Kd.at_int (Kd.R_reads' HO_20.out).2.2 x102_3 p247 q247; cases e247; replace p247 := eq_true p247; replace q247 := eq_true q247; have p251 : 0 ≤ (x102_3 : Int) := of_decide_eq_true (by first | (with_reducible assumption) | assumption); have q251 : x102_3 < (t241.length : Int) := of_decide_eq_true (by first | (with_reducible assumption) | assumption); obtain ⟨ad251, e251, hx251_0⟩ := Kd.at_int (Kd.R_reads' HO_20.out).2.2 x102_3 p251 q251; obtain rfl : ad247 = ad251 := (by injection e251); replace p251 := eq_true p251; replace q251 := eq_true q251; have p255 : 0 ≤ (x102_3 : Int) := of_decide_eq_true (by first | (with_reducible assumption) | assumption); have q255 : x102_3 < (t241.length : Int) := of_decide_eq_true (by first | (with_reducible assumption) | assumption); obtain ⟨ad255, e255, hx255_0⟩ := Kd.at_int (Kd.R_reads' HO_20.out).2.2 x102_3 p255 q255; obtain rfl : ad247 = ad255 := (by injection e255); replace p255 := eq_true p255; replace q255 := eq_true q255))
                    go_ret
                    exact ⟨by first | rfl | (simp [errW_none, errW_some] <;> rfl) | (simp [*, errW_none, errW_some] <;> rfl), by repeat (first | (with_reducible first | exact HB.out | apply below_alloc | apply pw_below_drewN | apply below_drew1 | refine below_set ?_ GE208.out | refine below_set ?_ GE209.out) | exact HB.out)⟩
                ·
                 rw [if_neg c68] at H
                 exact absurd H (by simp)
               ·
                rw [if_neg c67] at H
                exact absurd H (by simp)
              ·
               replace c66 := Bool.eq_false_iff.mpr c66
               subst c66
               rw [if_neg (show ¬ (false = true) by decide)] at H
               by_cases c102 : 0 ≤ x102_3
               ·
                rw [if_pos c102] at H
                have c102b0 : decide (0 ≤ x102_3) = true := decide_eq_true c102
                clear c102
                by_cases c103 : x102_3 < (t237.length : Int)
                ·
                 rw [if_pos c103] at H
                 have c103b0 : decide (x102_3 < (t237.length : Int)) = true := decide_eq_true c103
                 clear c103
                 by_cases c104 : x102_3 < (t241.length : Int)
                 ·
                  rw [if_pos c104] at H
                  have c104b0 : decide (x102_3 < (t241.length : Int)) = true := decide_eq_true c104
                  clear c104
                  by_cases c105 : (rd t237 x102_3) = (rd t241 x102_3)
                  ·
                   rw [if_pos c105] at H
                   have c105b0 : ((rd t237 x102_3) == (rd t241 x102_3)) = true := beq_iff_eq.mpr c105
                   have c105b1 : ((rd t237 x102_3) != (rd t241 x102_3)) = false := bne_eq_false_iff_eq.mpr c105
                   clear c105
                   have H' := Aside0.mk H
                   clear H
                   try go_wp2_with (first | ((with_reducible refine gate_callee (f := 34) rfl ?_); refine goesL_ (some 110) rfl rfl Try.func34 (by kernel_rfl) rfl #[.slice Ao49 y220.length co49, .slice Ao50 y232.length co50, .int .i64 a2, .int .i64 (l0.length : Int), .int .i64 x102_3] rfl (by (try simp only [List.map_toArray, List.map_cons, List.map_nil]); first | done | rfl | (simp only [List.length_drop, List.length_take]; rfl)) ?_; (with_reducible refine (slotmeshlaw17_heard.calls _ _ y220 _ _ y232 a2 (l0.length : Int) x102_3 false _ ?side1 ?side2 ?side3 ?side4 A65.out).mono ?_); (case side1 => repeat (first | exact (Kd.R_reads' HO_16.out).2.2 | (with_reducible refine Kd.C_alloc ?_ _) | (with_reducible refine Kd.C_drewN ?_ _) | (with_reducible refine Kd.C_drew ?_))); (case side2 => exact (Kd.R_reads' HO_16.out).2.1); (case side3 => repeat (first | exact (Kd.R_reads' HO_17.out).2.2 | (with_reducible refine Kd.C_alloc ?_ _) | (with_reducible refine Kd.C_drewN ?_ _) | (with_reducible refine Kd.C_drew ?_))); (case side4 => exact (Kd.R_reads' HO_17.out).2.1); rintro e w106 ⟨rfl, hb⟩; refine ⟨_, rfl, ?_⟩; have n0_ := Aside0.mk (Kd.R_below (by (with_reducible repeat (first | apply Kd.R_alloc | apply Kd.R_drewN | apply Kd.R_drew)); exact HO_16.out) hb); have n1_ := Aside0.mk (Kd.R_below (by (with_reducible repeat (first | apply Kd.R_alloc | apply Kd.R_drewN | apply Kd.R_drew)); exact HO_17.out) hb); have n2_ := Aside0.mk (Kd.R_below (by (with_reducible repeat (first | apply Kd.R_alloc | apply Kd.R_drewN | apply Kd.R_drew)); exact HO_18.out) hb); have n3_ := Aside0.mk (Kd.R_below (by (with_reducible repeat (first | apply Kd.R_alloc | apply Kd.R_drewN | apply Kd.R_drew)); exact HO_20.out) hb); have n4_ := Aside0.mk (blk_below (g := gb208) (o := .cells #[.int .i64 2, .int .i64 a5_1, .int .i64 a5_2, .int .i64 a5_3, .int .i64 a5_4] 50 (0, 0)) (by (with_reducible repeat (first | refine blk_drewN ?_ _ | refine blk_drew ?_ | refine blk_alloc ?_ _)); exact BK208.out) hb); have n5_ := Aside0.mk (blk_below (g := gb209) (o := .cells #[.int .i64 a6_0, .int .i64 a6_1] 25 (0, 0)) (by (with_reducible repeat (first | refine blk_drewN ?_ _ | refine blk_drew ?_ | refine blk_alloc ?_ _)); exact BK209.out) hb); have n6_ := Aside0.mk (below_step (by repeat (first | (with_reducible first | exact HB.out | apply below_alloc | apply pw_below_drewN | apply below_drew1 | refine below_set ?_ GE208.out | refine below_set ?_ GE209.out) | exact HB.out)) hb); clear HO_16; clear HO_17; clear HO_18; clear HO_20; clear BK208; clear BK209; clear HB; have HO_16 := n0_; have HO_17 := n1_; have HO_18 := n2_; have HO_20 := n3_; have BK208 := n4_; have BK209 := n5_; have HB := n6_; clear n0_ n1_ n2_ n3_ n4_ n5_ n6_; (try clear hb); (try clear hb2); (try clear hk); (try clear hi)))
                   have n0_ := Aside0.mk (Kd.R_drew HO_16.out)
                   have n1_ := Aside0.mk (Kd.R_drew HO_17.out)
                   have n2_ := Aside0.mk (Kd.R_drew HO_18.out)
                   have n3_ := Aside0.mk (Kd.R_drew HO_20.out)
                   have n4_ := Aside0.mk (blk_drew BK208.out)
                   have n5_ := Aside0.mk (blk_drew BK209.out)
                   have n6_ := Aside0.mk (below_drew1 HB.out)
                   clear HO_16
                   clear HO_17
                   clear HO_18
                   clear HO_20
                   clear BK208
                   clear BK209
                   clear HB
                   have HO_16 := n0_
                   have HO_17 := n1_
                   have HO_18 := n2_
                   have HO_20 := n3_
                   have BK208 := n4_
                   have BK209 := n5_
                   have HB := n6_
                   clear n0_ n1_ n2_ n3_ n4_ n5_ n6_
                   obtain ⟨Ao108, co108, eo108⟩ := Kd.R_slice HO_18.out
                   (first | subst eo108 | (injection eo108 with f1_ f2_ f3_; have f4_ := f1_.symm; have f5_ := f3_.symm; clear f1_ f2_ f3_; subst f4_; subst f5_))
                   have p259 : 0 ≤ (x102_3 : Int) := of_decide_eq_true (by first | (with_reducible assumption) | assumption)
                   have q259 : x102_3 < (t237.length : Int) := of_decide_eq_true (by first | (with_reducible assumption) | assumption)
                   obtain ⟨ad259, e259, hx259_0⟩ := Kd.at_int (Kd.R_reads' HO_18.out).2.2 x102_3 p259 q259
                   cases e259
                   replace p259 := eq_true p259
                   replace q259 := eq_true q259
                   obtain ⟨Ao109, co109, eo109⟩ := Kd.R_slice HO_20.out
                   (first | subst eo109 | (injection eo109 with f1_ f2_ f3_; have f4_ := f1_.symm; have f5_ := f3_.symm; clear f1_ f2_ f3_; subst f4_; subst f5_))
                   have p260 : 0 ≤ (x102_3 : Int) := of_decide_eq_true (by first | (with_reducible assumption) | assumption)
                   have q260 : x102_3 < (t241.length : Int) := of_decide_eq_true (by first | (with_reducible assumption) | assumption)
                   obtain ⟨ad260, e260, hx260_0⟩ := Kd.at_int (Kd.R_reads' HO_20.out).2.2 x102_3 p260 q260
                   cases e260
                   replace p260 := eq_true p260
                   replace q260 := eq_true q260
                   refine start_ (n := 9) (S := fun w' => w'.cell? (ad259.add (x102_3).toNat) = some (.int .i64 (rd t237 x102_3)) ∧ w'.cell? (ad260.add (x102_3).toNat) = some (.int .i64 (rd t241 x102_3))) (ds := []) #[false, false, false, false, false, false, false, false, false] (by kernel_rfl) rfl rfl ⟨hx259_0, hx260_0⟩ (fun hHeld => ?_); refine with_tabW slotmeshlaw17_MediumMore.tab15 slotmeshlaw17_MediumMore.bits15 (fun HT_ HW_ => ?_)
                   generalize w106.drew = w107 at HO_16 HO_17 HO_18 HO_20 BK208 BK209 HB hx259_0 hx260_0 hHeld ⊢
                   refine pure_ (i := 0) (N := some 112) (v := ?_) (a' := ?_) #[true, false, false, false, false, false, false, false, false] rfl rfl (any_of HT_.out (by kernel_rfl)) (fun _ _ _ h => h) (Or.inl ⟨by rfl, ?_⟩) ?_ ?_
                   rotate_left
                   ·
                    intro w'
                    go_simp
                    with_reducible rfl
                   rotate_left
                   ·
                    simp only [Act.put, List.setIfInBounds_toArray, List.set_cons_zero, List.set_cons_succ, i64_w, i32_w]
                    rfl
                   refine pure_ (i := 1) (N := some 113) (v := ?_) (a' := ?_) #[true, true, false, false, false, false, false, false, false] rfl rfl (any_of HT_.out (by kernel_rfl)) (fun _ _ _ h => h) (Or.inl ⟨by rfl, ?_⟩) ?_ ?_
                   rotate_left
                   ·
                    intro w'
                    go_simp
                    with_reducible rfl
                   rotate_left
                   ·
                    simp only [Act.put, List.setIfInBounds_toArray, List.set_cons_zero, List.set_cons_succ, i64_w, i32_w]
                    rfl
                   refine pure_ (i := 2) (N := some 114) (v := ?_) (a' := ?_) #[true, true, true, false, false, false, false, false, false] rfl rfl (any_of HT_.out (by kernel_rfl)) (fun _ _ _ h => h) (Or.inl ⟨by rfl, ?_⟩) ?_ ?_
                   rotate_left
                   ·
                    intro w'
                    go_simp
                    with_reducible rfl
                   rotate_left
                   ·
                    simp only [Act.put, List.setIfInBounds_toArray, List.set_cons_zero, List.set_cons_succ, i64_w, i32_w]
                    rfl
                   refine pure_ (i := 4) (N := some 116) (v := ?_) (a' := ?_) #[true, true, true, false, true, false, false, false, false] rfl rfl (any_of HT_.out (by kernel_rfl)) (fun _ _ _ h => h) (Or.inl ⟨by rfl, ?_⟩) ?_ ?_
                   rotate_left
                   ·
                    intro w'
                    go_simp
                    with_reducible rfl
                   rotate_left
                   ·
                    simp only [Act.put, List.setIfInBounds_toArray, List.set_cons_zero, List.set_cons_succ, i64_w, i32_w]
                    rfl
                   refine pure_ (i := 5) (N := some 117) (v := ?_) (a' := ?_) #[true, true, true, false, true, true, false, false, false] rfl rfl (any_of HT_.out (by kernel_rfl)) (fun _ _ _ h => h) (Or.inl ⟨by rfl, ?_⟩) ?_ ?_
                   rotate_left
                   ·
                    intro w'
                    go_simp
                    with_reducible rfl
                   rotate_left
                   ·
                    simp only [Act.put, List.setIfInBounds_toArray, List.set_cons_zero, List.set_cons_succ, i64_w, i32_w]
                    rfl
                   refine pure_ (i := 6) (N := some 118) (v := ?_) (a' := ?_) #[true, true, true, false, true, true, true, false, false] rfl rfl (any_of HT_.out (by kernel_rfl)) (fun _ _ _ h => h) (Or.inl ⟨by rfl, ?_⟩) ?_ ?_
                   rotate_left
                   ·
                    intro w'
                    go_simp
                    with_reducible rfl
                   rotate_left
                   ·
                    simp only [Act.put, List.setIfInBounds_toArray, List.set_cons_zero, List.set_cons_succ, i64_w, i32_w]
                    rfl
                   refine take_ (i := 3) (N := some 115) (v := ?_) (a' := ?_) #[true, true, true, true, true, true, true, false, false] rfl rfl (take_ofW HT_.out HW_.out (by kernel_rfl)) (fun _ _ _ h => h) (Or.inl ⟨by rfl, ?_⟩) hHeld ?_ ?_
                   rotate_left
                   ·
                    rintro w' ⟨s0, s1⟩
                    go_simp
                    with_reducible rfl
                   rotate_left
                   ·
                    simp only [Act.put, List.setIfInBounds_toArray, List.set_cons_zero, List.set_cons_succ, i64_w, i32_w]
                    rfl
                   refine take_ (i := 7) (N := some 119) (v := ?_) (a' := ?_) #[true, true, true, true, true, true, true, true, false] rfl rfl (take_ofW HT_.out HW_.out (by kernel_rfl)) (fun _ _ _ h => h) (Or.inl ⟨by rfl, ?_⟩) hHeld ?_ ?_
                   rotate_left
                   ·
                    rintro w' ⟨s0, s1⟩
                    go_simp
                    with_reducible rfl
                   rotate_left
                   ·
                    simp only [Act.put, List.setIfInBounds_toArray, List.set_cons_zero, List.set_cons_succ, i64_w, i32_w]
                    rfl
                   refine pure_ (i := 8) (N := some 120) (v := ?_) (a' := ?_) #[true, true, true, true, true, true, true, true, true] rfl rfl (any_of HT_.out (by kernel_rfl)) (fun _ _ _ h => h) (Or.inl ⟨by rfl, ?_⟩) ?_ ?_
                   rotate_left
                   ·
                    intro w'
                    go_simp
                    with_reducible rfl
                   rotate_left
                   ·
                    simp only [Act.put, List.setIfInBounds_toArray, List.set_cons_zero, List.set_cons_succ, i64_w, i32_w]
                    rfl
                   refine done_ (done_of HT_.out (by kernel_rfl)) ?_
                   try go_wp2
                   go_roundg k3
                   case measure => have := HJ12.out; have := HJ46.out; have := HK3.out; omega
                   case rel => exact ⟨(wrap64 (x102_3 + 1)), (by first | rfl | (simp; done) | (simp [*]; done)), H', ⟨by have := HJ12.out; have := HJ46.out; have := HK3.out; omega⟩, ⟨by (with_reducible repeat (first | apply Kd.R_alloc | apply Kd.R_drewN | apply Kd.R_drew)); exact HO_16.out⟩, ⟨by (with_reducible repeat (first | apply Kd.R_alloc | apply Kd.R_drewN | apply Kd.R_drew)); exact HO_17.out⟩, ⟨by (with_reducible repeat (first | apply Kd.R_alloc | apply Kd.R_drewN | apply Kd.R_drew)); exact HO_18.out⟩, ⟨by (with_reducible repeat (first | apply Kd.R_alloc | apply Kd.R_drewN | apply Kd.R_drew)); exact HO_20.out⟩, ⟨by (with_reducible repeat (first | refine blk_drewN ?_ _ | refine blk_drew ?_ | refine blk_alloc ?_ _)); exact BK208.out⟩, ⟨by (with_reducible repeat (first | refine blk_drewN ?_ _ | refine blk_drew ?_ | refine blk_alloc ?_ _)); exact BK209.out⟩, ⟨by repeat (first | (with_reducible first | exact HB.out | apply below_alloc | apply pw_below_drewN | apply below_drew1 | refine below_set ?_ GE208.out | refine below_set ?_ GE209.out) | exact HB.out)⟩⟩
                  ·
                   rw [if_neg c105] at H
                   have c105b0 : ((rd t237 x102_3) == (rd t241 x102_3)) = false := beq_eq_false_iff_ne.mpr c105
                   have c105b1 : ((rd t237 x102_3) != (rd t241 x102_3)) = true := bne_iff_ne.mpr c105
                   obtain rfl := Option.some.inj H
                   try go_wp2_with (first | ((with_reducible refine gate_callee (f := 34) rfl ?_); refine goesL_ (some 110) rfl rfl Try.func34 (by kernel_rfl) rfl #[.slice Ao49 y220.length co49, .slice Ao50 y232.length co50, .int .i64 a2, .int .i64 (l0.length : Int), .int .i64 x102_3] rfl (by (try simp only [List.map_toArray, List.map_cons, List.map_nil]); first | done | rfl | (simp only [List.length_drop, List.length_take]; rfl)) ?_; (with_reducible refine (slotmeshlaw17_heard.calls _ _ y220 _ _ y232 a2 (l0.length : Int) x102_3 false _ ?side1 ?side2 ?side3 ?side4 A65.out).mono ?_); (case side1 => repeat (first | exact (Kd.R_reads' HO_16.out).2.2 | (with_reducible refine Kd.C_alloc ?_ _) | (with_reducible refine Kd.C_drewN ?_ _) | (with_reducible refine Kd.C_drew ?_))); (case side2 => exact (Kd.R_reads' HO_16.out).2.1); (case side3 => repeat (first | exact (Kd.R_reads' HO_17.out).2.2 | (with_reducible refine Kd.C_alloc ?_ _) | (with_reducible refine Kd.C_drewN ?_ _) | (with_reducible refine Kd.C_drew ?_))); (case side4 => exact (Kd.R_reads' HO_17.out).2.1); rintro e w110 ⟨rfl, hb⟩; refine ⟨_, rfl, ?_⟩; have n0_ := Aside0.mk (Kd.R_below (by (with_reducible repeat (first | apply Kd.R_alloc | apply Kd.R_drewN | apply Kd.R_drew)); exact HO_16.out) hb); have n1_ := Aside0.mk (Kd.R_below (by (with_reducible repeat (first | apply Kd.R_alloc | apply Kd.R_drewN | apply Kd.R_drew)); exact HO_17.out) hb); have n2_ := Aside0.mk (Kd.R_below (by (with_reducible repeat (first | apply Kd.R_alloc | apply Kd.R_drewN | apply Kd.R_drew)); exact HO_18.out) hb); have n3_ := Aside0.mk (Kd.R_below (by (with_reducible repeat (first | apply Kd.R_alloc | apply Kd.R_drewN | apply Kd.R_drew)); exact HO_20.out) hb); have n4_ := Aside0.mk (blk_below (g := gb208) (o := .cells #[.int .i64 2, .int .i64 a5_1, .int .i64 a5_2, .int .i64 a5_3, .int .i64 a5_4] 50 (0, 0)) (by (with_reducible repeat (first | refine blk_drewN ?_ _ | refine blk_drew ?_ | refine blk_alloc ?_ _)); exact BK208.out) hb); have n5_ := Aside0.mk (blk_below (g := gb209) (o := .cells #[.int .i64 a6_0, .int .i64 a6_1] 25 (0, 0)) (by (with_reducible repeat (first | refine blk_drewN ?_ _ | refine blk_drew ?_ | refine blk_alloc ?_ _)); exact BK209.out) hb); have n6_ := Aside0.mk (below_step (by repeat (first | (with_reducible first | exact HB.out | apply below_alloc | apply pw_below_drewN | apply below_drew1 | refine below_set ?_ GE208.out | refine below_set ?_ GE209.out) | exact HB.out)) hb); clear HO_16; clear HO_17; clear HO_18; clear HO_20; clear BK208; clear BK209; clear HB; have HO_16 := n0_; have HO_17 := n1_; have HO_18 := n2_; have HO_20 := n3_; have BK208 := n4_; have BK209 := n5_; have HB := n6_; clear n0_ n1_ n2_ n3_ n4_ n5_ n6_; (try clear hb); (try clear hb2); (try clear hk); (try clear hi)))
                   have n0_ := Aside0.mk (Kd.R_drew HO_16.out)
                   have n1_ := Aside0.mk (Kd.R_drew HO_17.out)
                   have n2_ := Aside0.mk (Kd.R_drew HO_18.out)
                   have n3_ := Aside0.mk (Kd.R_drew HO_20.out)
                   have n4_ := Aside0.mk (blk_drew BK208.out)
                   have n5_ := Aside0.mk (blk_drew BK209.out)
                   have n6_ := Aside0.mk (below_drew1 HB.out)
                   clear HO_16
                   clear HO_17
                   clear HO_18
                   clear HO_20
                   clear BK208
                   clear BK209
                   clear HB
                   have HO_16 := n0_
                   have HO_17 := n1_
                   have HO_18 := n2_
                   have HO_20 := n3_
                   have BK208 := n4_
                   have BK209 := n5_
                   have HB := n6_
                   clear n0_ n1_ n2_ n3_ n4_ n5_ n6_
                   obtain ⟨Ao112, co112, eo112⟩ := Kd.R_slice HO_18.out
                   (first | subst eo112 | (injection eo112 with f1_ f2_ f3_; have f4_ := f1_.symm; have f5_ := f3_.symm; clear f1_ f2_ f3_; subst f4_; subst f5_))
                   have p259 : 0 ≤ (x102_3 : Int) := of_decide_eq_true (by first | (with_reducible assumption) | assumption)
                   have q259 : x102_3 < (t237.length : Int) := of_decide_eq_true (by first | (with_reducible assumption) | assumption)
                   obtain ⟨ad259, e259, hx259_0⟩ := Kd.at_int (Kd.R_reads' HO_18.out).2.2 x102_3 p259 q259
                   cases e259
                   replace p259 := eq_true p259
                   replace q259 := eq_true q259
                   obtain ⟨Ao113, co113, eo113⟩ := Kd.R_slice HO_20.out
                   (first | subst eo113 | (injection eo113 with f1_ f2_ f3_; have f4_ := f1_.symm; have f5_ := f3_.symm; clear f1_ f2_ f3_; subst f4_; subst f5_))
                   have p260 : 0 ≤ (x102_3 : Int) := of_decide_eq_true (by first | (with_reducible assumption) | assumption)
                   have q260 : x102_3 < (t241.length : Int) := of_decide_eq_true (by first | (with_reducible assumption) | assumption)
                   obtain ⟨ad260, e260, hx260_0⟩ := Kd.at_int (Kd.R_reads' HO_20.out).2.2 x102_3 p260 q260
                   cases e260
                   replace p260 := eq_true p260
                   replace q260 := eq_true q260
                   refine start_ (n := 9) (S := fun w' => w'.cell? (ad259.add (x102_3).toNat) = some (.int .i64 (rd t237 x102_3)) ∧ w'.cell? (ad260.add (x102_3).toNat) = some (.int .i64 (rd t241 x102_3))) (ds := []) #[false, false, false, false, false, false, false, false, false] (by kernel_rfl) rfl rfl ⟨hx259_0, hx260_0⟩ (fun hHeld => ?_); refine with_tabW slotmeshlaw17_MediumMore.tab15 slotmeshlaw17_MediumMore.bits15 (fun HT_ HW_ => ?_)
                   generalize w110.drew = w111 at HO_16 HO_17 HO_18 HO_20 BK208 BK209 HB hx259_0 hx260_0 hHeld ⊢
                   refine pure_ (i := 0) (N := some 112) (v := ?_) (a' := ?_) #[true, false, false, false, false, false, false, false, false] rfl rfl (any_of HT_.out (by kernel_rfl)) (fun _ _ _ h => h) (Or.inl ⟨by rfl, ?_⟩) ?_ ?_
                   rotate_left
                   ·
                    intro w'
                    go_simp
                    with_reducible rfl
                   rotate_left
                   ·
                    simp only [Act.put, List.setIfInBounds_toArray, List.set_cons_zero, List.set_cons_succ, i64_w, i32_w]
                    rfl
                   refine pure_ (i := 1) (N := some 113) (v := ?_) (a' := ?_) #[true, true, false, false, false, false, false, false, false] rfl rfl (any_of HT_.out (by kernel_rfl)) (fun _ _ _ h => h) (Or.inl ⟨by rfl, ?_⟩) ?_ ?_
                   rotate_left
                   ·
                    intro w'
                    go_simp
                    with_reducible rfl
                   rotate_left
                   ·
                    simp only [Act.put, List.setIfInBounds_toArray, List.set_cons_zero, List.set_cons_succ, i64_w, i32_w]
                    rfl
                   refine pure_ (i := 2) (N := some 114) (v := ?_) (a' := ?_) #[true, true, true, false, false, false, false, false, false] rfl rfl (any_of HT_.out (by kernel_rfl)) (fun _ _ _ h => h) (Or.inl ⟨by rfl, ?_⟩) ?_ ?_
                   rotate_left
                   ·
                    intro w'
                    go_simp
                    with_reducible rfl
                   rotate_left
                   ·
                    simp only [Act.put, List.setIfInBounds_toArray, List.set_cons_zero, List.set_cons_succ, i64_w, i32_w]
                    rfl
                   refine pure_ (i := 4) (N := some 116) (v := ?_) (a' := ?_) #[true, true, true, false, true, false, false, false, false] rfl rfl (any_of HT_.out (by kernel_rfl)) (fun _ _ _ h => h) (Or.inl ⟨by rfl, ?_⟩) ?_ ?_
                   rotate_left
                   ·
                    intro w'
                    go_simp
                    with_reducible rfl
                   rotate_left
                   ·
                    simp only [Act.put, List.setIfInBounds_toArray, List.set_cons_zero, List.set_cons_succ, i64_w, i32_w]
                    rfl
                   refine pure_ (i := 5) (N := some 117) (v := ?_) (a' := ?_) #[true, true, true, false, true, true, false, false, false] rfl rfl (any_of HT_.out (by kernel_rfl)) (fun _ _ _ h => h) (Or.inl ⟨by rfl, ?_⟩) ?_ ?_
                   rotate_left
                   ·
                    intro w'
                    go_simp
                    with_reducible rfl
                   rotate_left
                   ·
                    simp only [Act.put, List.setIfInBounds_toArray, List.set_cons_zero, List.set_cons_succ, i64_w, i32_w]
                    rfl
                   refine pure_ (i := 6) (N := some 118) (v := ?_) (a' := ?_) #[true, true, true, false, true, true, true, false, false] rfl rfl (any_of HT_.out (by kernel_rfl)) (fun _ _ _ h => h) (Or.inl ⟨by rfl, ?_⟩) ?_ ?_
                   rotate_left
                   ·
                    intro w'
                    go_simp
                    with_reducible rfl
                   rotate_left
                   ·
                    simp only [Act.put, List.setIfInBounds_toArray, List.set_cons_zero, List.set_cons_succ, i64_w, i32_w]
                    rfl
                   refine take_ (i := 3) (N := some 115) (v := ?_) (a' := ?_) #[true, true, true, true, true, true, true, false, false] rfl rfl (take_ofW HT_.out HW_.out (by kernel_rfl)) (fun _ _ _ h => h) (Or.inl ⟨by rfl, ?_⟩) hHeld ?_ ?_
                   rotate_left
                   ·
                    rintro w' ⟨s0, s1⟩
                    go_simp
                    with_reducible rfl
                   rotate_left
                   ·
                    simp only [Act.put, List.setIfInBounds_toArray, List.set_cons_zero, List.set_cons_succ, i64_w, i32_w]
                    rfl
                   refine take_ (i := 7) (N := some 119) (v := ?_) (a' := ?_) #[true, true, true, true, true, true, true, true, false] rfl rfl (take_ofW HT_.out HW_.out (by kernel_rfl)) (fun _ _ _ h => h) (Or.inl ⟨by rfl, ?_⟩) hHeld ?_ ?_
                   rotate_left
                   ·
                    rintro w' ⟨s0, s1⟩
                    go_simp
                    with_reducible rfl
                   rotate_left
                   ·
                    simp only [Act.put, List.setIfInBounds_toArray, List.set_cons_zero, List.set_cons_succ, i64_w, i32_w]
                    rfl
                   refine pure_ (i := 8) (N := some 120) (v := ?_) (a' := ?_) #[true, true, true, true, true, true, true, true, true] rfl rfl (any_of HT_.out (by kernel_rfl)) (fun _ _ _ h => h) (Or.inl ⟨by rfl, ?_⟩) ?_ ?_
                   rotate_left
                   ·
                    intro w'
                    go_simp
                    with_reducible rfl
                   rotate_left
                   ·
                    simp only [Act.put, List.setIfInBounds_toArray, List.set_cons_zero, List.set_cons_succ, i64_w, i32_w]
                    rfl
                   refine done_ (done_of HT_.out (by kernel_rfl)) ?_
                   try go_wp2
                   go_ret
                   exact ⟨by first | rfl | (simp [errW_none, errW_some] <;> rfl) | (simp [*, errW_none, errW_some] <;> rfl), by repeat (first | (with_reducible first | exact HB.out | apply below_alloc | apply pw_below_drewN | apply below_drew1 | refine below_set ?_ GE208.out | refine below_set ?_ GE209.out) | exact HB.out)⟩
                 ·
                  rw [if_neg c104] at H
                  exact absurd H (by simp)
                ·
                 rw [if_neg c103] at H
                 exact absurd H (by simp)
               ·
                rw [if_neg c102] at H
                exact absurd H (by simp)
             ·
              rw [if_neg c64] at H
              have c64b0 : decide (x102_3 < (l0.length : Int)) = false := decide_eq_false c64
              clear c64
              obtain rfl := Option.some.inj H
              go_wp2
              go_ret
              exact ⟨by first | rfl | (simp [errW_none, errW_some] <;> rfl) | (simp [*, errW_none, errW_some] <;> rfl), by repeat (first | (with_reducible first | exact HB.out | apply below_alloc | apply pw_below_drewN | apply below_drew1 | refine below_set ?_ GE208.out | refine below_set ?_ GE209.out) | exact HB.out)⟩
    ·
     rw [if_neg c12] at H
     exact absurd H (by simp)
   ·
    rw [if_neg c11] at H
    exact absurd H (by simp)
  ·
   rw [if_neg c10] at H
   exact absurd H (by simp)
 ·
  rw [if_neg c9] at H
  exact absurd H (by simp)
end Go.Proofs.Ytcgbfkplhlngjaa.PA
