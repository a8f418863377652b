/- What slotmeshlaw17_MediumJams (function 6) computes, as a Lean function, and that its call comes to just that; made by a program of this session in the manner of the print. -/
import Derived.Test.YtcgbfkplhlngjaaT0
import Derived.Test.YtcgbfkplhlngjaaCat
import Derived.Test.YtcgbfkplhlngjaaF28
import Derived.Test.YtcgbfkplhlngjaaHd17
import Derived.Test.YtcgbfkplhlngjaaJam
namespace Go.Proofs.Ytcgbfkplhlngjaa.PA
open Go.RowKit Go.Proofs.YtcgbfkplhlngjaaW.PrintWords Go.Proofs.YtcgbfkplhlngjaaW.PrintLast Go.Proofs.YtcgbfkplhlngjaaW.PrintMore
attribute [local go_sem] max2_int min2_int max_two min_two max_three min_three max_four min_four   -- for this text's walks alone
set_option linter.unusedVariables false
set_option linter.unusedSimpArgs false

set_option hygiene false in
local macro "pz0_ " i:term:max n:term:max l:term:max : tactic => `(tactic| (refine pure_ (i := $i) (N := some $n) (v := ?_) (a' := ?_) $l rfl rfl (any_of HT_.out (by kernel_rfl)) (fun _ _ _ h => h) (Or.inl ⟨by rfl, ?_⟩) ?_ ?_; rotate_left; · (intro w'; go_simp; with_reducible rfl)))
set_option hygiene false in
local macro "pz1_ " i:term:max n:term:max l:term:max : tactic => `(tactic| (refine pure_ (i := $i) (N := some $n) (v := undef) (a' := ?_) $l rfl rfl (any_of HT_.out (by kernel_rfl)) (fun _ _ _ h => h) (Or.inr ⟨by rfl, rfl⟩) ?_ ?_; rotate_left; · (simp only [Act.put, List.setIfInBounds_toArray, List.set_cons_zero, List.set_cons_succ, i64_w, i32_w]; rfl)))
set_option hygiene false in
local macro "pz2_ " i:term:max n:term:max l:term:max : tactic => `(tactic| (refine take_ (i := $i) (N := some $n) (v := ?_) (a' := ?_) $l rfl rfl (take_ofW HT_.out HW_.out (by kernel_rfl)) (fun _ _ _ h => h) (Or.inl ⟨by rfl, ?_⟩) hHeld ?_ ?_; rotate_left; · (rintro w' ⟨s0, s1, s2, s3, s4, s5, s6, s7, s8, s9, s10, s11⟩; go_simp; with_reducible rfl)))
set_option hygiene false in
local macro "pz3_ " i:term:max n:term:max l:term:max : tactic => `(tactic| (refine take_ (i := $i) (N := some $n) (v := ?_) (a' := ?_) $l rfl rfl (take_ofW HT_.out HW_.out (by kernel_rfl)) (fun _ _ _ h => h) (Or.inl ⟨by rfl, ?_⟩) hHeld ?_ ?_; rotate_left; · (rintro w' ⟨s0, s1⟩; go_simp; with_reducible rfl)))
set_option hygiene false in
local macro "hb0_" : tactic => `(tactic| (repeat (first | (with_reducible first | exact HB.out | apply below_alloc | apply pw_below_drewN | apply below_drew1 | refine below_set ?_ GE233.out) | exact HB.out)))
set_option hygiene false in
local macro "hb1_" : tactic => `(tactic| (repeat (first | (with_reducible first | exact HB.out | apply below_alloc | apply pw_below_drewN | apply below_drew1 | refine below_set ?_ GE233.out | refine below_set ?_ GE257.out) | exact HB.out)))
local macro "kr_" : tactic => `(tactic| (with_reducible repeat (first | apply Kd.R_alloc | apply Kd.R_drewN | apply Kd.R_drew)))
local macro "bk_" : tactic => `(tactic| (with_reducible repeat (first | refine blk_drewN ?_ _ | refine blk_drew ?_ | refine blk_alloc ?_ _)))
/-! ### slotmeshlaw17_MediumJams: function 6 -/
mutual
def slotmeshlaw17_MediumJams.j0 : Nat → List (S50) → List (S25) → Int → Bool → List Int → List Int → Bool → Int → Int → Int → Int → Int → Option (Bool)
 | 0, _, _, _, _, _, _, _, _, _, _, _, _ => none
 | k + 1, x0, x1, x4, x13, x14, x16, x72, x234000, x234001, x234002, x234003, x234004 => if x72 = true then (some false) else (slotmeshlaw17_MediumJams.l0 k x1 x4 x13 x14 x16 x0 (x0.length : Int) 0 x234000 x234001 x234002 x234003 x234004)
def slotmeshlaw17_MediumJams.l0 : Nat → List (S25) → Int → Bool → List Int → List Int → List (S50) → Int → Int → Int → Int → Int → Int → Int → Option (Bool)
 | 0, _, _, _, _, _, _, _, _, _, _, _, _, _ => none
 | k + 1, x1, x4, x13, x14, x16, x73, x74, x75, x234000, x234001, x234002, x234003, x234004 => if x75 < x74 then (if 0 ≤ x75 then (if x75 < (x73.length : Int) then (if ((rd_T50 x73 x75).f0) = 1 then (if x75 < (x1.length : Int) then ((plane_Jammed.f (([(⟨(⟨x234000, x234001⟩ : S25), x234002, x234003, x234004⟩ : S42)] : List (S42))) ((rd_T25 x1 x75).f0) ((rd_T25 x1 x75).f1) ((rd_T50 x73 x75).f1) x4).bind fun t262 => (if t262 = true then (if x75 < (x16.length : Int) then (if (rd x16 x75) = (-2) then (slotmeshlaw17_MediumJams.l0 k x1 x4 x13 x14 x16 x73 x74 (wrap64 (x75 + 1)) x234000 x234001 x234002 x234003 x234004) else (some false)) else (none)) else (if x75 < (x14.length : Int) then (if x75 < (x16.length : Int) then (if (rd x14 x75) = (rd x16 x75) then (slotmeshlaw17_MediumJams.l0 k x1 x4 x13 x14 x16 x73 x74 (wrap64 (x75 + 1)) x234000 x234001 x234002 x234003 x234004) else (some false)) else (none)) else (none)))) else (none)) else (if x75 < (x14.length : Int) then (if x75 < (x16.length : Int) then (if (rd x14 x75) = (rd x16 x75) then (slotmeshlaw17_MediumJams.l0 k x1 x4 x13 x14 x16 x73 x74 (wrap64 (x75 + 1)) x234000 x234001 x234002 x234003 x234004) else (some false)) else (none)) else (none))) else (none)) else (none)) else (some x13)
end
def slotmeshlaw17_MediumJams.f (k : Nat) (l0 : List (S50)) (l1 : List (S25)) (a2 : Int) (l3 : List (S42)) (a4 : Int) (a5_0 : Int) (a5_1 : Int) (a5_2 : Int) (a5_3 : Int) (a5_4 : Int) : Option (Bool) := (slotmeshlaw17_head.f).bind fun t234 => ((slotmeshlaw17_valid.f k l0 l1 a2 l3 a4).bind fun t235 => (if t235 = true then ((medium_Catch.f k l0 l1 a2 l3 a4).bind fun bt236 => ((some (([] : List (S42)) : List (S42))).bind fun y240 => (if y240.length + l3.length < 3518437208883 then ((some (y240 ++ l3 : List (S42))).bind fun y243 => ((some (([(⟨(⟨a5_0, a5_1⟩ : S25), a5_2, a5_3, a5_4⟩ : S42)] : List (S42)) : List (S42))).bind fun y246 => (if y243.length + y246.length < 3518437208883 then ((medium_Catch.f k l0 l1 a2 (y243 ++ y246) a4).bind fun bt252 => (if bt236.2 = 0 then (if bt252.2 = 0 then (if (bt236.1.length : Int) = (l0.length : Int) then (slotmeshlaw17_MediumJams.j0 k l0 l1 a4 t234 bt236.1 bt252.1 ((bt252.1.length : Int) != (bt236.1.length : Int)) a5_0 a5_1 a5_2 a5_3 a5_4) else (slotmeshlaw17_MediumJams.j0 k l0 l1 a4 t234 bt236.1 bt252.1 true a5_0 a5_1 a5_2 a5_3 a5_4)) else (slotmeshlaw17_MediumJams.j0 k l0 l1 a4 t234 bt236.1 bt252.1 true a5_0 a5_1 a5_2 a5_3 a5_4)) else (slotmeshlaw17_MediumJams.j0 k l0 l1 a4 t234 bt236.1 bt252.1 true a5_0 a5_1 a5_2 a5_3 a5_4))) else (none)))) else (none)))) else (some t234)))
theorem slotmeshlaw17_MediumJams.mono_l : ∀ k, (∀ y0 y1 y2 y3 y4 y5 y6 y7 y8 y9 y10 y11, LeO (slotmeshlaw17_MediumJams.j0 k y0 y1 y2 y3 y4 y5 y6 y7 y8 y9 y10 y11) (slotmeshlaw17_MediumJams.j0 (k + 1) y0 y1 y2 y3 y4 y5 y6 y7 y8 y9 y10 y11)) ∧ (∀ y0 y1 y2 y3 y4 y5 y6 y7 y8 y9 y10 y11 y12, LeO (slotmeshlaw17_MediumJams.l0 k y0 y1 y2 y3 y4 y5 y6 y7 y8 y9 y10 y11 y12) (slotmeshlaw17_MediumJams.l0 (k + 1) y0 y1 y2 y3 y4 y5 y6 y7 y8 y9 y10 y11 y12))
 | 0 => ⟨fun _ _ _ _ _ _ _ _ _ _ _ _ r h => by simp [slotmeshlaw17_MediumJams.j0] at h, fun _ _ _ _ _ _ _ _ _ _ _ _ _ r h => by simp [slotmeshlaw17_MediumJams.l0] at h⟩
 | k + 1 => by
  obtain ⟨ih0, ih1⟩ := slotmeshlaw17_MediumJams.mono_l k
  refine ⟨?_, ?_⟩
  ·
   intro y0 y1 y2 y3 y4 y5 y6 y7 y8 y9 y10 y11
   unfold slotmeshlaw17_MediumJams.j0
   repeat' first
   | (with_reducible exact ih0 _ _ _ _ _ _ _ _ _ _ _ _)
   | (with_reducible exact ih1 _ _ _ _ _ _ _ _ _ _ _ _ _)
   | (with_reducible exact medium_Catch.mono _ _ _ _ _ _)
   | (with_reducible exact slotmeshlaw17_valid.mono _ _ _ _ _ _)
   | (with_reducible exact LeO.refl _)
   | (with_reducible exact LeO.none _)
   | (with_reducible refine LeO.ite ?_ ?_)
   | (with_reducible refine LeO.bind ?_ (fun _ => ?_))
   | exact ih0 _ _ _ _ _ _ _ _ _ _ _ _
   | exact ih1 _ _ _ _ _ _ _ _ _ _ _ _ _
   | exact medium_Catch.mono _ _ _ _ _ _
   | exact slotmeshlaw17_valid.mono _ _ _ _ _ _
   | exact LeO.none _
   | refine LeO.ite ?_ ?_
   | refine LeO.bind ?_ (fun _ => ?_)
  ·
   intro y0 y1 y2 y3 y4 y5 y6 y7 y8 y9 y10 y11 y12
   unfold slotmeshlaw17_MediumJams.l0
   repeat' first
   | (with_reducible exact ih0 _ _ _ _ _ _ _ _ _ _ _ _)
   | (with_reducible exact ih1 _ _ _ _ _ _ _ _ _ _ _ _ _)
   | (with_reducible exact medium_Catch.mono _ _ _ _ _ _)
   | (with_reducible exact slotmeshlaw17_valid.mono _ _ _ _ _ _)
   | (with_reducible exact LeO.refl _)
   | (with_reducible exact LeO.none _)
   | (with_reducible refine LeO.ite ?_ ?_)
   | (with_reducible refine LeO.bind ?_ (fun _ => ?_))
   | exact ih0 _ _ _ _ _ _ _ _ _ _ _ _
   | exact ih1 _ _ _ _ _ _ _ _ _ _ _ _ _
   | exact medium_Catch.mono _ _ _ _ _ _
   | exact slotmeshlaw17_valid.mono _ _ _ _ _ _
   | exact LeO.none _
   | refine LeO.ite ?_ ?_
   | refine LeO.bind ?_ (fun _ => ?_)
theorem slotmeshlaw17_MediumJams.mono : ∀ a0 a1 a2 a3 a4 a5 a6 a7 a8 a9 k, LeO (slotmeshlaw17_MediumJams.f k a0 a1 a2 a3 a4 a5 a6 a7 a8 a9) (slotmeshlaw17_MediumJams.f (k + 1) a0 a1 a2 a3 a4 a5 a6 a7 a8 a9) := by
 intro a0 a1 a2 a3 a4 a5 a6 a7 a8 a9 k
 obtain ⟨ih0, ih1⟩ := slotmeshlaw17_MediumJams.mono_l k
 unfold slotmeshlaw17_MediumJams.f
 repeat' first
   | (with_reducible exact ih0 _ _ _ _ _ _ _ _ _ _ _ _)
   | (with_reducible exact ih1 _ _ _ _ _ _ _ _ _ _ _ _ _)
   | (with_reducible exact medium_Catch.mono _ _ _ _ _ _)
   | (with_reducible exact slotmeshlaw17_valid.mono _ _ _ _ _ _)
   | (with_reducible exact LeO.refl _)
   | (with_reducible exact LeO.none _)
   | (with_reducible refine LeO.ite ?_ ?_)
   | (with_reducible refine LeO.bind ?_ (fun _ => ?_))
   | exact ih0 _ _ _ _ _ _ _ _ _ _ _ _
   | exact ih1 _ _ _ _ _ _ _ _ _ _ _ _ _
   | exact medium_Catch.mono _ _ _ _ _ _
   | exact slotmeshlaw17_valid.mono _ _ _ _ _ _
   | exact LeO.none _
   | refine LeO.ite ?_ ?_
   | refine LeO.bind ?_ (fun _ => ?_)
def slotmeshlaw17_MediumJams.T5 : Bool × List (List Nat × List Nat) := (true, [([], []), ([], []), ([], []), ([], []), ([], []), ([3, 4], [3, 4]), ([], []), ([6], [6]), ([5, 7, 5], [5, 7]), ([], []), ([0, 1, 2, 8, 9, 8], [0, 1, 2, 8, 9]), ([10], [10]), ([11], [11]), ([11], [11]), ([12, 10, 0, 1, 2, 3, 4, 5, 6, 7, 8, 9, 10, 11, 12], [12]), ([13, 14, 0, 1, 2, 3, 4, 5, 6, 7, 8, 9, 10, 11, 12, 13, 14], [13])])
def slotmeshlaw17_MediumJams.B5 : List Nat := [0, 0, 0, 0, 0, 24, 0, 64, 248, 0, 1023, 2047, 4095, 4095, 8191, 32767]
theorem slotmeshlaw17_MediumJams.tab5 : rtab .any (opsOf Try.f6 5) = slotmeshlaw17_MediumJams.T5 := by kernel_rfl
theorem slotmeshlaw17_MediumJams.bits5 : waitsOk slotmeshlaw17_MediumJams.T5.2 slotmeshlaw17_MediumJams.B5 = true := by kernel_rfl
def slotmeshlaw17_MediumJams.T11 : Bool × List (List Nat × List Nat) := (true, [([], []), ([0], [0]), ([1], [1]), ([2], [2]), ([3], [3]), ([4, 3], [3, 4]), ([3], [3]), ([3], [3]), ([6, 7, 3], [3, 6, 7]), ([8, 3], [3, 8]), ([3], [3]), ([10, 3], [3, 10]), ([3], [3]), ([5, 9, 11, 12, 3, 3], [3, 5, 9, 11, 12]), ([3, 13], [3, 13]), ([14, 13, 0, 1, 2, 3, 4, 5, 6, 7, 8, 9, 10, 11, 12, 13, 14], [14])])
def slotmeshlaw17_MediumJams.B11 : List Nat := [0, 1, 3, 7, 15, 31, 15, 15, 207, 463, 15, 1039, 15, 8191, 16383, 32767]
theorem slotmeshlaw17_MediumJams.tab11 : rtab .any (opsOf Try.f6 11) = slotmeshlaw17_MediumJams.T11 := by kernel_rfl
theorem slotmeshlaw17_MediumJams.bits11 : waitsOk slotmeshlaw17_MediumJams.T11.2 slotmeshlaw17_MediumJams.B11 = true := by kernel_rfl
def slotmeshlaw17_MediumJams.T12 : Bool × List (List Nat × List Nat) := (true, [([], []), ([0], [0]), ([1], [1]), ([1], [1]), ([2, 3, 1], [1, 2, 3]), ([4, 1], [1, 4]), ([5, 1], [1, 5]), ([1, 6], [1, 6]), ([7, 1], [7]), ([8], [8]), ([9, 8], [8, 9]), ([10, 8, 8], [8, 10]), ([11], [11]), ([11], [11]), ([12, 13, 11], [11, 12, 13]), ([14, 11], [11, 14]), ([11], [11]), ([11], [11]), ([16, 17, 11], [11, 16, 17]), ([18, 11], [11, 18]), ([15, 19, 11], [11, 15, 19]), ([11, 20, 8], [8, 11, 20]), ([8, 21], [8, 21])])
def slotmeshlaw17_MediumJams.B12 : List Nat := [0, 1, 3, 3, 15, 31, 63, 127, 255, 511, 1023, 2047, 4095, 4095, 16383, 32767, 4095, 4095, 200703, 462847, 1048575, 2097151, 4194303]
theorem slotmeshlaw17_MediumJams.tab12 : rtab .any (opsOf Try.f6 12) = slotmeshlaw17_MediumJams.T12 := by kernel_rfl
theorem slotmeshlaw17_MediumJams.bits12 : waitsOk slotmeshlaw17_MediumJams.T12.2 slotmeshlaw17_MediumJams.B12 = true := by kernel_rfl
set_option maxHeartbeats 8000000 in
set_option maxRecDepth 100000 in
theorem slotmeshlaw17_MediumJams.calls (k : Nat) (A0 : Option Addr) (c0 : Nat) (l0 : List (S50)) (A1 : Option Addr) (c1 : Nat) (l1 : List (S25)) (a2 : Int) (A3 : Option Addr) (c3 : Nat) (l3 : List (S42)) (a4 : Int) (a5_0 : Int) (a5_1 : Int) (a5_2 : Int) (a5_3 : Int) (a5_4 : Int) (r : Bool) (w : World) (hr0 : Kd.C k50 w A0 l0.length l0) (hc0 : l0.length ≤ c0) (hr1 : Kd.C k25 w A1 l1.length l1) (hc1 : l1.length ≤ c1) (hr3 : Kd.C k42 w A3 l3.length l3) (hc3 : l3.length ≤ c3) (h : slotmeshlaw17_MediumJams.f k l0 l1 a2 l3 a4 a5_0 a5_1 a5_2 a5_3 a5_4 = some r) (HRT0 : r = true) :
  Calls Try.prog 6 #[.slice A0 l0.length c0, .slice A1 l1.length c1, .int .i64 a2, .slice A3 l3.length c3, .int .i64 a4, .agg #[.int .i64 a5_0, .int .i64 a5_1, .int .i64 a5_2, .int .i64 a5_3, .int .i64 a5_4]] w fun e w' => e = .returned (.bool r) ∧ Below w.heap.size w w' := by
 have HRT := Aside0.mk HRT0
 clear HRT0
 have hu42 := Try.underlying42
 have hu50 := Try.underlying50
 have hu25 := Try.underlying25
 have HR0 := Aside0.mk hr0
 have HC0 := Aside0.mk hc0
 clear hr0 hc0
 have HR1 := Aside0.mk hr1
 have HC1 := Aside0.mk hc1
 clear hr1 hc1
 have HR3 := Aside0.mk hr3
 have HC3 := Aside0.mk hc3
 clear hr3 hc3
 have HB := Aside0.mk (Below.refl w.heap.size w)
 have H : ((slotmeshlaw17_head.f).bind fun t234 => ((slotmeshlaw17_valid.f k l0 l1 a2 l3 a4).bind fun t235 => (if t235 = true then ((medium_Catch.f k l0 l1 a2 l3 a4).bind fun bt236 => ((some (([] : List (S42)) : List (S42))).bind fun y240 => (if y240.length + l3.length < 3518437208883 then ((some (y240 ++ l3 : List (S42))).bind fun y243 => ((some (([(⟨(⟨a5_0, a5_1⟩ : S25), a5_2, a5_3, a5_4⟩ : S42)] : List (S42)) : List (S42))).bind fun y246 => (if y243.length + y246.length < 3518437208883 then ((medium_Catch.f k l0 l1 a2 (y243 ++ y246) a4).bind fun bt252 => (if bt236.2 = 0 then (if bt252.2 = 0 then (if (bt236.1.length : Int) = (l0.length : Int) then (slotmeshlaw17_MediumJams.j0 k l0 l1 a4 t234 bt236.1 bt252.1 ((bt252.1.length : Int) != (bt236.1.length : Int)) a5_0 a5_1 a5_2 a5_3 a5_4) else (slotmeshlaw17_MediumJams.j0 k l0 l1 a4 t234 bt236.1 bt252.1 true a5_0 a5_1 a5_2 a5_3 a5_4)) else (slotmeshlaw17_MediumJams.j0 k l0 l1 a4 t234 bt236.1 bt252.1 true a5_0 a5_1 a5_2 a5_3 a5_4)) else (slotmeshlaw17_MediumJams.j0 k l0 l1 a4 t234 bt236.1 bt252.1 true a5_0 a5_1 a5_2 a5_3 a5_4))) else (none)))) else (none)))) else (some t234)))) = some r := h
 clear h
 replace H := Option.bind_eq_some_iff.mp H
 obtain ⟨t234, A70, H⟩ := H
 replace H : ((slotmeshlaw17_valid.f k l0 l1 a2 l3 a4).bind fun t235 => (if t235 = true then ((medium_Catch.f k l0 l1 a2 l3 a4).bind fun bt236 => ((some (([] : List (S42)) : List (S42))).bind fun y240 => (if y240.length + l3.length < 3518437208883 then ((some (y240 ++ l3 : List (S42))).bind fun y243 => ((some (([(⟨(⟨a5_0, a5_1⟩ : S25), a5_2, a5_3, a5_4⟩ : S42)] : List (S42)) : List (S42))).bind fun y246 => (if y243.length + y246.length < 3518437208883 then ((medium_Catch.f k l0 l1 a2 (y243 ++ y246) a4).bind fun bt252 => (if bt236.2 = 0 then (if bt252.2 = 0 then (if (bt236.1.length : Int) = (l0.length : Int) then (slotmeshlaw17_MediumJams.j0 k l0 l1 a4 t234 bt236.1 bt252.1 ((bt252.1.length : Int) != (bt236.1.length : Int)) a5_0 a5_1 a5_2 a5_3 a5_4) else (slotmeshlaw17_MediumJams.j0 k l0 l1 a4 t234 bt236.1 bt252.1 true a5_0 a5_1 a5_2 a5_3 a5_4)) else (slotmeshlaw17_MediumJams.j0 k l0 l1 a4 t234 bt236.1 bt252.1 true a5_0 a5_1 a5_2 a5_3 a5_4)) else (slotmeshlaw17_MediumJams.j0 k l0 l1 a4 t234 bt236.1 bt252.1 true a5_0 a5_1 a5_2 a5_3 a5_4))) else (none)))) else (none)))) else (some t234))) = some r := H
 have A7 := Aside0.mk A70
 clear A70
 replace H := Option.bind_eq_some_iff.mp H
 obtain ⟨t235, A80, H⟩ := H
 replace H : (if t235 = true then ((medium_Catch.f k l0 l1 a2 l3 a4).bind fun bt236 => ((some (([] : List (S42)) : List (S42))).bind fun y240 => (if y240.length + l3.length < 3518437208883 then ((some (y240 ++ l3 : List (S42))).bind fun y243 => ((some (([(⟨(⟨a5_0, a5_1⟩ : S25), a5_2, a5_3, a5_4⟩ : S42)] : List (S42)) : List (S42))).bind fun y246 => (if y243.length + y246.length < 3518437208883 then ((medium_Catch.f k l0 l1 a2 (y243 ++ y246) a4).bind fun bt252 => (if bt236.2 = 0 then (if bt252.2 = 0 then (if (bt236.1.length : Int) = (l0.length : Int) then (slotmeshlaw17_MediumJams.j0 k l0 l1 a4 t234 bt236.1 bt252.1 ((bt252.1.length : Int) != (bt236.1.length : Int)) a5_0 a5_1 a5_2 a5_3 a5_4) else (slotmeshlaw17_MediumJams.j0 k l0 l1 a4 t234 bt236.1 bt252.1 true a5_0 a5_1 a5_2 a5_3 a5_4)) else (slotmeshlaw17_MediumJams.j0 k l0 l1 a4 t234 bt236.1 bt252.1 true a5_0 a5_1 a5_2 a5_3 a5_4)) else (slotmeshlaw17_MediumJams.j0 k l0 l1 a4 t234 bt236.1 bt252.1 true a5_0 a5_1 a5_2 a5_3 a5_4))) else (none)))) else (none)))) else (some t234)) = some r := H
 have A8 := Aside0.mk A80
 clear A80
 by_cases c9 : t235 = true
 ·
  subst c9
  have H1 : ((medium_Catch.f k l0 l1 a2 l3 a4).bind fun bt236 => ((some (([] : List (S42)) : List (S42))).bind fun y240 => (if y240.length + l3.length < 3518437208883 then ((some (y240 ++ l3 : List (S42))).bind fun y243 => ((some (([(⟨(⟨a5_0, a5_1⟩ : S25), a5_2, a5_3, a5_4⟩ : S42)] : List (S42)) : List (S42))).bind fun y246 => (if y243.length + y246.length < 3518437208883 then ((medium_Catch.f k l0 l1 a2 (y243 ++ y246) a4).bind fun bt252 => (if bt236.2 = 0 then (if bt252.2 = 0 then (if (bt236.1.length : Int) = (l0.length : Int) then (slotmeshlaw17_MediumJams.j0 k l0 l1 a4 t234 bt236.1 bt252.1 ((bt252.1.length : Int) != (bt236.1.length : Int)) a5_0 a5_1 a5_2 a5_3 a5_4) else (slotmeshlaw17_MediumJams.j0 k l0 l1 a4 t234 bt236.1 bt252.1 true a5_0 a5_1 a5_2 a5_3 a5_4)) else (slotmeshlaw17_MediumJams.j0 k l0 l1 a4 t234 bt236.1 bt252.1 true a5_0 a5_1 a5_2 a5_3 a5_4)) else (slotmeshlaw17_MediumJams.j0 k l0 l1 a4 t234 bt236.1 bt252.1 true a5_0 a5_1 a5_2 a5_3 a5_4))) else (none)))) else (none)))) = some r := by rw [if_pos rfl] at H; exact H
  clear H
  have H := H1
  clear H1
  replace H := Option.bind_eq_some_iff.mp H
  obtain ⟨⟨t236, t237⟩, A100, H⟩ := H
  replace H : ((some (([] : List (S42)) : List (S42))).bind fun y240 => (if y240.length + l3.length < 3518437208883 then ((some (y240 ++ l3 : List (S42))).bind fun y243 => ((some (([(⟨(⟨a5_0, a5_1⟩ : S25), a5_2, a5_3, a5_4⟩ : S42)] : List (S42)) : List (S42))).bind fun y246 => (if y243.length + y246.length < 3518437208883 then ((medium_Catch.f k l0 l1 a2 (y243 ++ y246) a4).bind fun bt252 => (if t237 = 0 then (if bt252.2 = 0 then (if (t236.length : Int) = (l0.length : Int) then (slotmeshlaw17_MediumJams.j0 k l0 l1 a4 t234 t236 bt252.1 ((bt252.1.length : Int) != (t236.length : Int)) a5_0 a5_1 a5_2 a5_3 a5_4) else (slotmeshlaw17_MediumJams.j0 k l0 l1 a4 t234 t236 bt252.1 true a5_0 a5_1 a5_2 a5_3 a5_4)) else (slotmeshlaw17_MediumJams.j0 k l0 l1 a4 t234 t236 bt252.1 true a5_0 a5_1 a5_2 a5_3 a5_4)) else (slotmeshlaw17_MediumJams.j0 k l0 l1 a4 t234 t236 bt252.1 true a5_0 a5_1 a5_2 a5_3 a5_4))) else (none)))) else (none))) = some r := H
  have A10 := Aside0.mk A100
  clear A100
  obtain ⟨y240, hy240⟩ : ∃ y_ : List (S42), y_ = (([] : List (S42))) := ⟨_, rfl⟩
  replace H : (if y240.length + l3.length < 3518437208883 then ((some (y240 ++ l3 : List (S42))).bind fun y243 => ((some (([(⟨(⟨a5_0, a5_1⟩ : S25), a5_2, a5_3, a5_4⟩ : S42)] : List (S42)) : List (S42))).bind fun y246 => (if y243.length + y246.length < 3518437208883 then ((medium_Catch.f k l0 l1 a2 (y243 ++ y246) a4).bind fun bt252 => (if t237 = 0 then (if bt252.2 = 0 then (if (t236.length : Int) = (l0.length : Int) then (slotmeshlaw17_MediumJams.j0 k l0 l1 a4 t234 t236 bt252.1 ((bt252.1.length : Int) != (t236.length : Int)) a5_0 a5_1 a5_2 a5_3 a5_4) else (slotmeshlaw17_MediumJams.j0 k l0 l1 a4 t234 t236 bt252.1 true a5_0 a5_1 a5_2 a5_3 a5_4)) else (slotmeshlaw17_MediumJams.j0 k l0 l1 a4 t234 t236 bt252.1 true a5_0 a5_1 a5_2 a5_3 a5_4)) else (slotmeshlaw17_MediumJams.j0 k l0 l1 a4 t234 t236 bt252.1 true a5_0 a5_1 a5_2 a5_3 a5_4))) else (none)))) else (none)) = some r := by first | (rw [hy240]; with_reducible exact H) | (have H2_ := (Option.bind_some _ _).symm.trans H; rw [hy240]; with_reducible exact H2_) | (have H2_ := (Option.bind_some _ _).symm.trans H; with_reducible exact H2_) | with_reducible exact H | (rw [hy240]; exact H) | exact H
  have Ny240 := Aside0.mk hy240
  clear hy240
  by_cases c11 : y240.length + l3.length < 3518437208883
  ·
   rw [if_pos c11] at H
   have LMc11 := Aside0.mk c11
   clear c11
   obtain ⟨y243, hy243⟩ : ∃ y_ : List (S42), y_ = (y240 ++ l3) := ⟨_, rfl⟩
   replace H : ((some (([(⟨(⟨a5_0, a5_1⟩ : S25), a5_2, a5_3, a5_4⟩ : S42)] : List (S42)) : List (S42))).bind fun y246 => (if y243.length + y246.length < 3518437208883 then ((medium_Catch.f k l0 l1 a2 (y243 ++ y246) a4).bind fun bt252 => (if t237 = 0 then (if bt252.2 = 0 then (if (t236.length : Int) = (l0.length : Int) then (slotmeshlaw17_MediumJams.j0 k l0 l1 a4 t234 t236 bt252.1 ((bt252.1.length : Int) != (t236.length : Int)) a5_0 a5_1 a5_2 a5_3 a5_4) else (slotmeshlaw17_MediumJams.j0 k l0 l1 a4 t234 t236 bt252.1 true a5_0 a5_1 a5_2 a5_3 a5_4)) else (slotmeshlaw17_MediumJams.j0 k l0 l1 a4 t234 t236 bt252.1 true a5_0 a5_1 a5_2 a5_3 a5_4)) else (slotmeshlaw17_MediumJams.j0 k l0 l1 a4 t234 t236 bt252.1 true a5_0 a5_1 a5_2 a5_3 a5_4))) else (none))) = some r := by first | (rw [hy243]; with_reducible exact H) | (have H2_ := (Option.bind_some _ _).symm.trans H; rw [hy243]; with_reducible exact H2_) | (have H2_ := (Option.bind_some _ _).symm.trans H; with_reducible exact H2_) | with_reducible exact H | (rw [hy243]; exact H) | exact H
   have Ny243 := Aside0.mk hy243
   clear hy243
   obtain ⟨y246, hy246⟩ : ∃ y_ : List (S42), y_ = (([(⟨(⟨a5_0, a5_1⟩ : S25), a5_2, a5_3, a5_4⟩ : S42)] : List (S42))) := ⟨_, rfl⟩
   replace H : (if y243.length + y246.length < 3518437208883 then ((medium_Catch.f k l0 l1 a2 (y243 ++ y246) a4).bind fun bt252 => (if t237 = 0 then (if bt252.2 = 0 then (if (t236.length : Int) = (l0.length : Int) then (slotmeshlaw17_MediumJams.j0 k l0 l1 a4 t234 t236 bt252.1 ((bt252.1.length : Int) != (t236.length : Int)) a5_0 a5_1 a5_2 a5_3 a5_4) else (slotmeshlaw17_MediumJams.j0 k l0 l1 a4 t234 t236 bt252.1 true a5_0 a5_1 a5_2 a5_3 a5_4)) else (slotmeshlaw17_MediumJams.j0 k l0 l1 a4 t234 t236 bt252.1 true a5_0 a5_1 a5_2 a5_3 a5_4)) else (slotmeshlaw17_MediumJams.j0 k l0 l1 a4 t234 t236 bt252.1 true a5_0 a5_1 a5_2 a5_3 a5_4))) else (none)) = some r := by first | (rw [hy246]; with_reducible exact H) | (have H2_ := (Option.bind_some _ _).symm.trans H; rw [hy246]; with_reducible exact H2_) | (have H2_ := (Option.bind_some _ _).symm.trans H; with_reducible exact H2_) | with_reducible exact H | (rw [hy246]; exact H) | exact H
   have Ny246 := Aside0.mk hy246
   clear hy246
   by_cases c12 : y243.length + y246.length < 3518437208883
   ·
    rw [if_pos c12] at H
    have LMc12 := Aside0.mk c12
    clear c12
    obtain ⟨y249, hy249⟩ : ∃ y_ : List (S42), y_ = (y243 ++ y246) := ⟨_, rfl⟩
    replace H : ((medium_Catch.f k l0 l1 a2 y249 a4).bind fun bt252 => (if t237 = 0 then (if bt252.2 = 0 then (if (t236.length : Int) = (l0.length : Int) then (slotmeshlaw17_MediumJams.j0 k l0 l1 a4 t234 t236 bt252.1 ((bt252.1.length : Int) != (t236.length : Int)) a5_0 a5_1 a5_2 a5_3 a5_4) else (slotmeshlaw17_MediumJams.j0 k l0 l1 a4 t234 t236 bt252.1 true a5_0 a5_1 a5_2 a5_3 a5_4)) else (slotmeshlaw17_MediumJams.j0 k l0 l1 a4 t234 t236 bt252.1 true a5_0 a5_1 a5_2 a5_3 a5_4)) else (slotmeshlaw17_MediumJams.j0 k l0 l1 a4 t234 t236 bt252.1 true a5_0 a5_1 a5_2 a5_3 a5_4))) = some r := by first | (rw [hy249]; with_reducible exact H) | (have H2_ := (Option.bind_some _ _).symm.trans H; rw [hy249]; with_reducible exact H2_) | (have H2_ := (Option.bind_some _ _).symm.trans H; with_reducible exact H2_) | with_reducible exact H | (rw [hy249]; exact H) | exact H
    have Ny249 := Aside0.mk hy249
    clear hy249
    replace H := Option.bind_eq_some_iff.mp H
    obtain ⟨⟨t252, t253⟩, A130, H⟩ := H
    replace H : (if t237 = 0 then (if t253 = 0 then (if (t236.length : Int) = (l0.length : Int) then (slotmeshlaw17_MediumJams.j0 k l0 l1 a4 t234 t236 t252 ((t252.length : Int) != (t236.length : Int)) a5_0 a5_1 a5_2 a5_3 a5_4) else (slotmeshlaw17_MediumJams.j0 k l0 l1 a4 t234 t236 t252 true a5_0 a5_1 a5_2 a5_3 a5_4)) else (slotmeshlaw17_MediumJams.j0 k l0 l1 a4 t234 t236 t252 true a5_0 a5_1 a5_2 a5_3 a5_4)) else (slotmeshlaw17_MediumJams.j0 k l0 l1 a4 t234 t236 t252 true a5_0 a5_1 a5_2 a5_3 a5_4)) = some r := H
    have A13 := Aside0.mk A130
    clear A130
    have HC14 := Aside0.mk H
    clear H
    go_enter Try.func6, Try.ntmps6
    try go_wp2_with (first | ((with_reducible refine gate_dst (N := 11) rfl ?_); (try (refine gate_guard (by rfl) ?_; dsimp only)); refine box_event ?hg (N := 11) ?hd (cs := #[.int .i64 a5_0, .int .i64 a5_1, .int .i64 a5_2, .int .i64 a5_3, .int .i64 a5_4]) (t := 42) ?hr ?_; (case hd => rfl); (case hg => rfl); (case hr => first | (go_simp; done) | (go_simp; rfl)); intro gb233 hg w15 hbox hb; have n0_ := Aside0.mk (below_step (by repeat (first | (with_reducible first | exact HB.out | apply below_alloc | apply pw_below_drewN | apply below_drew1) | exact HB.out)) hb); have n1_ := Aside0.mk (hbox); have n2_ := Aside0.mk ((by rw [hg]; exact (below_size (by repeat (first | (with_reducible first | exact HB.out | apply below_alloc | apply pw_below_drewN | apply below_drew1) | exact HB.out))) : w.heap.size ≤ gb233)); have n3_ := Aside0.mk ((by rw [hg]; exact (below_size (by repeat (first | (with_reducible first | exact HB.out | apply below_alloc | apply pw_below_drewN | apply below_drew1) | exact HB.out))) : w.heap.size ≤ gb233)); clear HB; have HB := n0_; have BK233 := n1_; have GW233 := n2_; have GE233 := n3_; clear n0_ n1_ n2_ n3_; clear hb hbox hg) | ((with_reducible refine gate_callee (f := 27) rfl ?_); refine goesL_ (some 21) rfl rfl Try.func27 (by kernel_rfl) rfl #[] rfl (by (try simp only [List.map_toArray, List.map_cons, List.map_nil]); first | done | rfl | (simp only [List.length_drop, List.length_take]; rfl)) ?_; (with_reducible refine (slotmeshlaw17_head.calls  t234 _ A7.out).mono ?_); rintro e w16 ⟨rfl, hb⟩; refine ⟨_, rfl, ?_⟩; have n0_ := Aside0.mk (blk_below (g := gb233) (o := .cells #[.int .i64 a5_0, .int .i64 a5_1, .int .i64 a5_2, .int .i64 a5_3, .int .i64 a5_4] 42 (0, 0)) (by bk_; exact BK233.out) hb); have n1_ := Aside0.mk (below_step (by hb0_) hb); clear BK233; clear HB; have BK233 := n0_; have HB := n1_; clear n0_ n1_; (try clear hb); (try clear hb2); (try clear hk); (try clear hi)) | ((with_reducible refine gate_callee (f := 28) rfl ?_); refine goesL_ (some 27) rfl rfl Try.func28 (by kernel_rfl) rfl #[.slice A0 l0.length c0, .slice A1 l1.length c1, .int .i64 a2, .slice A3 l3.length c3, .int .i64 a4] rfl (by (try simp only [List.map_toArray, List.map_cons, List.map_nil]); first | done | rfl | (simp only [List.length_drop, List.length_take]; rfl)) ?_; (with_reducible refine (slotmeshlaw17_valid.calls k _ _ l0 _ _ l1 a2 _ _ l3 a4 true _ ?side1 ?side2 ?side3 ?side4 ?side5 ?side6 A8.out).mono ?_); (case side1 => repeat (first | exact (Kd.C_below HR0.out HB.out) | (with_reducible refine Kd.C_alloc ?_ _) | (with_reducible refine Kd.C_drewN ?_ _) | (with_reducible refine Kd.C_drew ?_))); (case side2 => exact HC0.out); (case side3 => repeat (first | exact (Kd.C_below HR1.out HB.out) | (with_reducible refine Kd.C_alloc ?_ _) | (with_reducible refine Kd.C_drewN ?_ _) | (with_reducible refine Kd.C_drew ?_))); (case side4 => exact HC1.out); (case side5 => repeat (first | exact (Kd.C_below HR3.out HB.out) | (with_reducible refine Kd.C_alloc ?_ _) | (with_reducible refine Kd.C_drewN ?_ _) | (with_reducible refine Kd.C_drew ?_))); (case side6 => exact HC3.out); rintro e w17 ⟨rfl, hb⟩; refine ⟨_, rfl, ?_⟩; have n0_ := Aside0.mk (blk_below (g := gb233) (o := .cells #[.int .i64 a5_0, .int .i64 a5_1, .int .i64 a5_2, .int .i64 a5_3, .int .i64 a5_4] 42 (0, 0)) (by bk_; exact BK233.out) hb); have n1_ := Aside0.mk (below_step (by hb0_) hb); clear BK233; clear HB; have BK233 := n0_; have HB := n1_; clear n0_ n1_; (try clear hb); (try clear hb2); (try clear hk); (try clear hi)) | ((with_reducible refine gate_callee (f := 29) rfl ?_); refine goesL_ (some 36) rfl rfl Try.func29 (by kernel_rfl) rfl #[.slice A0 l0.length c0, .slice A1 l1.length c1, .int .i64 a2, .slice A3 l3.length c3, .int .i64 a4] rfl (by (try simp only [List.map_toArray, List.map_cons, List.map_nil]); first | done | rfl | (simp only [List.length_drop, List.length_take]; rfl)) ?_; (with_reducible refine (medium_Catch.calls k _ _ l0 _ _ l1 a2 _ _ l3 a4 t236 t237 _ ?side1 ?side2 ?side3 ?side4 ?side5 ?side6 A10.out).mono ?_); (case side1 => repeat (first | exact (Kd.C_below HR0.out HB.out) | (with_reducible refine Kd.C_alloc ?_ _) | (with_reducible refine Kd.C_drewN ?_ _) | (with_reducible refine Kd.C_drew ?_))); (case side2 => exact HC0.out); (case side3 => repeat (first | exact (Kd.C_below HR1.out HB.out) | (with_reducible refine Kd.C_alloc ?_ _) | (with_reducible refine Kd.C_drewN ?_ _) | (with_reducible refine Kd.C_drew ?_))); (case side4 => exact HC1.out); (case side5 => repeat (first | exact (Kd.C_below HR3.out HB.out) | (with_reducible refine Kd.C_alloc ?_ _) | (with_reducible refine Kd.C_drewN ?_ _) | (with_reducible refine Kd.C_drew ?_))); (case side6 => exact HC3.out); rintro e w18 ⟨v238, rfl, ho0, hb⟩; refine ⟨_, rfl, ?_⟩; have n0_ := Aside0.mk (Kd.R_lower ho0 (below_size (by hb0_))); have n1_ := Aside0.mk (blk_below (g := gb233) (o := .cells #[.int .i64 a5_0, .int .i64 a5_1, .int .i64 a5_2, .int .i64 a5_3, .int .i64 a5_4] 42 (0, 0)) (by bk_; exact BK233.out) hb); have n2_ := Aside0.mk (below_step (by hb0_) hb); clear BK233; clear HB; have HO239 := n0_; have BK233 := n1_; have HB := n2_; clear n0_ n1_ n2_; (try clear hb); (try clear hb2); (try clear hk); (try clear hi); (try clear ho0)))
    have n0_ := Aside0.mk (Kd.R_drew HO239.out)
    have n1_ := Aside0.mk (blk_drew BK233.out)
    have n2_ := Aside0.mk (below_drew1 HB.out)
    clear HO239
    clear BK233
    clear HB
    have HO239 := n0_
    have BK233 := n1_
    have HB := n2_
    clear n0_ n1_ n2_
    refine start_ (n := 16) (S := fun w' => w'.cell? ⟨gb233, 0, none⟩ = some (.int .i64 a5_0) ∧ w'.cell? ⟨gb233, 1, none⟩ = some (.int .i64 a5_1) ∧ w'.cell? ⟨gb233, 2, none⟩ = some (.int .i64 a5_2) ∧ w'.cell? ⟨gb233, 3, none⟩ = some (.int .i64 a5_3) ∧ w'.cell? ⟨gb233, 4, none⟩ = some (.int .i64 a5_4)) (ds := []) #[false, false, false, false, false, false, false, false, false, false, false, false, false, false, false, false] (by kernel_rfl) rfl rfl ⟨(blk_cell BK233.out 0).trans rfl, (blk_cell BK233.out 1).trans rfl, (blk_cell BK233.out 2).trans rfl, (blk_cell BK233.out 3).trans rfl, (blk_cell BK233.out 4).trans rfl⟩ (fun hHeld => ?_); refine with_tabW slotmeshlaw17_MediumJams.tab5 slotmeshlaw17_MediumJams.bits5 (fun HT_ HW_ => ?_)
    generalize w18.drew = w19 at HO239 BK233 HB hHeld ⊢
    pz0_ 0 40 #[true, false, false, false, false, false, false, false, false, false, false, false, false, false, false, false]
    rotate_left
    ·
     simp only [Act.put, List.setIfInBounds_toArray, List.set_cons_zero, List.set_cons_succ, i64_w, i32_w]
     rfl
    pz0_ 1 41 #[true, true, false, false, false, false, false, false, false, false, false, false, false, false, false, false]
    rotate_left
    ·
     simp only [Act.put, List.setIfInBounds_toArray, List.set_cons_zero, List.set_cons_succ, i64_w, i32_w]
     rfl
    pz0_ 2 42 #[true, true, true, false, false, false, false, false, false, false, false, false, false, false, false, false]
    rotate_left
    ·
     simp only [Act.put, List.setIfInBounds_toArray, List.set_cons_zero, List.set_cons_succ, i64_w, i32_w]
     rfl
    pz0_ 4 44 #[true, true, true, false, true, false, false, false, false, false, false, false, false, false, false, false]
    rotate_left
    ·
     simp only [Act.put, List.setIfInBounds_toArray, List.set_cons_zero, List.set_cons_succ, i64_w, i32_w]
     rfl
    pz0_ 9 49 #[true, true, true, false, true, false, false, false, false, true, false, false, false, false, false, false]
    rotate_left
    ·
     simp only [Act.put, List.setIfInBounds_toArray, List.set_cons_zero, List.set_cons_succ, i64_w, i32_w]
     rfl
    refine take_ (i := 6) (N := some 46) (v := ?_) (a' := ?_) #[true, true, true, false, true, false, true, false, false, true, false, false, false, false, false, false] rfl rfl (take_ofW HT_.out HW_.out (by kernel_rfl)) (fun _ _ _ h => h) (Or.inl ⟨by rfl, ?_⟩) hHeld ?_ ?_
    rotate_left
    ·
     rintro w' ⟨s0, s1, s2, s3, s4⟩
     go_simp
     with_reducible rfl
    rotate_left
    ·
     simp only [Act.put, List.setIfInBounds_toArray, List.set_cons_zero, List.set_cons_succ, i64_w, i32_w]
     rfl
    refine join_ (σ := Value × Value × Value) 7 #[true, true, true, true, true, true, true, true, false, true, false, false, false, false, false, false] (fun s_ => [(43, s_.1), (45, s_.2.1), (47, s_.2.2)]) (fun s_ w' => (w'.cell? ⟨gb233, 0, none⟩ = some (.int .i64 a5_0) ∧ w'.cell? ⟨gb233, 1, none⟩ = some (.int .i64 a5_1) ∧ w'.cell? ⟨gb233, 2, none⟩ = some (.int .i64 a5_2) ∧ w'.cell? ⟨gb233, 3, none⟩ = some (.int .i64 a5_3) ∧ w'.cell? ⟨gb233, 4, none⟩ = some (.int .i64 a5_4)) ∧ (Kd.R (Kd.int .i64) 3 w' w.heap.size (fun _ => True) v238 t236) ∧ (Kd.R k42 42 w' w.heap.size (fun k_ => some k_ ≠ (s_.2.2 : Value).ownBlock ∧ k_ ≠ gb233) s_.2.1 y243) ∧ (Kd.R k42 42 w' w.heap.size (fun k_ => some k_ ≠ (s_.2.1 : Value).ownBlock ∧ k_ ≠ gb233) s_.2.2 y246) ∧ (w'.heap[gb233]? = some (.cells #[.int .i64 a5_0, .int .i64 a5_1, .int .i64 a5_2, .int .i64 a5_3, .int .i64 a5_4] 42 (0, 0))) ∧ (Below w.heap.size w w')) ?_ ?_
    rotate_left
    ·
     intro hCont
     refine two_ (i := 3) (j := 7) (Ni := some 43) (Nj := some 47) #[true, true, true, true, true, false, true, false, false, true, false, false, false, false, false, false] #[true, true, true, false, true, false, true, true, false, true, false, false, false, false, false, false] rfl rfl rfl rfl (two_of HT_.out (by kernel_rfl)) (by decide) (by decide) (fun K hK => ?_) (fun K hK => ?_)
     ·
      skip
      refine Kd.R_lit_step k42 _ 42 ?hg (N := 43) ?hd (xs := ([] : List (S42))) (inner := []) (ok := fun _ => True) (okp := fun _ => True) ?hr ?hp (fun _ hk => hk) trivial (Below.refl _ _) (Nat.le_refl _) (by simp) ?_; (case hd => rfl); (case hg => rfl); (case hr => first | (go_simp; done) | (go_simp; rfl)); (case hp => exact (Reps.none _ _))
      intro v241 w20 ho21 hb hg_ hnew_
      clear hg_ hnew_
      (first | rw [← Ny240.out] at ho21 | (simp only [Int.reduceToNat] at ho21; rw [← Ny240.out] at ho21))
      have n0_ := Aside0.mk (Kd.R_below (by kr_; exact HO239.out) hb)
      have n1_ := Aside0.mk (Kd.R_lower (Kd.R_newB ho21 (g := gb233) (o := .cells #[.int .i64 a5_0, .int .i64 a5_1, .int .i64 a5_2, .int .i64 a5_3, .int .i64 a5_4] 42 (0, 0)) (by bk_; exact BK233.out)) (below_size (by hb0_)))
      have n2_ := Aside0.mk (blk_below (g := gb233) (o := .cells #[.int .i64 a5_0, .int .i64 a5_1, .int .i64 a5_2, .int .i64 a5_3, .int .i64 a5_4] 42 (0, 0)) (by bk_; exact BK233.out) hb)
      have n3_ := Aside0.mk (below_step (by hb0_) hb)
      clear HO239
      clear BK233
      clear HB
      have HO239 := n0_
      have HO242 := n1_
      have BK233 := n2_
      have HB := n3_
      clear n0_ n1_ n2_ n3_
      clear hb ho21
      refine hK.out _ _ ⟨(blk_cell BK233.out 0).trans rfl, (blk_cell BK233.out 1).trans rfl, (blk_cell BK233.out 2).trans rfl, (blk_cell BK233.out 3).trans rfl, (blk_cell BK233.out 4).trans rfl⟩ (fun hHeld => ?_)
      clear hK K
      refine norm_ (a' := ?_) ?_ ?_
      rotate_left
      ·
       show Act.put _ (some 43) _ = _
       simp only [Act.put, List.setIfInBounds_toArray, List.set_cons_zero, List.set_cons_succ, i64_w, i32_w]
       rfl
      refine two_ (i := 5) (j := 7) (Ni := some 45) (Nj := some 47) #[true, true, true, true, true, true, true, false, false, true, false, false, false, false, false, false] #[true, true, true, true, true, false, true, true, false, true, false, false, false, false, false, false] rfl rfl rfl rfl (two_of HT_.out (by kernel_rfl)) (by decide) (by decide) (fun K hK => ?_) (fun K hK => ?_)
      ·
       skip
       refine Kd.R_append_rows_step k42 (w0 := w) w.heap.size (by rfl) (.tmp 43) (.tmp 44) 23 42 (.agg #[(.int .i64 0), (.int .i64 0), (.int .i64 0), (.int .i64 0), (.int .i64 0)]) 40 rfl Try.underlying23 info42 rfl (by decide) (by omega) v241 y240 l3 _ _ _ (fun k_ => k_ ≠ gb233) (fun _ => False) rfl rfl ?aO ?aR (fun _ _ h => h) (fun _ h => h.elim) ?aF ?aB ?aS ?aL ?_
       (case aR => repeat (first | exact (Kd.C_below HR3.out HB.out) | (with_reducible refine Kd.C_alloc ?_ _) | (with_reducible refine Kd.C_drewN ?_ _) | (with_reducible refine Kd.C_drew ?_)))
       (case aB => exact (by hb0_))
       (case aF => exact (fun k_ hk => Kd.freshB (g := gb233) (o := .cells #[.int .i64 a5_0, .int .i64 a5_1, .int .i64 a5_2, .int .i64 a5_3, .int .i64 a5_4] 42 (0, 0)) (by bk_; exact BK233.out) k_ hk))
       (case aO => exact (by kr_; exact Kd.R_mono HO242.out (fun _ hk => hk.2)))
       (case aS => exact (below_size (by hb0_)))
       (case aL => have := LMc11.out; omega)
       intro v244 w22 ho hb hg hat
       rw [← Ny243.out] at ho
       have n0_ := Aside0.mk (blk_grown (g := gb233) (o := .cells #[.int .i64 a5_0, .int .i64 a5_1, .int .i64 a5_2, .int .i64 a5_3, .int .i64 a5_4] 42 (0, 0)) (by bk_; exact BK233.out) hg (Kd.R_away HO242.out (fun _ hk => hk.2)))
       have n1_ := Aside0.mk (Kd.R_over' (by kr_; exact HO239.out) (Kd.R_typed (by kr_; exact HO242.out)) (by decide) hg)
       have n2_ := Aside0.mk (hb)
       have n3_ := Aside0.mk (ho)
       clear BK233
       clear HO239
       clear HB
       clear HO242
       have BK233 := n0_
       have HO239 := n1_
       have HB := n2_
       have HO245 := n3_
       clear n0_ n1_ n2_ n3_
       clear ho hb hg hat
       refine hK.out _ _ ⟨(blk_cell BK233.out 0).trans rfl, (blk_cell BK233.out 1).trans rfl, (blk_cell BK233.out 2).trans rfl, (blk_cell BK233.out 3).trans rfl, (blk_cell BK233.out 4).trans rfl⟩ (fun hHeld => ?_)
       clear hK K
       refine norm_ (a' := ?_) ?_ ?_
       rotate_left
       ·
        show Act.put _ (some 45) _ = _
        simp only [Act.put, List.setIfInBounds_toArray, List.set_cons_zero, List.set_cons_succ, i64_w, i32_w]
        rfl
       refine one_ (i := 7) (N := some 47) #[true, true, true, true, true, true, true, true, false, true, false, false, false, false, false, false] rfl rfl (one_of HT_.out (by kernel_rfl)) (by decide) (fun K hK => ?_)
       refine Kd.R_lit_step k42 _ 42 ?hg (N := 47) ?hd (xs := ([(⟨(⟨a5_0, a5_1⟩ : S25), a5_2, a5_3, a5_4⟩ : S42)] : List (S42))) (inner := [.int .i64 a5_0, .int .i64 a5_1, .int .i64 a5_2, .int .i64 a5_3, .int .i64 a5_4]) (ok := fun _ => True) (okp := fun _ => True) ?hr ?hp (fun _ hk => hk) trivial (Below.refl _ _) (Nat.le_refl _) (by simp) ?_; (case hd => rfl); (case hg => rfl); (case hr => first | (go_simp; done) | (go_simp; rfl)); (case hp => exact (Reps.c5 (show Kd.M k42 _ _ _ (⟨(⟨a5_0, a5_1⟩ : S25), a5_2, a5_3, a5_4⟩ : S42) [.int .i64 a5_0, .int .i64 a5_1, .int .i64 a5_2, .int .i64 a5_3, .int .i64 a5_4] from (k42_mkM _ _ _ (⟨(⟨a5_0, a5_1⟩ : S25), a5_2, a5_3, a5_4⟩ : S42) )) (Reps.none _ _)))
       intro v247 w23 ho24 hb hg_ hnew_
       clear hg_ hnew_
       (first | rw [← Ny246.out] at ho24 | (simp only [Int.reduceToNat] at ho24; rw [← Ny246.out] at ho24))
       have n0_ := Aside0.mk (Kd.R_below (by kr_; exact HO239.out) hb)
       have n1_ := Aside0.mk (Kd.R_elder' (by kr_; exact HO245.out) (Kd.R_base ho24) hb)
       have n2_ := Aside0.mk (Kd.R_lower (Kd.R_newB (Kd.R_new' ho24 (Kd.R_lt (by kr_; exact HO245.out))) (g := gb233) (o := .cells #[.int .i64 a5_0, .int .i64 a5_1, .int .i64 a5_2, .int .i64 a5_3, .int .i64 a5_4] 42 (0, 0)) (by bk_; exact BK233.out)) (below_size (by hb0_)))
       have n3_ := Aside0.mk (blk_below (g := gb233) (o := .cells #[.int .i64 a5_0, .int .i64 a5_1, .int .i64 a5_2, .int .i64 a5_3, .int .i64 a5_4] 42 (0, 0)) (by bk_; exact BK233.out) hb)
       have n4_ := Aside0.mk (below_step (by hb0_) hb)
       clear HO239
       clear HO245
       clear BK233
       clear HB
       have HO239 := n0_
       have HO245 := n1_
       have HO248 := n2_
       have BK233 := n3_
       have HB := n4_
       clear n0_ n1_ n2_ n3_ n4_
       clear hb ho24
       refine hK.out _ _ ⟨(blk_cell BK233.out 0).trans rfl, (blk_cell BK233.out 1).trans rfl, (blk_cell BK233.out 2).trans rfl, (blk_cell BK233.out 3).trans rfl, (blk_cell BK233.out 4).trans rfl⟩ (fun hHeld => ?_)
       clear hK K
       refine norm_ (a' := ?_) ?_ ?_
       rotate_left
       ·
        show Act.put _ (some 47) _ = _
        simp only [Act.put, List.setIfInBounds_toArray, List.set_cons_zero, List.set_cons_succ, i64_w, i32_w]
        rfl
       exact norm_ (by simp only [putAll, Act.put, List.setIfInBounds_toArray, List.set_cons_zero, List.set_cons_succ]) (hCont (v241, v244, v247) _ ⟨hHeld, (by kr_; exact HO239.out), (by kr_; exact Kd.R_mono HO245.out (fun _ hk => ⟨hk.2, hk.1⟩)), (by kr_; exact Kd.R_mono HO248.out (fun _ hk => ⟨hk.1.2, hk.2⟩)), (by bk_; exact BK233.out), (by hb0_)⟩)
      ·
       skip
       refine Kd.R_lit_step k42 _ 42 ?hg (N := 47) ?hd (xs := ([(⟨(⟨a5_0, a5_1⟩ : S25), a5_2, a5_3, a5_4⟩ : S42)] : List (S42))) (inner := [.int .i64 a5_0, .int .i64 a5_1, .int .i64 a5_2, .int .i64 a5_3, .int .i64 a5_4]) (ok := fun _ => True) (okp := fun _ => True) ?hr ?hp (fun _ hk => hk) trivial (Below.refl _ _) (Nat.le_refl _) (by simp) ?_; (case hd => rfl); (case hg => rfl); (case hr => first | (go_simp; done) | (go_simp; rfl)); (case hp => exact (Reps.c5 (show Kd.M k42 _ _ _ (⟨(⟨a5_0, a5_1⟩ : S25), a5_2, a5_3, a5_4⟩ : S42) [.int .i64 a5_0, .int .i64 a5_1, .int .i64 a5_2, .int .i64 a5_3, .int .i64 a5_4] from (k42_mkM _ _ _ (⟨(⟨a5_0, a5_1⟩ : S25), a5_2, a5_3, a5_4⟩ : S42) )) (Reps.none _ _)))
       intro v247 w22 ho23 hb hg_ hnew_
       clear hg_ hnew_
       (first | rw [← Ny246.out] at ho23 | (simp only [Int.reduceToNat] at ho23; rw [← Ny246.out] at ho23))
       have n0_ := Aside0.mk (Kd.R_below (by kr_; exact HO239.out) hb)
       have n1_ := Aside0.mk (Kd.R_elder' (by kr_; exact HO242.out) (Kd.R_base ho23) hb)
       have n2_ := Aside0.mk (Kd.R_lower (Kd.R_newB (Kd.R_new' ho23 (Kd.R_lt (by kr_; exact HO242.out))) (g := gb233) (o := .cells #[.int .i64 a5_0, .int .i64 a5_1, .int .i64 a5_2, .int .i64 a5_3, .int .i64 a5_4] 42 (0, 0)) (by bk_; exact BK233.out)) (below_size (by hb0_)))
       have n3_ := Aside0.mk (blk_below (g := gb233) (o := .cells #[.int .i64 a5_0, .int .i64 a5_1, .int .i64 a5_2, .int .i64 a5_3, .int .i64 a5_4] 42 (0, 0)) (by bk_; exact BK233.out) hb)
       have n4_ := Aside0.mk (below_step (by hb0_) hb)
       clear HO239
       clear HO242
       clear BK233
       clear HB
       have HO239 := n0_
       have HO242 := n1_
       have HO248 := n2_
       have BK233 := n3_
       have HB := n4_
       clear n0_ n1_ n2_ n3_ n4_
       clear hb ho23
       refine hK.out _ _ ⟨(blk_cell BK233.out 0).trans rfl, (blk_cell BK233.out 1).trans rfl, (blk_cell BK233.out 2).trans rfl, (blk_cell BK233.out 3).trans rfl, (blk_cell BK233.out 4).trans rfl⟩ (fun hHeld => ?_)
       clear hK K
       refine norm_ (a' := ?_) ?_ ?_
       rotate_left
       ·
        show Act.put _ (some 47) _ = _
        simp only [Act.put, List.setIfInBounds_toArray, List.set_cons_zero, List.set_cons_succ, i64_w, i32_w]
        rfl
       refine one_ (i := 5) (N := some 45) #[true, true, true, true, true, true, true, true, false, true, false, false, false, false, false, false] rfl rfl (one_of HT_.out (by kernel_rfl)) (by decide) (fun K hK => ?_)
       refine Kd.R_append_rows_step k42 (w0 := w) w.heap.size (by rfl) (.tmp 43) (.tmp 44) 23 42 (.agg #[(.int .i64 0), (.int .i64 0), (.int .i64 0), (.int .i64 0), (.int .i64 0)]) 40 rfl Try.underlying23 info42 rfl (by decide) (by omega) v241 y240 l3 _ _ _ (fun k_ => some k_ ≠ (v247 : Value).ownBlock ∧ k_ ≠ gb233) (fun _ => False) rfl rfl ?aO ?aR (fun _ _ h => h) (fun _ h => h.elim) ?aF ?aB ?aS ?aL ?_
       (case aR => repeat (first | exact (Kd.C_below HR3.out HB.out) | (with_reducible refine Kd.C_alloc ?_ _) | (with_reducible refine Kd.C_drewN ?_ _) | (with_reducible refine Kd.C_drew ?_)))
       (case aB => exact (by hb0_))
       (case aF => exact (fun k_ hk => ⟨Kd.fresh' (Kd.R_lt (by kr_; exact HO248.out)) k_ hk, Kd.freshB (g := gb233) (o := .cells #[.int .i64 a5_0, .int .i64 a5_1, .int .i64 a5_2, .int .i64 a5_3, .int .i64 a5_4] 42 (0, 0)) (by bk_; exact BK233.out) k_ hk⟩))
       (case aO => exact (by kr_; exact Kd.R_mono HO242.out (fun _ hk => ⟨hk.2, hk.1.2⟩)))
       (case aS => exact (below_size (by hb0_)))
       (case aL => have := LMc11.out; omega)
       intro v244 w24 ho hb hg hat
       rw [← Ny243.out] at ho
       have n0_ := Aside0.mk (blk_grown (g := gb233) (o := .cells #[.int .i64 a5_0, .int .i64 a5_1, .int .i64 a5_2, .int .i64 a5_3, .int .i64 a5_4] 42 (0, 0)) (by bk_; exact BK233.out) hg (Kd.R_away HO242.out (fun _ hk => hk.1.2)))
       have n1_ := Aside0.mk (Kd.R_over' (by kr_; exact HO239.out) (Kd.R_typed (by kr_; exact HO242.out)) (by decide) hg)
       have n2_ := Aside0.mk (Kd.R_after (ok := (fun k_ => k_ ≠ gb233)) (by kr_; exact Kd.R_mono HO248.out (fun _ hk => ⟨hk.2, hk.1.2⟩)) hg hat)
       have n3_ := Aside0.mk (hb)
       have n4_ := Aside0.mk (ho)
       clear BK233
       clear HO239
       clear HO248
       clear HB
       clear HO242
       have BK233 := n0_
       have HO239 := n1_
       have HO248 := n2_
       have HB := n3_
       have HO245 := n4_
       clear n0_ n1_ n2_ n3_ n4_
       clear ho hb hg hat
       refine hK.out _ _ ⟨(blk_cell BK233.out 0).trans rfl, (blk_cell BK233.out 1).trans rfl, (blk_cell BK233.out 2).trans rfl, (blk_cell BK233.out 3).trans rfl, (blk_cell BK233.out 4).trans rfl⟩ (fun hHeld => ?_)
       clear hK K
       refine norm_ (a' := ?_) ?_ ?_
       rotate_left
       ·
        show Act.put _ (some 45) _ = _
        simp only [Act.put, List.setIfInBounds_toArray, List.set_cons_zero, List.set_cons_succ, i64_w, i32_w]
        rfl
       exact norm_ (by simp only [putAll, Act.put, List.setIfInBounds_toArray, List.set_cons_zero, List.set_cons_succ]) (hCont (v241, v244, v247) _ ⟨hHeld, (by kr_; exact HO239.out), (by kr_; exact HO245.out), (by kr_; exact Kd.R_mono HO248.out (fun _ hk => ⟨hk.2, hk.1⟩)), (by bk_; exact BK233.out), (by hb0_)⟩)
     ·
      skip
      refine Kd.R_lit_step k42 _ 42 ?hg (N := 47) ?hd (xs := ([(⟨(⟨a5_0, a5_1⟩ : S25), a5_2, a5_3, a5_4⟩ : S42)] : List (S42))) (inner := [.int .i64 a5_0, .int .i64 a5_1, .int .i64 a5_2, .int .i64 a5_3, .int .i64 a5_4]) (ok := fun _ => True) (okp := fun _ => True) ?hr ?hp (fun _ hk => hk) trivial (Below.refl _ _) (Nat.le_refl _) (by simp) ?_; (case hd => rfl); (case hg => rfl); (case hr => first | (go_simp; done) | (go_simp; rfl)); (case hp => exact (Reps.c5 (show Kd.M k42 _ _ _ (⟨(⟨a5_0, a5_1⟩ : S25), a5_2, a5_3, a5_4⟩ : S42) [.int .i64 a5_0, .int .i64 a5_1, .int .i64 a5_2, .int .i64 a5_3, .int .i64 a5_4] from (k42_mkM _ _ _ (⟨(⟨a5_0, a5_1⟩ : S25), a5_2, a5_3, a5_4⟩ : S42) )) (Reps.none _ _)))
      intro v247 w20 ho21 hb hg_ hnew_
      clear hg_ hnew_
      (first | rw [← Ny246.out] at ho21 | (simp only [Int.reduceToNat] at ho21; rw [← Ny246.out] at ho21))
      have n0_ := Aside0.mk (Kd.R_below (by kr_; exact HO239.out) hb)
      have n1_ := Aside0.mk (Kd.R_lower (Kd.R_newB ho21 (g := gb233) (o := .cells #[.int .i64 a5_0, .int .i64 a5_1, .int .i64 a5_2, .int .i64 a5_3, .int .i64 a5_4] 42 (0, 0)) (by bk_; exact BK233.out)) (below_size (by hb0_)))
      have n2_ := Aside0.mk (blk_below (g := gb233) (o := .cells #[.int .i64 a5_0, .int .i64 a5_1, .int .i64 a5_2, .int .i64 a5_3, .int .i64 a5_4] 42 (0, 0)) (by bk_; exact BK233.out) hb)
      have n3_ := Aside0.mk (below_step (by hb0_) hb)
      clear HO239
      clear BK233
      clear HB
      have HO239 := n0_
      have HO248 := n1_
      have BK233 := n2_
      have HB := n3_
      clear n0_ n1_ n2_ n3_
      clear hb ho21
      refine hK.out _ _ ⟨(blk_cell BK233.out 0).trans rfl, (blk_cell BK233.out 1).trans rfl, (blk_cell BK233.out 2).trans rfl, (blk_cell BK233.out 3).trans rfl, (blk_cell BK233.out 4).trans rfl⟩ (fun hHeld => ?_)
      clear hK K
      refine norm_ (a' := ?_) ?_ ?_
      rotate_left
      ·
       show Act.put _ (some 47) _ = _
       simp only [Act.put, List.setIfInBounds_toArray, List.set_cons_zero, List.set_cons_succ, i64_w, i32_w]
       rfl
      refine one_ (i := 3) (N := some 43) #[true, true, true, true, true, false, true, true, false, true, false, false, false, false, false, false] rfl rfl (one_of HT_.out (by kernel_rfl)) (by decide) (fun K hK => ?_)
      refine Kd.R_lit_step k42 _ 42 ?hg (N := 43) ?hd (xs := ([] : List (S42))) (inner := []) (ok := fun _ => True) (okp := fun _ => True) ?hr ?hp (fun _ hk => hk) trivial (Below.refl _ _) (Nat.le_refl _) (by simp) ?_; (case hd => rfl); (case hg => rfl); (case hr => first | (go_simp; done) | (go_simp; rfl)); (case hp => exact (Reps.none _ _))
      intro v241 w22 ho23 hb hg_ hnew_
      clear hg_ hnew_
      (first | rw [← Ny240.out] at ho23 | (simp only [Int.reduceToNat] at ho23; rw [← Ny240.out] at ho23))
      have n0_ := Aside0.mk (Kd.R_below (by kr_; exact HO239.out) hb)
      have n1_ := Aside0.mk (Kd.R_elder' (by kr_; exact HO248.out) (Kd.R_base ho23) hb)
      have n2_ := Aside0.mk (Kd.R_lower (Kd.R_newB (Kd.R_new' ho23 (Kd.R_lt (by kr_; exact HO248.out))) (g := gb233) (o := .cells #[.int .i64 a5_0, .int .i64 a5_1, .int .i64 a5_2, .int .i64 a5_3, .int .i64 a5_4] 42 (0, 0)) (by bk_; exact BK233.out)) (below_size (by hb0_)))
      have n3_ := Aside0.mk (blk_below (g := gb233) (o := .cells #[.int .i64 a5_0, .int .i64 a5_1, .int .i64 a5_2, .int .i64 a5_3, .int .i64 a5_4] 42 (0, 0)) (by bk_; exact BK233.out) hb)
      have n4_ := Aside0.mk (below_step (by hb0_) hb)
      clear HO239
      clear HO248
      clear BK233
      clear HB
      have HO239 := n0_
      have HO248 := n1_
      have HO242 := n2_
      have BK233 := n3_
      have HB := n4_
      clear n0_ n1_ n2_ n3_ n4_
      clear hb ho23
      refine hK.out _ _ ⟨(blk_cell BK233.out 0).trans rfl, (blk_cell BK233.out 1).trans rfl, (blk_cell BK233.out 2).trans rfl, (blk_cell BK233.out 3).trans rfl, (blk_cell BK233.out 4).trans rfl⟩ (fun hHeld => ?_)
      clear hK K
      refine norm_ (a' := ?_) ?_ ?_
      rotate_left
      ·
       show Act.put _ (some 43) _ = _
       simp only [Act.put, List.setIfInBounds_toArray, List.set_cons_zero, List.set_cons_succ, i64_w, i32_w]
       rfl
      refine one_ (i := 5) (N := some 45) #[true, true, true, true, true, true, true, true, false, true, false, false, false, false, false, false] rfl rfl (one_of HT_.out (by kernel_rfl)) (by decide) (fun K hK => ?_)
      refine Kd.R_append_rows_step k42 (w0 := w) w.heap.size (by rfl) (.tmp 43) (.tmp 44) 23 42 (.agg #[(.int .i64 0), (.int .i64 0), (.int .i64 0), (.int .i64 0), (.int .i64 0)]) 40 rfl Try.underlying23 info42 rfl (by decide) (by omega) v241 y240 l3 _ _ _ (fun k_ => some k_ ≠ (v247 : Value).ownBlock ∧ k_ ≠ gb233) (fun _ => False) rfl rfl ?aO ?aR (fun _ _ h => h) (fun _ h => h.elim) ?aF ?aB ?aS ?aL ?_
      (case aR => repeat (first | exact (Kd.C_below HR3.out HB.out) | (with_reducible refine Kd.C_alloc ?_ _) | (with_reducible refine Kd.C_drewN ?_ _) | (with_reducible refine Kd.C_drew ?_)))
      (case aB => exact (by hb0_))
      (case aF => exact (fun k_ hk => ⟨Kd.fresh' (Kd.R_lt (by kr_; exact HO248.out)) k_ hk, Kd.freshB (g := gb233) (o := .cells #[.int .i64 a5_0, .int .i64 a5_1, .int .i64 a5_2, .int .i64 a5_3, .int .i64 a5_4] 42 (0, 0)) (by bk_; exact BK233.out) k_ hk⟩))
      (case aO => exact (by kr_; exact Kd.R_mono HO242.out (fun _ hk => ⟨hk.1.2, hk.2⟩)))
      (case aS => exact (below_size (by hb0_)))
      (case aL => have := LMc11.out; omega)
      intro v244 w24 ho hb hg hat
      rw [← Ny243.out] at ho
      have n0_ := Aside0.mk (blk_grown (g := gb233) (o := .cells #[.int .i64 a5_0, .int .i64 a5_1, .int .i64 a5_2, .int .i64 a5_3, .int .i64 a5_4] 42 (0, 0)) (by bk_; exact BK233.out) hg (Kd.R_away HO242.out (fun _ hk => hk.2)))
      have n1_ := Aside0.mk (Kd.R_over' (by kr_; exact HO239.out) (Kd.R_typed (by kr_; exact HO242.out)) (by decide) hg)
      have n2_ := Aside0.mk (Kd.R_after (ok := (fun k_ => k_ ≠ gb233)) (by kr_; exact Kd.R_mono HO248.out (fun _ hk => ⟨hk.1.2, hk.2⟩)) hg hat)
      have n3_ := Aside0.mk (hb)
      have n4_ := Aside0.mk (ho)
      clear BK233
      clear HO239
      clear HO248
      clear HB
      clear HO242
      have BK233 := n0_
      have HO239 := n1_
      have HO248 := n2_
      have HB := n3_
      have HO245 := n4_
      clear n0_ n1_ n2_ n3_ n4_
      clear ho hb hg hat
      refine hK.out _ _ ⟨(blk_cell BK233.out 0).trans rfl, (blk_cell BK233.out 1).trans rfl, (blk_cell BK233.out 2).trans rfl, (blk_cell BK233.out 3).trans rfl, (blk_cell BK233.out 4).trans rfl⟩ (fun hHeld => ?_)
      clear hK K
      refine norm_ (a' := ?_) ?_ ?_
      rotate_left
      ·
       show Act.put _ (some 45) _ = _
       simp only [Act.put, List.setIfInBounds_toArray, List.set_cons_zero, List.set_cons_succ, i64_w, i32_w]
       rfl
      exact norm_ (by simp only [putAll, Act.put, List.setIfInBounds_toArray, List.set_cons_zero, List.set_cons_succ]) (hCont (v241, v244, v247) _ ⟨hHeld, (by kr_; exact HO239.out), (by kr_; exact HO245.out), (by kr_; exact Kd.R_mono HO248.out (fun _ hk => ⟨hk.2, hk.1⟩)), (by bk_; exact BK233.out), (by hb0_)⟩)
    rintro ⟨v241, v244, v247⟩ w25 ⟨hS_, h0_, h1_, h2_, h3_, h4_⟩
    have n0_ : Aside0 (Kd.R (Kd.int .i64) 3 w25 w.heap.size (fun _ => True) v238 t236) := ⟨h0_⟩
    have n1_ : Aside0 (Kd.R k42 42 w25 w.heap.size (fun k_ => some k_ ≠ (v247 : Value).ownBlock ∧ k_ ≠ gb233) v244 y243) := ⟨h1_⟩
    have n2_ : Aside0 (Kd.R k42 42 w25 w.heap.size (fun k_ => some k_ ≠ (v244 : Value).ownBlock ∧ k_ ≠ gb233) v247 y246) := ⟨h2_⟩
    have n3_ : Aside0 (w25.heap[gb233]? = some (.cells #[.int .i64 a5_0, .int .i64 a5_1, .int .i64 a5_2, .int .i64 a5_3, .int .i64 a5_4] 42 (0, 0))) := ⟨h3_⟩
    have n4_ : Aside0 (Below w.heap.size w w25) := ⟨h4_⟩
    clear HO239
    clear BK233
    clear HB
    clear h0_ h1_ h2_ h3_ h4_
    have HO239 := n0_
    have HO245 := n1_
    have HO248 := n2_
    have BK233 := n3_
    have HB := n4_
    clear n0_ n1_ n2_ n3_ n4_
    have hHeld : w25.cell? ⟨gb233, 0, none⟩ = some (.int .i64 a5_0) ∧ w25.cell? ⟨gb233, 1, none⟩ = some (.int .i64 a5_1) ∧ w25.cell? ⟨gb233, 2, none⟩ = some (.int .i64 a5_2) ∧ w25.cell? ⟨gb233, 3, none⟩ = some (.int .i64 a5_3) ∧ w25.cell? ⟨gb233, 4, none⟩ = some (.int .i64 a5_4) := hS_
    obtain ⟨Ao27, co27, eo27⟩ := Kd.R_slice HO248.out
    (first | subst eo27 | (injection eo27 with f1_ f2_ f3_; have f4_ := f1_.symm; have f5_ := f3_.symm; clear f1_ f2_ f3_; subst f4_; subst f5_))
    refine norm_ (a' := ?_) ?_ ?_
    rotate_left
    ·
     simp only [putAll, Act.put, List.setIfInBounds_toArray, List.set_cons_zero, List.set_cons_succ]
     rfl
    refine one_ (i := 8) (N := some 48) #[true, true, true, true, true, true, true, true, true, true, false, false, false, false, false, false] rfl rfl (one_of HT_.out (by kernel_rfl)) (by decide) (fun K hK => ?_)
    refine Kd.R_append_rows_step k42 (w0 := w) w.heap.size (by rfl) (.tmp 45) (.tmp 47) 23 42 (.agg #[(.int .i64 0), (.int .i64 0), (.int .i64 0), (.int .i64 0), (.int .i64 0)]) 40 rfl Try.underlying23 info42 rfl (by decide) (by omega) v244 y243 y246 _ _ _ (fun k_ => some k_ ≠ (.slice Ao27 y246.length co27 : Value).ownBlock ∧ k_ ≠ gb233) (fun _ => False) rfl rfl ?aO ?aR (fun _ _ h => h) (fun _ h => h.elim) ?aF ?aB ?aS ?aL ?_
    (case aR => repeat (first | exact (Kd.R_reads' HO248.out).2.2 | (with_reducible refine Kd.C_alloc ?_ _) | (with_reducible refine Kd.C_drewN ?_ _) | (with_reducible refine Kd.C_drew ?_)))
    (case aB => exact (by hb0_))
    (case aF => exact (fun k_ hk => ⟨Kd.fresh' (Kd.R_lt (by kr_; exact HO248.out)) k_ hk, Kd.freshB (g := gb233) (o := .cells #[.int .i64 a5_0, .int .i64 a5_1, .int .i64 a5_2, .int .i64 a5_3, .int .i64 a5_4] 42 (0, 0)) (by bk_; exact BK233.out) k_ hk⟩))
    (case aO => exact (by kr_; exact HO245.out))
    (case aS => exact (below_size (by hb0_)))
    (case aL => have := LMc12.out; omega)
    intro v250 w26 ho hb hg hat
    rw [← Ny249.out] at ho
    have n0_ := Aside0.mk (blk_grown (g := gb233) (o := .cells #[.int .i64 a5_0, .int .i64 a5_1, .int .i64 a5_2, .int .i64 a5_3, .int .i64 a5_4] 42 (0, 0)) (by bk_; exact BK233.out) hg (Kd.R_away HO245.out (fun _ hk => hk.2)))
    have n1_ := Aside0.mk (Kd.R_over' (by kr_; exact HO239.out) (Kd.R_typed (by kr_; exact HO245.out)) (by decide) hg)
    have n2_ := Aside0.mk (Kd.R_after (ok := (fun k_ => k_ ≠ gb233)) (by kr_; exact Kd.R_mono HO248.out (fun _ hk => ⟨hk.2, hk.1⟩)) hg hat)
    have n3_ := Aside0.mk (hb)
    have n4_ := Aside0.mk (ho)
    clear BK233
    clear HO239
    clear HO248
    clear HB
    clear HO245
    have BK233 := n0_
    have HO239 := n1_
    have HO248 := n2_
    have HB := n3_
    have HO251 := n4_
    clear n0_ n1_ n2_ n3_ n4_
    clear ho hb hg hat
    obtain ⟨Ao28, co28, eo28⟩ := Kd.R_slice HO251.out
    (first | subst eo28 | (injection eo28 with f1_ f2_ f3_; have f4_ := f1_.symm; have f5_ := f3_.symm; clear f1_ f2_ f3_; subst f4_; subst f5_))
    refine hK.out _ _ ⟨(blk_cell BK233.out 0).trans rfl, (blk_cell BK233.out 1).trans rfl, (blk_cell BK233.out 2).trans rfl, (blk_cell BK233.out 3).trans rfl, (blk_cell BK233.out 4).trans rfl⟩ (fun hHeld => ?_)
    clear hK K
    refine norm_ (a' := ?_) ?_ ?_
    rotate_left
    ·
     show Act.put _ (some 48) _ = _
     simp only [Act.put, List.setIfInBounds_toArray, List.set_cons_zero, List.set_cons_succ, i64_w, i32_w]
     rfl
    refine one_ (i := 10) (N := some 50) #[true, true, true, true, true, true, true, true, true, true, true, false, false, false, false, false] rfl rfl (one_of HT_.out (by kernel_rfl)) (by decide) (fun K hK => ?_)
    refine goes_ Try.func29 (by kernel_rfl) rfl #[.slice A0 l0.length c0, .slice A1 l1.length c1, .int .i64 a2, .slice Ao28 y249.length co28, .int .i64 a4] (by rfl) rfl rfl (by (try simp only [List.map_toArray, List.map_cons, List.map_nil]); first | done | rfl | (simp only [List.length_drop, List.length_take]; rfl)) ?_
    with_reducible refine (medium_Catch.calls k _ _ l0 _ _ l1 a2 _ _ y249 a4 t252 t253 _ ?side1 ?side2 ?side3 ?side4 ?side5 ?side6 A13.out).mono ?_
    (case side1 => repeat (first | exact (Kd.C_below HR0.out HB.out) | (with_reducible refine Kd.C_alloc ?_ _) | (with_reducible refine Kd.C_drewN ?_ _) | (with_reducible refine Kd.C_drew ?_)))
    (case side2 => exact HC0.out)
    (case side3 => repeat (first | exact (Kd.C_below HR1.out HB.out) | (with_reducible refine Kd.C_alloc ?_ _) | (with_reducible refine Kd.C_drewN ?_ _) | (with_reducible refine Kd.C_drew ?_)))
    (case side4 => exact HC1.out)
    (case side5 => repeat (first | exact (Kd.R_reads' HO251.out).2.2 | (with_reducible refine Kd.C_alloc ?_ _) | (with_reducible refine Kd.C_drewN ?_ _) | (with_reducible refine Kd.C_drew ?_)))
    (case side6 => exact (Kd.R_reads' HO251.out).2.1)
    rintro e w29 ⟨v254, rfl, ho0, hb⟩
    refine ⟨_, rfl, ?_⟩
    have n0_ := Aside0.mk (Kd.R_elder' (by kr_; exact HO239.out) (Kd.R_base ho0) hb)
    have n1_ := Aside0.mk (Kd.R_below (by kr_; exact HO248.out) hb)
    have n2_ := Aside0.mk (Kd.R_below (by kr_; exact HO251.out) hb)
    have n3_ := Aside0.mk (Kd.R_lower (Kd.R_new' ho0 (Kd.R_lt (by kr_; exact HO239.out))) (below_size (by hb0_)))
    have n4_ := Aside0.mk (blk_below (g := gb233) (o := .cells #[.int .i64 a5_0, .int .i64 a5_1, .int .i64 a5_2, .int .i64 a5_3, .int .i64 a5_4] 42 (0, 0)) (by bk_; exact BK233.out) hb)
    have n5_ := Aside0.mk (below_step (by hb0_) hb)
    clear HO239
    clear HO248
    clear HO251
    clear BK233
    clear HB
    have HO239 := n0_
    have HO248 := n1_
    have HO251 := n2_
    have HO255 := n3_
    have BK233 := n4_
    have HB := n5_
    clear n0_ n1_ n2_ n3_ n4_ n5_
    (try clear hb)
    (try clear hb2)
    (try clear hk)
    (try clear hi)
    (try clear ho0)
    refine hK.out _ _ ⟨(blk_cell BK233.out 0).trans rfl, (blk_cell BK233.out 1).trans rfl, (blk_cell BK233.out 2).trans rfl, (blk_cell BK233.out 3).trans rfl, (blk_cell BK233.out 4).trans rfl⟩ (fun hHeld => ?_)
    clear hK K
    refine norm_ (a' := ?_) ?_ ?_
    rotate_left
    ·
     show Act.put _ (some 50) _ = _
     simp only [Act.put, List.setIfInBounds_toArray, List.set_cons_zero, List.set_cons_succ, i64_w, i32_w]
     rfl
    pz0_ 11 39 #[true, true, true, true, true, true, true, true, true, true, true, true, false, false, false, false]
    rotate_left
    ·
     simp only [Act.put, List.setIfInBounds_toArray, List.set_cons_zero, List.set_cons_succ, i64_w, i32_w]
     rfl
    pz0_ 12 51 #[true, true, true, true, true, true, true, true, true, true, true, true, true, false, false, false]
    rotate_left
    ·
     simp only [Act.put, List.setIfInBounds_toArray, List.set_cons_zero, List.set_cons_succ, i64_w, i32_w]
     rfl
    pz0_ 13 52 #[true, true, true, true, true, true, true, true, true, true, true, true, true, true, false, false]
    rotate_left
    ·
     simp only [Act.put, List.setIfInBounds_toArray, List.set_cons_zero, List.set_cons_succ, i64_w, i32_w]
     rfl
    pz0_ 14 16 #[true, true, true, true, true, true, true, true, true, true, true, true, true, true, true, false]
    rotate_left
    ·
     simp only [Act.put, List.setIfInBounds_toArray, List.set_cons_zero, List.set_cons_succ, i64_w, i32_w]
     rfl
    pz0_ 15 17 #[true, true, true, true, true, true, true, true, true, true, true, true, true, true, true, true]
    rotate_left
    ·
     simp only [Act.put, List.setIfInBounds_toArray, List.set_cons_zero, List.set_cons_succ, i64_w, i32_w]
     rfl
    refine done_ (done_of HT_.out (by kernel_rfl)) ?_
    go_upto_region 6 with (fail)
    go_cut [72] (fun v72 wc => ∃ (kq : Nat) (x72_13 : Bool), v72 = .bool x72_13 ∧ Aside0 (slotmeshlaw17_MediumJams.j0 kq l0 l1 a4 t234 t236 t252 x72_13 a5_0 a5_1 a5_2 a5_3 a5_4 = some r) ∧ Aside0 (kq ≤ k) ∧ Aside0 (Kd.R (Kd.int .i64) 3 wc w.heap.size (fun k_ => some k_ ≠ (v254 : Value).ownBlock) v238 t236) ∧ Aside0 (Kd.R (Kd.int .i64) 3 wc w.heap.size (fun k_ => some k_ ≠ (v238 : Value).ownBlock) v254 t252) ∧ Aside0 (wc.heap[gb233]? = some (.cells #[.int .i64 a5_0, .int .i64 a5_1, .int .i64 a5_2, .int .i64 a5_3, .int .i64 a5_4] 42 (0, 0))) ∧ Aside0 (Below w.heap.size w wc))
    case first =>
     have H := HC14.out
     clear HC14
     by_cases c30 : t237 = 0
     ·
      rw [if_pos c30] at H
      have c30b0 : (t237 == 0) = true := beq_iff_eq.mpr c30
      have c30b1 : (t237 != 0) = false := bne_eq_false_iff_eq.mpr c30
      clear c30
      (first | rw [c30b0] | (simp only [i64_w, i32_w]; rw [c30b0]) | skip)
      by_cases c31 : t253 = 0
      ·
       rw [if_pos c31] at H
       have c31b0 : (t253 == 0) = true := beq_iff_eq.mpr c31
       have c31b1 : (t253 != 0) = false := bne_eq_false_iff_eq.mpr c31
       clear c31
       by_cases c32 : (t236.length : Int) = (l0.length : Int)
       ·
        rw [if_pos c32] at H
        have c32b0 : ((t236.length : Int) == (l0.length : Int)) = true := beq_iff_eq.mpr c32
        have c32b1 : ((t236.length : Int) != (l0.length : Int)) = false := bne_eq_false_iff_eq.mpr c32
        have c32b2 : (t236.length == l0.length) = true := by first | simpa using c32 | (simp at c32 ⊢; omega)
        clear c32
        have H' := Aside0.mk H
        clear H
        obtain ⟨Ao33, co33, eo33⟩ := Kd.R_slice HO239.out
        subst eo33
        obtain ⟨Ao34, co34, eo34⟩ := Kd.R_slice HO255.out
        subst eo34
        go_wp2
        go_meet
        case rel => exact ⟨_, (((t252.length : Int) != (t236.length : Int))), (by first | rfl | (simp; done) | (simp [*]; done)), H', ⟨by first | omega | exact Nat.le_refl _⟩, ⟨by kr_; exact Kd.R_mono HO239.out (fun _ hk => hk.2)⟩, ⟨by kr_; exact Kd.R_mono HO255.out (fun _ hk => hk.2)⟩, ⟨by bk_; exact BK233.out⟩, ⟨by repeat (first | (with_reducible first | exact HB.out | apply below_alloc | apply pw_below_drewN | apply below_drew1 | refine below_set ?_ GE233.out) | exact HB.out)⟩⟩
       ·
        rw [if_neg c32] at H
        have c32b0 : ((t236.length : Int) == (l0.length : Int)) = false := beq_eq_false_iff_ne.mpr c32
        have c32b1 : ((t236.length : Int) != (l0.length : Int)) = true := bne_iff_ne.mpr c32
        have c32b2 : (t236.length == l0.length) = false := by first | simpa using c32 | (simp at c32 ⊢; omega)
        have H' := Aside0.mk H
        clear H
        obtain ⟨Ao35, co35, eo35⟩ := Kd.R_slice HO239.out
        subst eo35
        go_wp2
        go_meet
        case rel => exact ⟨_, (true), (by first | rfl | (simp; done) | (simp [*]; done)), H', ⟨by first | omega | exact Nat.le_refl _⟩, ⟨by kr_; exact Kd.R_mono HO239.out (fun _ hk => hk.2)⟩, ⟨by kr_; exact Kd.R_mono HO255.out (fun _ hk => hk.2)⟩, ⟨by bk_; exact BK233.out⟩, ⟨by repeat (first | (with_reducible first | exact HB.out | apply below_alloc | apply pw_below_drewN | apply below_drew1 | refine below_set ?_ GE233.out) | exact HB.out)⟩⟩
      ·
       rw [if_neg c31] at H
       have c31b0 : (t253 == 0) = false := beq_eq_false_iff_ne.mpr c31
       have c31b1 : (t253 != 0) = true := bne_iff_ne.mpr c31
       have H' := Aside0.mk H
       clear H
       go_wp2
       go_meet
       case rel => exact ⟨_, (true), (by first | rfl | (simp; done) | (simp [*]; done)), H', ⟨by first | omega | exact Nat.le_refl _⟩, ⟨by kr_; exact Kd.R_mono HO239.out (fun _ hk => hk.2)⟩, ⟨by kr_; exact Kd.R_mono HO255.out (fun _ hk => hk.2)⟩, ⟨by bk_; exact BK233.out⟩, ⟨by repeat (first | (with_reducible first | exact HB.out | apply below_alloc | apply pw_below_drewN | apply below_drew1 | refine below_set ?_ GE233.out) | exact HB.out)⟩⟩
     ·
      rw [if_neg c30] at H
      have c30b0 : (t237 == 0) = false := beq_eq_false_iff_ne.mpr c30
      have c30b1 : (t237 != 0) = true := bne_iff_ne.mpr c30
      (first | rw [c30b0] | (simp only [i64_w, i32_w]; rw [c30b0]) | skip)
      have H' := Aside0.mk H
      clear H
      go_wp2
      go_meet
      case rel => exact ⟨_, (true), (by first | rfl | (simp; done) | (simp [*]; done)), H', ⟨by first | omega | exact Nat.le_refl _⟩, ⟨by kr_; exact Kd.R_mono HO239.out (fun _ hk => hk.2)⟩, ⟨by kr_; exact Kd.R_mono HO255.out (fun _ hk => hk.2)⟩, ⟨by bk_; exact BK233.out⟩, ⟨by repeat (first | (with_reducible first | exact HB.out | apply below_alloc | apply pw_below_drewN | apply below_drew1 | refine below_set ?_ GE233.out) | exact HB.out)⟩⟩
    case rest =>
     clear HC14
     try clear c1
     try clear c2
     try clear p2
     try clear c3
     try clear c5
     try clear c6
     try clear c9
     try clear c11
     try clear c12
     try clear c27
     try clear c28
     try clear c29
     try clear c30
     try clear c30b0
     try clear c30b1
     try clear c31
     try clear c31b0
     try clear c31b1
     try clear c32
     try clear c32b0
     try clear c32b1
     try clear c32b2
     obtain ⟨kq, x72_13, rfl, HA, HJ13, HO_14, HO_16, BK233, HB⟩ := hcut
     cases kq with
     | zero => exact absurd HA.out (by simp [slotmeshlaw17_MediumJams.j0])
     | succ kj13 =>
      have H := HA.out
      clear HA
      simp only [slotmeshlaw17_MediumJams.j0] at H
      by_cases c36 : x72_13 = true
      ·
       subst c36
       have H1 : (some false) = some r := by rw [if_pos rfl] at H; exact H
       clear H
       have H := H1
       clear H1
       exact absurd (Option.some.inj H) (by rw [HRT.out]; decide)
      ·
       replace c36 := Bool.eq_false_iff.mpr c36
       subst c36
       have H1 : (slotmeshlaw17_MediumJams.l0 kj13 l1 a4 t234 t236 t252 l0 (l0.length : Int) 0 a5_0 a5_1 a5_2 a5_3 a5_4) = some r := by rw [if_neg (show ¬ (false = true) by decide)] at H; exact H
       clear H
       have H := H1
       clear H1
       have H' := Aside0.mk H
       clear H
       go_wp2
       go_loopg [75] kj13 (fun kq v75 w' => ∃ (x75_2 : Int), v75 = .int .i64 x75_2 ∧ Aside0 (slotmeshlaw17_MediumJams.l0 kq l1 a4 t234 t236 t252 l0 (l0.length : Int) x75_2 a5_0 a5_1 a5_2 a5_3 a5_4 = some r) ∧ Aside0 (kq ≤ kj13) ∧ Aside0 (Kd.R (Kd.int .i64) 3 w' w.heap.size (fun k_ => some k_ ≠ (v254 : Value).ownBlock) v238 t236) ∧ Aside0 (Kd.R (Kd.int .i64) 3 w' w.heap.size (fun k_ => some k_ ≠ (v238 : Value).ownBlock) v254 t252) ∧ Aside0 (w'.heap[gb233]? = some (.cells #[.int .i64 a5_0, .int .i64 a5_1, .int .i64 a5_2, .int .i64 a5_3, .int .i64 a5_4] 42 (0, 0))) ∧ Aside0 (Below w.heap.size w w'))
       case atStart => exact ⟨(0), (by first | rfl | (simp; done) | (simp [*]; done)), H', ⟨Nat.le_refl _⟩, ⟨by kr_; exact HO_14.out⟩, ⟨by kr_; exact HO_16.out⟩, ⟨by bk_; exact BK233.out⟩, ⟨by repeat (first | (with_reducible first | exact HB.out | apply below_alloc | apply pw_below_drewN | apply below_drew1 | refine below_set ?_ GE233.out) | exact HB.out)⟩⟩
       case round =>
        clear H'
        try clear c1
        try clear c2
        try clear p2
        try clear c3
        try clear c5
        try clear c6
        try clear c9
        try clear c11
        try clear c12
        try clear c27
        try clear c28
        try clear c29
        try clear c30
        try clear c30b0
        try clear c30b1
        try clear c31
        try clear c31b0
        try clear c31b1
        try clear c32
        try clear c32b0
        try clear c32b1
        try clear c32b2
        try clear c36
        try clear p2
        obtain ⟨x75_2, rfl, HA, HK2, HO_14, HO_16, BK233, HB⟩ := hrel
        cases gk with
        | zero => exact absurd HA.out (by simp [slotmeshlaw17_MediumJams.l0])
        | succ k2 =>
         have H := HA.out
         clear HA
         simp only [slotmeshlaw17_MediumJams.l0] at H
         by_cases c37 : x75_2 < (l0.length : Int)
         ·
          rw [if_pos c37] at H
          have c37b0 : decide (x75_2 < (l0.length : Int)) = true := decide_eq_true c37
          clear c37
          by_cases c38 : 0 ≤ x75_2
          ·
           rw [if_pos c38] at H
           have c38b0 : decide (0 ≤ x75_2) = true := decide_eq_true c38
           clear c38
           by_cases c39 : x75_2 < (l0.length : Int)
           ·
            rw [if_pos c39] at H
            have c39b0 : decide (x75_2 < (l0.length : Int)) = true := decide_eq_true c39
            clear c39
            by_cases c40 : ((rd_T50 l0 x75_2).f0) = 1
            ·
             rw [if_pos c40] at H
             have c40b0 : (((rd_T50 l0 x75_2).f0) == 1) = true := beq_iff_eq.mpr c40
             have c40b1 : (((rd_T50 l0 x75_2).f0) != 1) = false := bne_eq_false_iff_eq.mpr c40
             clear c40
             obtain ⟨y258, hy258⟩ : ∃ y_ : List (S42), y_ = (([(⟨(⟨a5_0, a5_1⟩ : S25), a5_2, a5_3, a5_4⟩ : S42)] : List (S42))) := ⟨_, rfl⟩
             replace H : (if x75_2 < (l1.length : Int) then ((plane_Jammed.f y258 ((rd_T25 l1 x75_2).f0) ((rd_T25 l1 x75_2).f1) ((rd_T50 l0 x75_2).f1) a4).bind fun t262 => (if t262 = true then (if x75_2 < (t252.length : Int) then (if (rd t252 x75_2) = (-2) then (slotmeshlaw17_MediumJams.l0 k2 l1 a4 t234 t236 t252 l0 (l0.length : Int) (wrap64 (x75_2 + 1)) a5_0 a5_1 a5_2 a5_3 a5_4) else (some false)) else (none)) else (if x75_2 < (t236.length : Int) then (if x75_2 < (t252.length : Int) then (if (rd t236 x75_2) = (rd t252 x75_2) then (slotmeshlaw17_MediumJams.l0 k2 l1 a4 t234 t236 t252 l0 (l0.length : Int) (wrap64 (x75_2 + 1)) a5_0 a5_1 a5_2 a5_3 a5_4) else (some false)) else (none)) else (none)))) else (none)) = some r := by first | (rw [hy258]; with_reducible exact H) | (have H2_ := (Option.bind_some _ _).symm.trans H; rw [hy258]; with_reducible exact H2_) | (have H2_ := (Option.bind_some _ _).symm.trans H; with_reducible exact H2_) | with_reducible exact H | (rw [hy258]; exact H) | exact H
             have Ny258 := Aside0.mk hy258
             clear hy258
             by_cases c41 : x75_2 < (l1.length : Int)
             ·
              rw [if_pos c41] at H
              have c41b0 : decide (x75_2 < (l1.length : Int)) = true := decide_eq_true c41
              clear c41
              replace H := Option.bind_eq_some_iff.mp H
              obtain ⟨t262, A420, H⟩ := H
              replace H : (if t262 = true then (if x75_2 < (t252.length : Int) then (if (rd t252 x75_2) = (-2) then (slotmeshlaw17_MediumJams.l0 k2 l1 a4 t234 t236 t252 l0 (l0.length : Int) (wrap64 (x75_2 + 1)) a5_0 a5_1 a5_2 a5_3 a5_4) else (some false)) else (none)) else (if x75_2 < (t236.length : Int) then (if x75_2 < (t252.length : Int) then (if (rd t236 x75_2) = (rd t252 x75_2) then (slotmeshlaw17_MediumJams.l0 k2 l1 a4 t234 t236 t252 l0 (l0.length : Int) (wrap64 (x75_2 + 1)) a5_0 a5_1 a5_2 a5_3 a5_4) else (some false)) else (none)) else (none))) = some r := H
              have A42 := Aside0.mk A420
              clear A420
              by_cases c43 : t262 = true
              ·
               subst c43
               have H1 : (if x75_2 < (t252.length : Int) then (if (rd t252 x75_2) = (-2) then (slotmeshlaw17_MediumJams.l0 k2 l1 a4 t234 t236 t252 l0 (l0.length : Int) (wrap64 (x75_2 + 1)) a5_0 a5_1 a5_2 a5_3 a5_4) else (some false)) else (none)) = some r := by rw [if_pos rfl] at H; exact H
               clear H
               have H := H1
               clear H1
               by_cases c44 : x75_2 < (t252.length : Int)
               ·
                rw [if_pos c44] at H
                have c44b0 : decide (x75_2 < (t252.length : Int)) = true := decide_eq_true c44
                clear c44
                by_cases c45 : (rd t252 x75_2) = (-2)
                ·
                 rw [if_pos c45] at H
                 have c45b0 : ((rd t252 x75_2) == (-2)) = true := beq_iff_eq.mpr c45
                 have c45b1 : ((rd t252 x75_2) != (-2)) = false := bne_eq_false_iff_eq.mpr c45
                 clear c45
                 have H' := Aside0.mk H
                 clear H
                 have p256 : 0 ≤ (x75_2 : Int) := of_decide_eq_true (by first | (with_reducible assumption) | assumption)
                 have q256 : x75_2 < (l0.length : Int) := of_decide_eq_true (by first | (with_reducible assumption) | assumption)
                 obtain ⟨ad256, e256, hx256_0, hx256_1, hx256_2, hx256_3, hx256_4⟩ := at_T50 HR0.out x75_2 p256 q256
                 cases e256
                 replace hx256_0 := (HB.out.cell (World.block_lt_of_cell? w _ hx256_0)).trans hx256_0
                 replace hx256_1 := (HB.out.cell (World.block_lt_of_cell? w _ hx256_1)).trans hx256_1
                 replace hx256_2 := (HB.out.cell (World.block_lt_of_cell? w _ hx256_2)).trans hx256_2
                 replace hx256_3 := (HB.out.cell (World.block_lt_of_cell? w _ hx256_3)).trans hx256_3
                 replace hx256_4 := (HB.out.cell (World.block_lt_of_cell? w _ hx256_4)).trans hx256_4
                 replace p256 := eq_true p256
                 replace q256 := eq_true q256
                 try go_wp2_with (first | ((with_reducible refine gate_dst (N := 19) rfl ?_); (try (refine gate_guard (by rfl) ?_; dsimp only)); refine box_event ?hg (N := 19) ?hd (cs := #[.int .i64 0, .int .i64 0, .int .i64 0, .int .i64 0, .int .i64 0]) (t := 50) ?hr ?_; (case hd => rfl); (case hg => rfl); (case hr => first | (go_simp; done) | (go_simp; rfl)); intro gb257 hg w46 hbox hb; have n0_ := Aside0.mk (Kd.R_below (by kr_; exact HO_14.out) hb); have n1_ := Aside0.mk (Kd.R_below (by kr_; exact HO_16.out) hb); have n2_ := Aside0.mk (blk_below (g := gb233) (o := .cells #[.int .i64 a5_0, .int .i64 a5_1, .int .i64 a5_2, .int .i64 a5_3, .int .i64 a5_4] 42 (0, 0)) (by bk_; exact BK233.out) hb); have n3_ := Aside0.mk (below_step (by hb0_) hb); have n4_ := Aside0.mk (hbox); have n5_ := Aside0.mk ((by rw [hg]; exact (below_size (by hb0_)) : w.heap.size ≤ gb257)); have n6_ := Aside0.mk ((by rw [hg]; exact (below_size (by hb0_)) : w.heap.size ≤ gb257)); have n7_ := Aside0.mk ((by rw [hg]; exact Nat.ne_of_lt (blk_lt (g := gb233) (o := .cells #[.int .i64 a5_0, .int .i64 a5_1, .int .i64 a5_2, .int .i64 a5_3, .int .i64 a5_4] 42 (0, 0)) (by bk_; exact BK233.out)) : gb233 ≠ gb257)); have n8_ := Aside0.mk ((by rw [hg]; exact Nat.ne_of_gt (blk_lt (g := gb233) (o := .cells #[.int .i64 a5_0, .int .i64 a5_1, .int .i64 a5_2, .int .i64 a5_3, .int .i64 a5_4] 42 (0, 0)) (by bk_; exact BK233.out)) : gb257 ≠ gb233)); clear HO_14; clear HO_16; clear BK233; clear HB; have HO_14 := n0_; have HO_16 := n1_; have BK233 := n2_; have HB := n3_; have BK257 := n4_; have GW257 := n5_; have GE257 := n6_; have NB233_257 := n7_; have NB257_233 := n8_; clear n0_ n1_ n2_ n3_ n4_ n5_ n6_ n7_ n8_; clear hb hbox hg; have hnb47 := NB257_233.out; have hnc47 := NB233_257.out; have hcz48_0 : w46.cell? ⟨gb257, 0, none⟩ = some (.int .i64 0) := (blk_cell BK257.out 0).trans rfl; have hcz48_1 : w46.cell? ⟨gb257, 1, none⟩ = some (.int .i64 0) := (blk_cell BK257.out 1).trans rfl; have hcz48_2 : w46.cell? ⟨gb257, 2, none⟩ = some (.int .i64 0) := (blk_cell BK257.out 2).trans rfl; have hcz48_3 : w46.cell? ⟨gb257, 3, none⟩ = some (.int .i64 0) := (blk_cell BK257.out 3).trans rfl; have hcz48_4 : w46.cell? ⟨gb257, 4, none⟩ = some (.int .i64 0) := (blk_cell BK257.out 4).trans rfl; have hfz48_0 := blk_frozen BK257.out 0; have hfz48_1 := blk_frozen BK257.out 1; have hfz48_2 := blk_frozen BK257.out 2; have hfz48_3 := blk_frozen BK257.out 3; have hfz48_4 := blk_frozen BK257.out 4))
                 have n0_ : Aside0 (Kd.R (Kd.int .i64) 3 (((((w46.setCell ⟨gb257, 0, none⟩ (.int .i64 ((rd_T50 l0 x75_2).f0))).setCell ⟨gb257, 1, none⟩ (.int .i64 ((rd_T50 l0 x75_2).f1))).setCell ⟨gb257, 2, none⟩ (.int .i64 ((rd_T50 l0 x75_2).f2))).setCell ⟨gb257, 3, none⟩ (.int .i64 ((rd_T50 l0 x75_2).f3.f0))).setCell ⟨gb257, 4, none⟩ (.int .i64 ((rd_T50 l0 x75_2).f3.f1))) w.heap.size (fun k_ => some k_ ≠ (v254 : Value).ownBlock) v238 t236) := ⟨by kr_; exact Kd.R_mono (Kd.R_far (p := ⟨gb257, 4, none⟩) (Kd.R_far (p := ⟨gb257, 3, none⟩) (Kd.R_far (p := ⟨gb257, 2, none⟩) (Kd.R_far (p := ⟨gb257, 1, none⟩) (Kd.R_far (p := ⟨gb257, 0, none⟩) (Kd.R_types HO_14.out BK257.out (by decide)) (fun _ hk => hk.2) (.int .i64 ((rd_T50 l0 x75_2).f0))) (fun _ hk => hk.2) (.int .i64 ((rd_T50 l0 x75_2).f1))) (fun _ hk => hk.2) (.int .i64 ((rd_T50 l0 x75_2).f2))) (fun _ hk => hk.2) (.int .i64 ((rd_T50 l0 x75_2).f3.f0))) (fun _ hk => hk.2) (.int .i64 ((rd_T50 l0 x75_2).f3.f1))) (fun _ hk => hk.1)⟩
                 have n1_ : Aside0 (Kd.R (Kd.int .i64) 3 (((((w46.setCell ⟨gb257, 0, none⟩ (.int .i64 ((rd_T50 l0 x75_2).f0))).setCell ⟨gb257, 1, none⟩ (.int .i64 ((rd_T50 l0 x75_2).f1))).setCell ⟨gb257, 2, none⟩ (.int .i64 ((rd_T50 l0 x75_2).f2))).setCell ⟨gb257, 3, none⟩ (.int .i64 ((rd_T50 l0 x75_2).f3.f0))).setCell ⟨gb257, 4, none⟩ (.int .i64 ((rd_T50 l0 x75_2).f3.f1))) w.heap.size (fun k_ => some k_ ≠ (v238 : Value).ownBlock) v254 t252) := ⟨by kr_; exact Kd.R_mono (Kd.R_far (p := ⟨gb257, 4, none⟩) (Kd.R_far (p := ⟨gb257, 3, none⟩) (Kd.R_far (p := ⟨gb257, 2, none⟩) (Kd.R_far (p := ⟨gb257, 1, none⟩) (Kd.R_far (p := ⟨gb257, 0, none⟩) (Kd.R_types HO_16.out BK257.out (by decide)) (fun _ hk => hk.2) (.int .i64 ((rd_T50 l0 x75_2).f0))) (fun _ hk => hk.2) (.int .i64 ((rd_T50 l0 x75_2).f1))) (fun _ hk => hk.2) (.int .i64 ((rd_T50 l0 x75_2).f2))) (fun _ hk => hk.2) (.int .i64 ((rd_T50 l0 x75_2).f3.f0))) (fun _ hk => hk.2) (.int .i64 ((rd_T50 l0 x75_2).f3.f1))) (fun _ hk => hk.1)⟩
                 have n2_ : Aside0 ((((((w46.setCell ⟨gb257, 0, none⟩ (.int .i64 ((rd_T50 l0 x75_2).f0))).setCell ⟨gb257, 1, none⟩ (.int .i64 ((rd_T50 l0 x75_2).f1))).setCell ⟨gb257, 2, none⟩ (.int .i64 ((rd_T50 l0 x75_2).f2))).setCell ⟨gb257, 3, none⟩ (.int .i64 ((rd_T50 l0 x75_2).f3.f0))).setCell ⟨gb257, 4, none⟩ (.int .i64 ((rd_T50 l0 x75_2).f3.f1))).heap[gb233]? = some (.cells #[.int .i64 a5_0, .int .i64 a5_1, .int .i64 a5_2, .int .i64 a5_3, .int .i64 a5_4] 42 (0, 0))) := ⟨by bk_; refine blk_far ?_ NB233_257.out _; bk_; refine blk_far ?_ NB233_257.out _; bk_; refine blk_far ?_ NB233_257.out _; bk_; refine blk_far ?_ NB233_257.out _; bk_; refine blk_far ?_ NB233_257.out _; bk_; exact BK233.out⟩
                 have n3_ : Aside0 ((((((w46.setCell ⟨gb257, 0, none⟩ (.int .i64 ((rd_T50 l0 x75_2).f0))).setCell ⟨gb257, 1, none⟩ (.int .i64 ((rd_T50 l0 x75_2).f1))).setCell ⟨gb257, 2, none⟩ (.int .i64 ((rd_T50 l0 x75_2).f2))).setCell ⟨gb257, 3, none⟩ (.int .i64 ((rd_T50 l0 x75_2).f3.f0))).setCell ⟨gb257, 4, none⟩ (.int .i64 ((rd_T50 l0 x75_2).f3.f1))).heap[gb257]? = some (.cells #[.int .i64 ((rd_T50 l0 x75_2).f0), .int .i64 ((rd_T50 l0 x75_2).f1), .int .i64 ((rd_T50 l0 x75_2).f2), .int .i64 ((rd_T50 l0 x75_2).f3.f0), .int .i64 ((rd_T50 l0 x75_2).f3.f1)] 50 (0, 0))) := ⟨by bk_; refine blk_put (cs := #[.int .i64 ((rd_T50 l0 x75_2).f0), .int .i64 ((rd_T50 l0 x75_2).f1), .int .i64 ((rd_T50 l0 x75_2).f2), .int .i64 ((rd_T50 l0 x75_2).f3.f0), .int .i64 0]) ?_ 4 _ rfl; bk_; refine blk_put (cs := #[.int .i64 ((rd_T50 l0 x75_2).f0), .int .i64 ((rd_T50 l0 x75_2).f1), .int .i64 ((rd_T50 l0 x75_2).f2), .int .i64 0, .int .i64 0]) ?_ 3 _ rfl; bk_; refine blk_put (cs := #[.int .i64 ((rd_T50 l0 x75_2).f0), .int .i64 ((rd_T50 l0 x75_2).f1), .int .i64 0, .int .i64 0, .int .i64 0]) ?_ 2 _ rfl; bk_; refine blk_put (cs := #[.int .i64 ((rd_T50 l0 x75_2).f0), .int .i64 0, .int .i64 0, .int .i64 0, .int .i64 0]) ?_ 1 _ rfl; bk_; refine blk_put (cs := #[.int .i64 0, .int .i64 0, .int .i64 0, .int .i64 0, .int .i64 0]) ?_ 0 _ rfl; bk_; exact BK257.out⟩
                 have n4_ : Aside0 (Below w.heap.size w (((((w46.setCell ⟨gb257, 0, none⟩ (.int .i64 ((rd_T50 l0 x75_2).f0))).setCell ⟨gb257, 1, none⟩ (.int .i64 ((rd_T50 l0 x75_2).f1))).setCell ⟨gb257, 2, none⟩ (.int .i64 ((rd_T50 l0 x75_2).f2))).setCell ⟨gb257, 3, none⟩ (.int .i64 ((rd_T50 l0 x75_2).f3.f0))).setCell ⟨gb257, 4, none⟩ (.int .i64 ((rd_T50 l0 x75_2).f3.f1)))) := ⟨by repeat (first | (with_reducible first | exact HB.out | apply below_alloc | apply pw_below_drewN | apply below_drew1 | refine below_set ?_ GE233.out | refine below_set ?_ GE257.out) | exact HB.out)⟩
                 (try clear HO_14)
                 (try clear HO_16)
                 (try clear BK233)
                 (try clear BK257)
                 (try clear HB)
                 generalize (((((w46.setCell ⟨gb257, 0, none⟩ (.int .i64 ((rd_T50 l0 x75_2).f0))).setCell ⟨gb257, 1, none⟩ (.int .i64 ((rd_T50 l0 x75_2).f1))).setCell ⟨gb257, 2, none⟩ (.int .i64 ((rd_T50 l0 x75_2).f2))).setCell ⟨gb257, 3, none⟩ (.int .i64 ((rd_T50 l0 x75_2).f3.f0))).setCell ⟨gb257, 4, none⟩ (.int .i64 ((rd_T50 l0 x75_2).f3.f1))) = w49 at n0_ n1_ n2_ n3_ n4_ ⊢
                 have HO_14 := n0_
                 have HO_16 := n1_
                 have BK233 := n2_
                 have BK257 := n3_
                 have HB := n4_
                 clear n0_ n1_ n2_ n3_ n4_
                 have n0_ := Aside0.mk (Kd.R_drew HO_14.out)
                 have n1_ := Aside0.mk (Kd.R_drew HO_16.out)
                 have n2_ := Aside0.mk (blk_drew BK233.out)
                 have n3_ := Aside0.mk (blk_drew BK257.out)
                 have n4_ := Aside0.mk (below_drew1 HB.out)
                 clear HO_14
                 clear HO_16
                 clear BK233
                 clear BK257
                 clear HB
                 have HO_14 := n0_
                 have HO_16 := n1_
                 have BK233 := n2_
                 have BK257 := n3_
                 have HB := n4_
                 clear n0_ n1_ n2_ n3_ n4_
                 have p261 : 0 ≤ (x75_2 : Int) := of_decide_eq_true (by first | (with_reducible assumption) | assumption)
                 have q261 : x75_2 < (l1.length : Int) := of_decide_eq_true (by first | (with_reducible assumption) | assumption)
                 obtain ⟨ad261, e261, hx261_0, hx261_1⟩ := at_T25 HR1.out x75_2 p261 q261
                 have hw261_1 := hx261_1
                 have hw261_0 := hx261_0
                 cases e261
                 replace hx261_0 := (HB.out.cell (World.block_lt_of_cell? w _ hx261_0)).trans hx261_0
                 replace hx261_1 := (HB.out.cell (World.block_lt_of_cell? w _ hx261_1)).trans hx261_1
                 replace p261 := eq_true p261
                 replace q261 := eq_true q261
                 refine start_ (n := 16) (S := fun w' => w'.cell? ⟨gb257, 0, none⟩ = some (.int .i64 ((rd_T50 l0 x75_2).f0)) ∧ w'.cell? ⟨gb257, 1, none⟩ = some (.int .i64 ((rd_T50 l0 x75_2).f1)) ∧ w'.cell? ⟨gb257, 2, none⟩ = some (.int .i64 ((rd_T50 l0 x75_2).f2)) ∧ w'.cell? ⟨gb257, 3, none⟩ = some (.int .i64 ((rd_T50 l0 x75_2).f3.f0)) ∧ w'.cell? ⟨gb257, 4, none⟩ = some (.int .i64 ((rd_T50 l0 x75_2).f3.f1)) ∧ w'.cell? ⟨gb233, 0, none⟩ = some (.int .i64 a5_0) ∧ w'.cell? ⟨gb233, 1, none⟩ = some (.int .i64 a5_1) ∧ w'.cell? ⟨gb233, 2, none⟩ = some (.int .i64 a5_2) ∧ w'.cell? ⟨gb233, 3, none⟩ = some (.int .i64 a5_3) ∧ w'.cell? ⟨gb233, 4, none⟩ = some (.int .i64 a5_4) ∧ w'.cell? (ad261.add ((x75_2).toNat * 2)) = some (.int .i64 ((rd_T25 l1 x75_2).f0)) ∧ w'.cell? ⟨(ad261.add ((x75_2).toNat * 2)).block, (ad261.add ((x75_2).toNat * 2)).off + 1, none⟩ = some (.int .i64 ((rd_T25 l1 x75_2).f1))) (ds := []) #[false, false, false, false, false, false, false, false, false, false, false, false, false, false, false, false] (by kernel_rfl) rfl rfl ⟨(blk_cell BK257.out 0).trans rfl, (blk_cell BK257.out 1).trans rfl, (blk_cell BK257.out 2).trans rfl, (blk_cell BK257.out 3).trans rfl, (blk_cell BK257.out 4).trans rfl, (blk_cell BK233.out 0).trans rfl, (blk_cell BK233.out 1).trans rfl, (blk_cell BK233.out 2).trans rfl, (blk_cell BK233.out 3).trans rfl, (blk_cell BK233.out 4).trans rfl, ((HB.out.cell (World.block_lt_of_cell? w _ hw261_0)).trans hw261_0), ((HB.out.cell (World.block_lt_of_cell? w _ hw261_1)).trans hw261_1)⟩ (fun hHeld => ?_); refine with_tabW slotmeshlaw17_MediumJams.tab11 slotmeshlaw17_MediumJams.bits11 (fun HT_ HW_ => ?_)
                 generalize w49.drew = w50 at HO_14 HO_16 BK233 BK257 HB hx261_0 hx261_1 hHeld ⊢
                 pz0_ 0 80 #[true, false, false, false, false, false, false, false, false, false, false, false, false, false, false, false]
                 rotate_left
                 ·
                  simp only [Act.put, List.setIfInBounds_toArray, List.set_cons_zero, List.set_cons_succ, i64_w, i32_w]
                  rfl
                 pz2_ 1 81 #[true, true, false, false, false, false, false, false, false, false, false, false, false, false, false, false]
                 rotate_left
                 ·
                  simp only [Act.put, List.setIfInBounds_toArray, List.set_cons_zero, List.set_cons_succ, i64_w, i32_w]
                  rfl
                 pz0_ 2 82 #[true, true, true, false, false, false, false, false, false, false, false, false, false, false, false, false]
                 rotate_left
                 ·
                  simp only [Act.put, List.setIfInBounds_toArray, List.set_cons_zero, List.set_cons_succ, i64_w, i32_w]
                  rfl
                 pz0_ 3 83 #[true, true, true, true, false, false, false, false, false, false, false, false, false, false, false, false]
                 rotate_left
                 ·
                  simp only [Act.put, List.setIfInBounds_toArray, List.set_cons_zero, List.set_cons_succ, i64_w, i32_w]
                  rfl
                 pz0_ 6 86 #[true, true, true, true, false, false, true, false, false, false, false, false, false, false, false, false]
                 rotate_left
                 ·
                  simp only [Act.put, List.setIfInBounds_toArray, List.set_cons_zero, List.set_cons_succ, i64_w, i32_w]
                  rfl
                 pz0_ 7 87 #[true, true, true, true, false, false, true, true, false, false, false, false, false, false, false, false]
                 rotate_left
                 ·
                  simp only [Act.put, List.setIfInBounds_toArray, List.set_cons_zero, List.set_cons_succ, i64_w, i32_w]
                  rfl
                 pz0_ 8 88 #[true, true, true, true, false, false, true, true, true, false, false, false, false, false, false, false]
                 rotate_left
                 ·
                  simp only [Act.put, List.setIfInBounds_toArray, List.set_cons_zero, List.set_cons_succ, i64_w, i32_w]
                  rfl
                 pz0_ 10 90 #[true, true, true, true, false, false, true, true, true, false, true, false, false, false, false, false]
                 rotate_left
                 ·
                  simp only [Act.put, List.setIfInBounds_toArray, List.set_cons_zero, List.set_cons_succ, i64_w, i32_w]
                  rfl
                 pz0_ 12 92 #[true, true, true, true, false, false, true, true, true, false, true, false, true, false, false, false]
                 rotate_left
                 ·
                  simp only [Act.put, List.setIfInBounds_toArray, List.set_cons_zero, List.set_cons_succ, i64_w, i32_w]
                  rfl
                 pz2_ 4 84 #[true, true, true, true, true, false, true, true, true, false, true, false, true, false, false, false]
                 rotate_left
                 ·
                  simp only [Act.put, List.setIfInBounds_toArray, List.set_cons_zero, List.set_cons_succ, i64_w, i32_w]
                  rfl
                 pz2_ 9 89 #[true, true, true, true, true, false, true, true, true, true, true, false, true, false, false, false]
                 rotate_left
                 ·
                  simp only [Act.put, List.setIfInBounds_toArray, List.set_cons_zero, List.set_cons_succ, i64_w, i32_w]
                  rfl
                 pz2_ 11 91 #[true, true, true, true, true, false, true, true, true, true, true, true, true, false, false, false]
                 rotate_left
                 ·
                  simp only [Act.put, List.setIfInBounds_toArray, List.set_cons_zero, List.set_cons_succ, i64_w, i32_w]
                  rfl
                 refine one_ (i := 5) (N := some 85) #[true, true, true, true, true, true, true, true, true, true, true, true, true, false, false, false] rfl rfl (one_of HT_.out (by kernel_rfl)) (by decide) (fun K hK => ?_)
                 refine Kd.R_lit_step k42 _ 42 ?hg (N := 85) ?hd (xs := ([(⟨(⟨a5_0, a5_1⟩ : S25), a5_2, a5_3, a5_4⟩ : S42)] : List (S42))) (inner := [.int .i64 a5_0, .int .i64 a5_1, .int .i64 a5_2, .int .i64 a5_3, .int .i64 a5_4]) (ok := fun _ => True) (okp := fun _ => True) ?hr ?hp (fun _ hk => hk) trivial (Below.refl _ _) (Nat.le_refl _) (by simp) ?_; (case hd => rfl); (case hg => rfl); (case hr => first | (go_simp; done) | (go_simp; rfl)); (case hp => exact (Reps.c5 (show Kd.M k42 _ _ _ (⟨(⟨a5_0, a5_1⟩ : S25), a5_2, a5_3, a5_4⟩ : S42) [.int .i64 a5_0, .int .i64 a5_1, .int .i64 a5_2, .int .i64 a5_3, .int .i64 a5_4] from (k42_mkM _ _ _ (⟨(⟨a5_0, a5_1⟩ : S25), a5_2, a5_3, a5_4⟩ : S42) )) (Reps.none _ _)))
                 intro v259 w51 ho52 hb hg_ hnew_
                 clear hg_ hnew_
                 (first | rw [← Ny258.out] at ho52 | (simp only [Int.reduceToNat] at ho52; rw [← Ny258.out] at ho52))
                 have n0_ := Aside0.mk (Kd.R_below (by kr_; exact HO_14.out) hb)
                 have n1_ := Aside0.mk (Kd.R_below (by kr_; exact HO_16.out) hb)
                 have n2_ := Aside0.mk (Kd.R_lower (Kd.R_newB ho52 (g := gb233) (o := .cells #[.int .i64 a5_0, .int .i64 a5_1, .int .i64 a5_2, .int .i64 a5_3, .int .i64 a5_4] 42 (0, 0)) (by bk_; exact BK233.out)) (below_size (by hb1_)))
                 have n3_ := Aside0.mk (blk_below (g := gb233) (o := .cells #[.int .i64 a5_0, .int .i64 a5_1, .int .i64 a5_2, .int .i64 a5_3, .int .i64 a5_4] 42 (0, 0)) (by bk_; exact BK233.out) hb)
                 have n4_ := Aside0.mk (blk_below (g := gb257) (o := .cells #[.int .i64 ((rd_T50 l0 x75_2).f0), .int .i64 ((rd_T50 l0 x75_2).f1), .int .i64 ((rd_T50 l0 x75_2).f2), .int .i64 ((rd_T50 l0 x75_2).f3.f0), .int .i64 ((rd_T50 l0 x75_2).f3.f1)] 50 (0, 0)) (by bk_; exact BK257.out) hb)
                 have n5_ := Aside0.mk (below_step (by hb1_) hb)
                 clear HO_14
                 clear HO_16
                 clear BK233
                 clear BK257
                 clear HB
                 have HO_14 := n0_
                 have HO_16 := n1_
                 have HO260 := n2_
                 have BK233 := n3_
                 have BK257 := n4_
                 have HB := n5_
                 clear n0_ n1_ n2_ n3_ n4_ n5_
                 clear hb ho52
                 obtain ⟨Ao53, co53, eo53⟩ := Kd.R_slice HO260.out
                 (first | subst eo53 | (injection eo53 with f1_ f2_ f3_; have f4_ := f1_.symm; have f5_ := f3_.symm; clear f1_ f2_ f3_; subst f4_; subst f5_))
                 refine hK.out _ _ ⟨(blk_cell BK257.out 0).trans rfl, (blk_cell BK257.out 1).trans rfl, (blk_cell BK257.out 2).trans rfl, (blk_cell BK257.out 3).trans rfl, (blk_cell BK257.out 4).trans rfl, (blk_cell BK233.out 0).trans rfl, (blk_cell BK233.out 1).trans rfl, (blk_cell BK233.out 2).trans rfl, (blk_cell BK233.out 3).trans rfl, (blk_cell BK233.out 4).trans rfl, ((HB.out.cell (World.block_lt_of_cell? w _ hw261_0)).trans hw261_0), ((HB.out.cell (World.block_lt_of_cell? w _ hw261_1)).trans hw261_1)⟩ (fun hHeld => ?_)
                 clear hK K
                 refine norm_ (a' := ?_) ?_ ?_
                 rotate_left
                 ·
                  show Act.put _ (some 85) _ = _
                  simp only [Act.put, List.setIfInBounds_toArray, List.set_cons_zero, List.set_cons_succ, i64_w, i32_w]
                  rfl
                 refine one_ (i := 13) (N := some 93) #[true, true, true, true, true, true, true, true, true, true, true, true, true, true, false, false] rfl rfl (one_of HT_.out (by kernel_rfl)) (by decide) (fun K hK => ?_)
                 refine goes_ Try.func23 (by kernel_rfl) rfl #[.slice Ao53 y258.length co53, .agg #[.int .i64 ((rd_T25 l1 x75_2).f0), .int .i64 ((rd_T25 l1 x75_2).f1)], .int .i64 ((rd_T50 l0 x75_2).f1), .int .i64 a4] (by rfl) rfl rfl (by (try simp only [List.map_toArray, List.map_cons, List.map_nil]); first | done | rfl | (simp only [List.length_drop, List.length_take]; rfl)) ?_
                 with_reducible refine (plane_Jammed.calls _ _ y258 ((rd_T25 l1 x75_2).f0) ((rd_T25 l1 x75_2).f1) ((rd_T50 l0 x75_2).f1) a4 true _ ?side1 ?side2 A42.out).mono ?_
                 (case side1 => repeat (first | exact (Kd.R_reads' HO260.out).2.2 | (with_reducible refine Kd.C_alloc ?_ _) | (with_reducible refine Kd.C_drewN ?_ _) | (with_reducible refine Kd.C_drew ?_)))
                 (case side2 => exact (Kd.R_reads' HO260.out).2.1)
                 rintro e w54 ⟨rfl, hb⟩
                 refine ⟨_, rfl, ?_⟩
                 have n0_ := Aside0.mk (Kd.R_below (by kr_; exact HO_14.out) hb)
                 have n1_ := Aside0.mk (Kd.R_below (by kr_; exact HO_16.out) hb)
                 have n2_ := Aside0.mk (Kd.R_below (by kr_; exact HO260.out) hb)
                 have n3_ := Aside0.mk (blk_below (g := gb233) (o := .cells #[.int .i64 a5_0, .int .i64 a5_1, .int .i64 a5_2, .int .i64 a5_3, .int .i64 a5_4] 42 (0, 0)) (by bk_; exact BK233.out) hb)
                 have n4_ := Aside0.mk (blk_below (g := gb257) (o := .cells #[.int .i64 ((rd_T50 l0 x75_2).f0), .int .i64 ((rd_T50 l0 x75_2).f1), .int .i64 ((rd_T50 l0 x75_2).f2), .int .i64 ((rd_T50 l0 x75_2).f3.f0), .int .i64 ((rd_T50 l0 x75_2).f3.f1)] 50 (0, 0)) (by bk_; exact BK257.out) hb)
                 have n5_ := Aside0.mk (below_step (by hb1_) hb)
                 clear HO_14
                 clear HO_16
                 clear HO260
                 clear BK233
                 clear BK257
                 clear HB
                 have HO_14 := n0_
                 have HO_16 := n1_
                 have HO260 := n2_
                 have BK233 := n3_
                 have BK257 := n4_
                 have HB := n5_
                 clear n0_ n1_ n2_ n3_ n4_ n5_
                 (try clear hb)
                 (try clear hb2)
                 (try clear hk)
                 (try clear hi)
                 refine hK.out _ _ ⟨(blk_cell BK257.out 0).trans rfl, (blk_cell BK257.out 1).trans rfl, (blk_cell BK257.out 2).trans rfl, (blk_cell BK257.out 3).trans rfl, (blk_cell BK257.out 4).trans rfl, (blk_cell BK233.out 0).trans rfl, (blk_cell BK233.out 1).trans rfl, (blk_cell BK233.out 2).trans rfl, (blk_cell BK233.out 3).trans rfl, (blk_cell BK233.out 4).trans rfl, ((HB.out.cell (World.block_lt_of_cell? w _ hw261_0)).trans hw261_0), ((HB.out.cell (World.block_lt_of_cell? w _ hw261_1)).trans hw261_1)⟩ (fun hHeld => ?_)
                 clear hK K
                 refine norm_ (a' := ?_) ?_ ?_
                 rotate_left
                 ·
                  show Act.put _ (some 93) _ = _
                  simp only [Act.put, List.setIfInBounds_toArray, List.set_cons_zero, List.set_cons_succ, i64_w, i32_w]
                  rfl
                 pz0_ 14 94 #[true, true, true, true, true, true, true, true, true, true, true, true, true, true, true, false]
                 rotate_left
                 ·
                  simp only [Act.put, List.setIfInBounds_toArray, List.set_cons_zero, List.set_cons_succ, i64_w, i32_w]
                  rfl
                 pz0_ 15 20 #[true, true, true, true, true, true, true, true, true, true, true, true, true, true, true, true]
                 rotate_left
                 ·
                  simp only [Act.put, List.setIfInBounds_toArray, List.set_cons_zero, List.set_cons_succ, i64_w, i32_w]
                  rfl
                 refine done_ (done_of HT_.out (by kernel_rfl)) ?_
                 try go_wp2
                 have n0_ := Aside0.mk (Kd.R_drew HO_14.out)
                 have n1_ := Aside0.mk (Kd.R_drew HO_16.out)
                 have n2_ := Aside0.mk (Kd.R_drew HO260.out)
                 have n3_ := Aside0.mk (blk_drew BK233.out)
                 have n4_ := Aside0.mk (blk_drew BK257.out)
                 have n5_ := Aside0.mk (below_drew1 HB.out)
                 clear HO_14
                 clear HO_16
                 clear HO260
                 clear BK233
                 clear BK257
                 clear HB
                 have HO_14 := n0_
                 have HO_16 := n1_
                 have HO260 := n2_
                 have BK233 := n3_
                 have BK257 := n4_
                 have HB := n5_
                 clear n0_ n1_ n2_ n3_ n4_ n5_
                 obtain ⟨Ao56, co56, eo56⟩ := Kd.R_slice HO_16.out
                 (first | subst eo56 | (injection eo56 with f1_ f2_ f3_; have f4_ := f1_.symm; have f5_ := f3_.symm; clear f1_ f2_ f3_; subst f4_; subst f5_))
                 have p263 : 0 ≤ (x75_2 : Int) := of_decide_eq_true (by first | (with_reducible assumption) | assumption)
                 have q263 : x75_2 < (t252.length : Int) := of_decide_eq_true (by first | (with_reducible assumption) | assumption)
                 obtain ⟨ad263, e263, hx263_0⟩ := Kd.at_int (Kd.R_reads' HO_16.out).2.2 x75_2 p263 q263
                 cases e263
                 replace p263 := eq_true p263
                 replace q263 := eq_true q263
                 refine start_ (n := 23) (S := fun w' => w'.cell? (ad263.add (x75_2).toNat) = some (.int .i64 (rd t252 x75_2))) (ds := []) #[false, false, false, false, false, false, false, false, false, false, false, false, false, false, false, false, false, false, false, false, false, false, false] (by kernel_rfl) rfl rfl (hx263_0) (fun hHeld => ?_); refine with_tabW slotmeshlaw17_MediumJams.tab12 slotmeshlaw17_MediumJams.bits12 (fun HT_ HW_ => ?_)
                 generalize w54.drew = w55 at HO_14 HO_16 HO260 BK233 BK257 HB hx263_0 hHeld ⊢
                 pz0_ 0 95 #[true, false, false, false, false, false, false, false, false, false, false, false, false, false, false, false, false, false, false, false, false, false, false]
                 rotate_left
                 ·
                  simp only [Act.put, List.setIfInBounds_toArray, List.set_cons_zero, List.set_cons_succ, i64_w, i32_w]
                  rfl
                 pz0_ 1 96 #[true, true, false, false, false, false, false, false, false, false, false, false, false, false, false, false, false, false, false, false, false, false, false]
                 rotate_left
                 ·
                  simp only [Act.put, List.setIfInBounds_toArray, List.set_cons_zero, List.set_cons_succ, i64_w, i32_w]
                  rfl
                 pz0_ 2 97 #[true, true, true, false, false, false, false, false, false, false, false, false, false, false, false, false, false, false, false, false, false, false, false]
                 rotate_left
                 ·
                  simp only [Act.put, List.setIfInBounds_toArray, List.set_cons_zero, List.set_cons_succ, i64_w, i32_w]
                  rfl
                 pz0_ 3 98 #[true, true, true, true, false, false, false, false, false, false, false, false, false, false, false, false, false, false, false, false, false, false, false]
                 rotate_left
                 ·
                  simp only [Act.put, List.setIfInBounds_toArray, List.set_cons_zero, List.set_cons_succ, i64_w, i32_w]
                  rfl
                 pz0_ 4 99 #[true, true, true, true, true, false, false, false, false, false, false, false, false, false, false, false, false, false, false, false, false, false, false]
                 rotate_left
                 ·
                  simp only [Act.put, List.setIfInBounds_toArray, List.set_cons_zero, List.set_cons_succ, i64_w, i32_w]
                  rfl
                 refine take_ (i := 5) (N := some 100) (v := ?_) (a' := ?_) #[true, true, true, true, true, true, false, false, false, false, false, false, false, false, false, false, false, false, false, false, false, false, false] rfl rfl (take_ofW HT_.out HW_.out (by kernel_rfl)) (fun _ _ _ h => h) (Or.inl ⟨by rfl, ?_⟩) hHeld ?_ ?_
                 rotate_left
                 ·
                  intro w' s0
                  go_simp
                  with_reducible rfl
                 rotate_left
                 ·
                  simp only [Act.put, List.setIfInBounds_toArray, List.set_cons_zero, List.set_cons_succ, i64_w, i32_w]
                  rfl
                 pz0_ 6 101 #[true, true, true, true, true, true, true, false, false, false, false, false, false, false, false, false, false, false, false, false, false, false, false]
                 rotate_left
                 ·
                  simp only [Act.put, List.setIfInBounds_toArray, List.set_cons_zero, List.set_cons_succ, i64_w, i32_w]
                  rfl
                 pz0_ 7 102 #[true, true, true, true, true, true, true, true, false, false, false, false, false, false, false, false, false, false, false, false, false, false, false]
                 rotate_left
                 ·
                  simp only [Act.put, List.setIfInBounds_toArray, List.set_cons_zero, List.set_cons_succ, i64_w, i32_w]
                  rfl
                 pz0_ 8 103 #[true, true, true, true, true, true, true, true, true, false, false, false, false, false, false, false, false, false, false, false, false, false, false]
                 rotate_left
                 ·
                  simp only [Act.put, List.setIfInBounds_toArray, List.set_cons_zero, List.set_cons_succ, i64_w, i32_w]
                  rfl
                 pz0_ 9 104 #[true, true, true, true, true, true, true, true, true, true, false, false, false, false, false, false, false, false, false, false, false, false, false]
                 rotate_left
                 ·
                  simp only [Act.put, List.setIfInBounds_toArray, List.set_cons_zero, List.set_cons_succ, i64_w, i32_w]
                  rfl
                 pz0_ 10 105 #[true, true, true, true, true, true, true, true, true, true, true, false, false, false, false, false, false, false, false, false, false, false, false]
                 rotate_left
                 ·
                  simp only [Act.put, List.setIfInBounds_toArray, List.set_cons_zero, List.set_cons_succ, i64_w, i32_w]
                  rfl
                 pz0_ 11 106 #[true, true, true, true, true, true, true, true, true, true, true, true, false, false, false, false, false, false, false, false, false, false, false]
                 rotate_left
                 ·
                  simp only [Act.put, List.setIfInBounds_toArray, List.set_cons_zero, List.set_cons_succ, i64_w, i32_w]
                  rfl
                 pz1_ 12 107 #[true, true, true, true, true, true, true, true, true, true, true, true, true, false, false, false, false, false, false, false, false, false, false]
                 pz1_ 13 108 #[true, true, true, true, true, true, true, true, true, true, true, true, true, true, false, false, false, false, false, false, false, false, false]
                 pz1_ 14 109 #[true, true, true, true, true, true, true, true, true, true, true, true, true, true, true, false, false, false, false, false, false, false, false]
                 pz1_ 15 110 #[true, true, true, true, true, true, true, true, true, true, true, true, true, true, true, true, false, false, false, false, false, false, false]
                 pz1_ 16 111 #[true, true, true, true, true, true, true, true, true, true, true, true, true, true, true, true, true, false, false, false, false, false, false]
                 pz1_ 17 112 #[true, true, true, true, true, true, true, true, true, true, true, true, true, true, true, true, true, true, false, false, false, false, false]
                 pz1_ 18 113 #[true, true, true, true, true, true, true, true, true, true, true, true, true, true, true, true, true, true, true, false, false, false, false]
                 pz1_ 19 114 #[true, true, true, true, true, true, true, true, true, true, true, true, true, true, true, true, true, true, true, true, false, false, false]
                 pz1_ 20 115 #[true, true, true, true, true, true, true, true, true, true, true, true, true, true, true, true, true, true, true, true, true, false, false]
                 pz0_ 21 116 #[true, true, true, true, true, true, true, true, true, true, true, true, true, true, true, true, true, true, true, true, true, true, false]
                 rotate_left
                 ·
                  simp only [Act.put, List.setIfInBounds_toArray, List.set_cons_zero, List.set_cons_succ, i64_w, i32_w]
                  rfl
                 pz0_ 22 117 #[true, true, true, true, true, true, true, true, true, true, true, true, true, true, true, true, true, true, true, true, true, true, true]
                 rotate_left
                 ·
                  simp only [Act.put, List.setIfInBounds_toArray, List.set_cons_zero, List.set_cons_succ, i64_w, i32_w]
                  rfl
                 refine done_ (done_of HT_.out (by kernel_rfl)) ?_
                 try go_wp2
                 go_roundg k2
                 case measure => have := HJ13.out; have := HK2.out; omega
                 case rel => exact ⟨(wrap64 (x75_2 + 1)), (by first | rfl | (simp; done) | (simp [*]; done)), H', ⟨by have := HJ13.out; have := HK2.out; omega⟩, ⟨by kr_; exact HO_14.out⟩, ⟨by kr_; exact HO_16.out⟩, ⟨by bk_; exact BK233.out⟩, ⟨by repeat (first | (with_reducible first | exact HB.out | apply below_alloc | apply pw_below_drewN | apply below_drew1 | refine below_set ?_ GE233.out | refine below_set ?_ GE257.out) | exact HB.out)⟩⟩
                ·
                 rw [if_neg c45] at H
                 have c45b0 : ((rd t252 x75_2) == (-2)) = false := beq_eq_false_iff_ne.mpr c45
                 have c45b1 : ((rd t252 x75_2) != (-2)) = true := bne_iff_ne.mpr c45
                 obtain rfl := Option.some.inj H
                 have p256 : 0 ≤ (x75_2 : Int) := of_decide_eq_true (by first | (with_reducible assumption) | assumption)
                 have q256 : x75_2 < (l0.length : Int) := of_decide_eq_true (by first | (with_reducible assumption) | assumption)
                 obtain ⟨ad256, e256, hx256_0, hx256_1, hx256_2, hx256_3, hx256_4⟩ := at_T50 HR0.out x75_2 p256 q256
                 cases e256
                 replace hx256_0 := (HB.out.cell (World.block_lt_of_cell? w _ hx256_0)).trans hx256_0
                 replace hx256_1 := (HB.out.cell (World.block_lt_of_cell? w _ hx256_1)).trans hx256_1
                 replace hx256_2 := (HB.out.cell (World.block_lt_of_cell? w _ hx256_2)).trans hx256_2
                 replace hx256_3 := (HB.out.cell (World.block_lt_of_cell? w _ hx256_3)).trans hx256_3
                 replace hx256_4 := (HB.out.cell (World.block_lt_of_cell? w _ hx256_4)).trans hx256_4
                 replace p256 := eq_true p256
                 replace q256 := eq_true q256
                 try go_wp2_with (first | ((with_reducible refine gate_dst (N := 19) rfl ?_); (try (refine gate_guard (by rfl) ?_; dsimp only)); refine box_event ?hg (N := 19) ?hd (cs := #[.int .i64 0, .int .i64 0, .int .i64 0, .int .i64 0, .int .i64 0]) (t := 50) ?hr ?_; (case hd => rfl); (case hg => rfl); (case hr => first | (go_simp; done) | (go_simp; rfl)); intro gb257 hg w57 hbox hb; have n0_ := Aside0.mk (Kd.R_below (by kr_; exact HO_14.out) hb); have n1_ := Aside0.mk (Kd.R_below (by kr_; exact HO_16.out) hb); have n2_ := Aside0.mk (blk_below (g := gb233) (o := .cells #[.int .i64 a5_0, .int .i64 a5_1, .int .i64 a5_2, .int .i64 a5_3, .int .i64 a5_4] 42 (0, 0)) (by bk_; exact BK233.out) hb); have n3_ := Aside0.mk (below_step (by hb0_) hb); have n4_ := Aside0.mk (hbox); have n5_ := Aside0.mk ((by rw [hg]; exact (below_size (by hb0_)) : w.heap.size ≤ gb257)); have n6_ := Aside0.mk ((by rw [hg]; exact (below_size (by hb0_)) : w.heap.size ≤ gb257)); have n7_ := Aside0.mk ((by rw [hg]; exact Nat.ne_of_lt (blk_lt (g := gb233) (o := .cells #[.int .i64 a5_0, .int .i64 a5_1, .int .i64 a5_2, .int .i64 a5_3, .int .i64 a5_4] 42 (0, 0)) (by bk_; exact BK233.out)) : gb233 ≠ gb257)); have n8_ := Aside0.mk ((by rw [hg]; exact Nat.ne_of_gt (blk_lt (g := gb233) (o := .cells #[.int .i64 a5_0, .int .i64 a5_1, .int .i64 a5_2, .int .i64 a5_3, .int .i64 a5_4] 42 (0, 0)) (by bk_; exact BK233.out)) : gb257 ≠ gb233)); clear HO_14; clear HO_16; clear BK233; clear HB; have HO_14 := n0_; have HO_16 := n1_; have BK233 := n2_; have HB := n3_; have BK257 := n4_; have GW257 := n5_; have GE257 := n6_; have NB233_257 := n7_; have NB257_233 := n8_; clear n0_ n1_ n2_ n3_ n4_ n5_ n6_ n7_ n8_; clear hb hbox hg; have hnb58 := NB257_233.out; have hnc58 := NB233_257.out; have hcz59_0 : w57.cell? ⟨gb257, 0, none⟩ = some (.int .i64 0) := (blk_cell BK257.out 0).trans rfl; have hcz59_1 : w57.cell? ⟨gb257, 1, none⟩ = some (.int .i64 0) := (blk_cell BK257.out 1).trans rfl; have hcz59_2 : w57.cell? ⟨gb257, 2, none⟩ = some (.int .i64 0) := (blk_cell BK257.out 2).trans rfl; have hcz59_3 : w57.cell? ⟨gb257, 3, none⟩ = some (.int .i64 0) := (blk_cell BK257.out 3).trans rfl; have hcz59_4 : w57.cell? ⟨gb257, 4, none⟩ = some (.int .i64 0) := (blk_cell BK257.out 4).trans rfl; have hfz59_0 := blk_frozen BK257.out 0; have hfz59_1 := blk_frozen BK257.out 1; have hfz59_2 := blk_frozen BK257.out 2; have hfz59_3 := blk_frozen BK257.out 3; have hfz59_4 := blk_frozen BK257.out 4))
                 have n0_ : Aside0 (Kd.R (Kd.int .i64) 3 (((((w57.setCell ⟨gb257, 0, none⟩ (.int .i64 ((rd_T50 l0 x75_2).f0))).setCell ⟨gb257, 1, none⟩ (.int .i64 ((rd_T50 l0 x75_2).f1))).setCell ⟨gb257, 2, none⟩ (.int .i64 ((rd_T50 l0 x75_2).f2))).setCell ⟨gb257, 3, none⟩ (.int .i64 ((rd_T50 l0 x75_2).f3.f0))).setCell ⟨gb257, 4, none⟩ (.int .i64 ((rd_T50 l0 x75_2).f3.f1))) w.heap.size (fun k_ => some k_ ≠ (v254 : Value).ownBlock) v238 t236) := ⟨by kr_; exact Kd.R_mono (Kd.R_far (p := ⟨gb257, 4, none⟩) (Kd.R_far (p := ⟨gb257, 3, none⟩) (Kd.R_far (p := ⟨gb257, 2, none⟩) (Kd.R_far (p := ⟨gb257, 1, none⟩) (Kd.R_far (p := ⟨gb257, 0, none⟩) (Kd.R_types HO_14.out BK257.out (by decide)) (fun _ hk => hk.2) (.int .i64 ((rd_T50 l0 x75_2).f0))) (fun _ hk => hk.2) (.int .i64 ((rd_T50 l0 x75_2).f1))) (fun _ hk => hk.2) (.int .i64 ((rd_T50 l0 x75_2).f2))) (fun _ hk => hk.2) (.int .i64 ((rd_T50 l0 x75_2).f3.f0))) (fun _ hk => hk.2) (.int .i64 ((rd_T50 l0 x75_2).f3.f1))) (fun _ hk => hk.1)⟩
                 have n1_ : Aside0 (Kd.R (Kd.int .i64) 3 (((((w57.setCell ⟨gb257, 0, none⟩ (.int .i64 ((rd_T50 l0 x75_2).f0))).setCell ⟨gb257, 1, none⟩ (.int .i64 ((rd_T50 l0 x75_2).f1))).setCell ⟨gb257, 2, none⟩ (.int .i64 ((rd_T50 l0 x75_2).f2))).setCell ⟨gb257, 3, none⟩ (.int .i64 ((rd_T50 l0 x75_2).f3.f0))).setCell ⟨gb257, 4, none⟩ (.int .i64 ((rd_T50 l0 x75_2).f3.f1))) w.heap.size (fun k_ => some k_ ≠ (v238 : Value).ownBlock) v254 t252) := ⟨by kr_; exact Kd.R_mono (Kd.R_far (p := ⟨gb257, 4, none⟩) (Kd.R_far (p := ⟨gb257, 3, none⟩) (Kd.R_far (p := ⟨gb257, 2, none⟩) (Kd.R_far (p := ⟨gb257, 1, none⟩) (Kd.R_far (p := ⟨gb257, 0, none⟩) (Kd.R_types HO_16.out BK257.out (by decide)) (fun _ hk => hk.2) (.int .i64 ((rd_T50 l0 x75_2).f0))) (fun _ hk => hk.2) (.int .i64 ((rd_T50 l0 x75_2).f1))) (fun _ hk => hk.2) (.int .i64 ((rd_T50 l0 x75_2).f2))) (fun _ hk => hk.2) (.int .i64 ((rd_T50 l0 x75_2).f3.f0))) (fun _ hk => hk.2) (.int .i64 ((rd_T50 l0 x75_2).f3.f1))) (fun _ hk => hk.1)⟩
                 have n2_ : Aside0 ((((((w57.setCell ⟨gb257, 0, none⟩ (.int .i64 ((rd_T50 l0 x75_2).f0))).setCell ⟨gb257, 1, none⟩ (.int .i64 ((rd_T50 l0 x75_2).f1))).setCell ⟨gb257, 2, none⟩ (.int .i64 ((rd_T50 l0 x75_2).f2))).setCell ⟨gb257, 3, none⟩ (.int .i64 ((rd_T50 l0 x75_2).f3.f0))).setCell ⟨gb257, 4, none⟩ (.int .i64 ((rd_T50 l0 x75_2).f3.f1))).heap[gb233]? = some (.cells #[.int .i64 a5_0, .int .i64 a5_1, .int .i64 a5_2, .int .i64 a5_3, .int .i64 a5_4] 42 (0, 0))) := ⟨by bk_; refine blk_far ?_ NB233_257.out _; bk_; refine blk_far ?_ NB233_257.out _; bk_; refine blk_far ?_ NB233_257.out _; bk_; refine blk_far ?_ NB233_257.out _; bk_; refine blk_far ?_ NB233_257.out _; bk_; exact BK233.out⟩
                 have n3_ : Aside0 ((((((w57.setCell ⟨gb257, 0, none⟩ (.int .i64 ((rd_T50 l0 x75_2).f0))).setCell ⟨gb257, 1, none⟩ (.int .i64 ((rd_T50 l0 x75_2).f1))).setCell ⟨gb257, 2, none⟩ (.int .i64 ((rd_T50 l0 x75_2).f2))).setCell ⟨gb257, 3, none⟩ (.int .i64 ((rd_T50 l0 x75_2).f3.f0))).setCell ⟨gb257, 4, none⟩ (.int .i64 ((rd_T50 l0 x75_2).f3.f1))).heap[gb257]? = some (.cells #[.int .i64 ((rd_T50 l0 x75_2).f0), .int .i64 ((rd_T50 l0 x75_2).f1), .int .i64 ((rd_T50 l0 x75_2).f2), .int .i64 ((rd_T50 l0 x75_2).f3.f0), .int .i64 ((rd_T50 l0 x75_2).f3.f1)] 50 (0, 0))) := ⟨by bk_; refine blk_put (cs := #[.int .i64 ((rd_T50 l0 x75_2).f0), .int .i64 ((rd_T50 l0 x75_2).f1), .int .i64 ((rd_T50 l0 x75_2).f2), .int .i64 ((rd_T50 l0 x75_2).f3.f0), .int .i64 0]) ?_ 4 _ rfl; bk_; refine blk_put (cs := #[.int .i64 ((rd_T50 l0 x75_2).f0), .int .i64 ((rd_T50 l0 x75_2).f1), .int .i64 ((rd_T50 l0 x75_2).f2), .int .i64 0, .int .i64 0]) ?_ 3 _ rfl; bk_; refine blk_put (cs := #[.int .i64 ((rd_T50 l0 x75_2).f0), .int .i64 ((rd_T50 l0 x75_2).f1), .int .i64 0, .int .i64 0, .int .i64 0]) ?_ 2 _ rfl; bk_; refine blk_put (cs := #[.int .i64 ((rd_T50 l0 x75_2).f0), .int .i64 0, .int .i64 0, .int .i64 0, .int .i64 0]) ?_ 1 _ rfl; bk_; refine blk_put (cs := #[.int .i64 0, .int .i64 0, .int .i64 0, .int .i64 0, .int .i64 0]) ?_ 0 _ rfl; bk_; exact BK257.out⟩
                 have n4_ : Aside0 (Below w.heap.size w (((((w57.setCell ⟨gb257, 0, none⟩ (.int .i64 ((rd_T50 l0 x75_2).f0))).setCell ⟨gb257, 1, none⟩ (.int .i64 ((rd_T50 l0 x75_2).f1))).setCell ⟨gb257, 2, none⟩ (.int .i64 ((rd_T50 l0 x75_2).f2))).setCell ⟨gb257, 3, none⟩ (.int .i64 ((rd_T50 l0 x75_2).f3.f0))).setCell ⟨gb257, 4, none⟩ (.int .i64 ((rd_T50 l0 x75_2).f3.f1)))) := ⟨by repeat (first | (with_reducible first | exact HB.out | apply below_alloc | apply pw_below_drewN | apply below_drew1 | refine below_set ?_ GE233.out | refine below_set ?_ GE257.out) | exact HB.out)⟩
                 (try clear HO_14)
                 (try clear HO_16)
                 (try clear BK233)
                 (try clear BK257)
                 (try clear HB)
                 generalize (((((w57.setCell ⟨gb257, 0, none⟩ (.int .i64 ((rd_T50 l0 x75_2).f0))).setCell ⟨gb257, 1, none⟩ (.int .i64 ((rd_T50 l0 x75_2).f1))).setCell ⟨gb257, 2, none⟩ (.int .i64 ((rd_T50 l0 x75_2).f2))).setCell ⟨gb257, 3, none⟩ (.int .i64 ((rd_T50 l0 x75_2).f3.f0))).setCell ⟨gb257, 4, none⟩ (.int .i64 ((rd_T50 l0 x75_2).f3.f1))) = w60 at n0_ n1_ n2_ n3_ n4_ ⊢
                 have HO_14 := n0_
                 have HO_16 := n1_
                 have BK233 := n2_
                 have BK257 := n3_
                 have HB := n4_
                 clear n0_ n1_ n2_ n3_ n4_
                 have n0_ := Aside0.mk (Kd.R_drew HO_14.out)
                 have n1_ := Aside0.mk (Kd.R_drew HO_16.out)
                 have n2_ := Aside0.mk (blk_drew BK233.out)
                 have n3_ := Aside0.mk (blk_drew BK257.out)
                 have n4_ := Aside0.mk (below_drew1 HB.out)
                 clear HO_14
                 clear HO_16
                 clear BK233
                 clear BK257
                 clear HB
                 have HO_14 := n0_
                 have HO_16 := n1_
                 have BK233 := n2_
                 have BK257 := n3_
                 have HB := n4_
                 clear n0_ n1_ n2_ n3_ n4_
                 have p261 : 0 ≤ (x75_2 : Int) := of_decide_eq_true (by first | (with_reducible assumption) | assumption)
                 have q261 : x75_2 < (l1.length : Int) := of_decide_eq_true (by first | (with_reducible assumption) | assumption)
                 obtain ⟨ad261, e261, hx261_0, hx261_1⟩ := at_T25 HR1.out x75_2 p261 q261
                 have hw261_1 := hx261_1
                 have hw261_0 := hx261_0
                 cases e261
                 replace hx261_0 := (HB.out.cell (World.block_lt_of_cell? w _ hx261_0)).trans hx261_0
                 replace hx261_1 := (HB.out.cell (World.block_lt_of_cell? w _ hx261_1)).trans hx261_1
                 replace p261 := eq_true p261
                 replace q261 := eq_true q261
                 refine start_ (n := 16) (S := fun w' => w'.cell? ⟨gb257, 0, none⟩ = some (.int .i64 ((rd_T50 l0 x75_2).f0)) ∧ w'.cell? ⟨gb257, 1, none⟩ = some (.int .i64 ((rd_T50 l0 x75_2).f1)) ∧ w'.cell? ⟨gb257, 2, none⟩ = some (.int .i64 ((rd_T50 l0 x75_2).f2)) ∧ w'.cell? ⟨gb257, 3, none⟩ = some (.int .i64 ((rd_T50 l0 x75_2).f3.f0)) ∧ w'.cell? ⟨gb257, 4, none⟩ = some (.int .i64 ((rd_T50 l0 x75_2).f3.f1)) ∧ w'.cell? ⟨gb233, 0, none⟩ = some (.int .i64 a5_0) ∧ w'.cell? ⟨gb233, 1, none⟩ = some (.int .i64 a5_1) ∧ w'.cell? ⟨gb233, 2, none⟩ = some (.int .i64 a5_2) ∧ w'.cell? ⟨gb233, 3, none⟩ = some (.int .i64 a5_3) ∧ w'.cell? ⟨gb233, 4, none⟩ = some (.int .i64 a5_4) ∧ w'.cell? (ad261.add ((x75_2).toNat * 2)) = some (.int .i64 ((rd_T25 l1 x75_2).f0)) ∧ w'.cell? ⟨(ad261.add ((x75_2).toNat * 2)).block, (ad261.add ((x75_2).toNat * 2)).off + 1, none⟩ = some (.int .i64 ((rd_T25 l1 x75_2).f1))) (ds := []) #[false, false, false, false, false, false, false, false, false, false, false, false, false, false, false, false] (by kernel_rfl) rfl rfl ⟨(blk_cell BK257.out 0).trans rfl, (blk_cell BK257.out 1).trans rfl, (blk_cell BK257.out 2).trans rfl, (blk_cell BK257.out 3).trans rfl, (blk_cell BK257.out 4).trans rfl, (blk_cell BK233.out 0).trans rfl, (blk_cell BK233.out 1).trans rfl, (blk_cell BK233.out 2).trans rfl, (blk_cell BK233.out 3).trans rfl, (blk_cell BK233.out 4).trans rfl, ((HB.out.cell (World.block_lt_of_cell? w _ hw261_0)).trans hw261_0), ((HB.out.cell (World.block_lt_of_cell? w _ hw261_1)).trans hw261_1)⟩ (fun hHeld => ?_); refine with_tabW slotmeshlaw17_MediumJams.tab11 slotmeshlaw17_MediumJams.bits11 (fun HT_ HW_ => ?_)
                 generalize w60.drew = w61 at HO_14 HO_16 BK233 BK257 HB hx261_0 hx261_1 hHeld ⊢
                 pz0_ 0 80 #[true, false, false, false, false, false, false, false, false, false, false, false, false, false, false, false]
                 rotate_left
                 ·
                  simp only [Act.put, List.setIfInBounds_toArray, List.set_cons_zero, List.set_cons_succ, i64_w, i32_w]
                  rfl
                 pz2_ 1 81 #[true, true, false, false, false, false, false, false, false, false, false, false, false, false, false, false]
                 rotate_left
                 ·
                  simp only [Act.put, List.setIfInBounds_toArray, List.set_cons_zero, List.set_cons_succ, i64_w, i32_w]
                  rfl
                 pz0_ 2 82 #[true, true, true, false, false, false, false, false, false, false, false, false, false, false, false, false]
                 rotate_left
                 ·
                  simp only [Act.put, List.setIfInBounds_toArray, List.set_cons_zero, List.set_cons_succ, i64_w, i32_w]
                  rfl
                 pz0_ 3 83 #[true, true, true, true, false, false, false, false, false, false, false, false, false, false, false, false]
                 rotate_left
                 ·
                  simp only [Act.put, List.setIfInBounds_toArray, List.set_cons_zero, List.set_cons_succ, i64_w, i32_w]
                  rfl
                 pz0_ 6 86 #[true, true, true, true, false, false, true, false, false, false, false, false, false, false, false, false]
                 rotate_left
                 ·
                  simp only [Act.put, List.setIfInBounds_toArray, List.set_cons_zero, List.set_cons_succ, i64_w, i32_w]
                  rfl
                 pz0_ 7 87 #[true, true, true, true, false, false, true, true, false, false, false, false, false, false, false, false]
                 rotate_left
                 ·
                  simp only [Act.put, List.setIfInBounds_toArray, List.set_cons_zero, List.set_cons_succ, i64_w, i32_w]
                  rfl
                 pz0_ 8 88 #[true, true, true, true, false, false, true, true, true, false, false, false, false, false, false, false]
                 rotate_left
                 ·
                  simp only [Act.put, List.setIfInBounds_toArray, List.set_cons_zero, List.set_cons_succ, i64_w, i32_w]
                  rfl
                 pz0_ 10 90 #[true, true, true, true, false, false, true, true, true, false, true, false, false, false, false, false]
                 rotate_left
                 ·
                  simp only [Act.put, List.setIfInBounds_toArray, List.set_cons_zero, List.set_cons_succ, i64_w, i32_w]
                  rfl
                 pz0_ 12 92 #[true, true, true, true, false, false, true, true, true, false, true, false, true, false, false, false]
                 rotate_left
                 ·
                  simp only [Act.put, List.setIfInBounds_toArray, List.set_cons_zero, List.set_cons_succ, i64_w, i32_w]
                  rfl
                 pz2_ 4 84 #[true, true, true, true, true, false, true, true, true, false, true, false, true, false, false, false]
                 rotate_left
                 ·
                  simp only [Act.put, List.setIfInBounds_toArray, List.set_cons_zero, List.set_cons_succ, i64_w, i32_w]
                  rfl
                 pz2_ 9 89 #[true, true, true, true, true, false, true, true, true, true, true, false, true, false, false, false]
                 rotate_left
                 ·
                  simp only [Act.put, List.setIfInBounds_toArray, List.set_cons_zero, List.set_cons_succ, i64_w, i32_w]
                  rfl
                 pz2_ 11 91 #[true, true, true, true, true, false, true, true, true, true, true, true, true, false, false, false]
                 rotate_left
                 ·
                  simp only [Act.put, List.setIfInBounds_toArray, List.set_cons_zero, List.set_cons_succ, i64_w, i32_w]
                  rfl
                 refine one_ (i := 5) (N := some 85) #[true, true, true, true, true, true, true, true, true, true, true, true, true, false, false, false] rfl rfl (one_of HT_.out (by kernel_rfl)) (by decide) (fun K hK => ?_)
                 refine Kd.R_lit_step k42 _ 42 ?hg (N := 85) ?hd (xs := ([(⟨(⟨a5_0, a5_1⟩ : S25), a5_2, a5_3, a5_4⟩ : S42)] : List (S42))) (inner := [.int .i64 a5_0, .int .i64 a5_1, .int .i64 a5_2, .int .i64 a5_3, .int .i64 a5_4]) (ok := fun _ => True) (okp := fun _ => True) ?hr ?hp (fun _ hk => hk) trivial (Below.refl _ _) (Nat.le_refl _) (by simp) ?_; (case hd => rfl); (case hg => rfl); (case hr => first | (go_simp; done) | (go_simp; rfl)); (case hp => exact (Reps.c5 (show Kd.M k42 _ _ _ (⟨(⟨a5_0, a5_1⟩ : S25), a5_2, a5_3, a5_4⟩ : S42) [.int .i64 a5_0, .int .i64 a5_1, .int .i64 a5_2, .int .i64 a5_3, .int .i64 a5_4] from (k42_mkM _ _ _ (⟨(⟨a5_0, a5_1⟩ : S25), a5_2, a5_3, a5_4⟩ : S42) )) (Reps.none _ _)))
                 intro v259 w62 ho63 hb hg_ hnew_
                 clear hg_ hnew_
                 (first | rw [← Ny258.out] at ho63 | (simp only [Int.reduceToNat] at ho63; rw [← Ny258.out] at ho63))
                 have n0_ := Aside0.mk (Kd.R_below (by kr_; exact HO_14.out) hb)
                 have n1_ := Aside0.mk (Kd.R_below (by kr_; exact HO_16.out) hb)
                 have n2_ := Aside0.mk (Kd.R_lower (Kd.R_newB ho63 (g := gb233) (o := .cells #[.int .i64 a5_0, .int .i64 a5_1, .int .i64 a5_2, .int .i64 a5_3, .int .i64 a5_4] 42 (0, 0)) (by bk_; exact BK233.out)) (below_size (by hb1_)))
                 have n3_ := Aside0.mk (blk_below (g := gb233) (o := .cells #[.int .i64 a5_0, .int .i64 a5_1, .int .i64 a5_2, .int .i64 a5_3, .int .i64 a5_4] 42 (0, 0)) (by bk_; exact BK233.out) hb)
                 have n4_ := Aside0.mk (blk_below (g := gb257) (o := .cells #[.int .i64 ((rd_T50 l0 x75_2).f0), .int .i64 ((rd_T50 l0 x75_2).f1), .int .i64 ((rd_T50 l0 x75_2).f2), .int .i64 ((rd_T50 l0 x75_2).f3.f0), .int .i64 ((rd_T50 l0 x75_2).f3.f1)] 50 (0, 0)) (by bk_; exact BK257.out) hb)
                 have n5_ := Aside0.mk (below_step (by hb1_) hb)
                 clear HO_14
                 clear HO_16
                 clear BK233
                 clear BK257
                 clear HB
                 have HO_14 := n0_
                 have HO_16 := n1_
                 have HO260 := n2_
                 have BK233 := n3_
                 have BK257 := n4_
                 have HB := n5_
                 clear n0_ n1_ n2_ n3_ n4_ n5_
                 clear hb ho63
                 obtain ⟨Ao64, co64, eo64⟩ := Kd.R_slice HO260.out
                 (first | subst eo64 | (injection eo64 with f1_ f2_ f3_; have f4_ := f1_.symm; have f5_ := f3_.symm; clear f1_ f2_ f3_; subst f4_; subst f5_))
                 refine hK.out _ _ ⟨(blk_cell BK257.out 0).trans rfl, (blk_cell BK257.out 1).trans rfl, (blk_cell BK257.out 2).trans rfl, (blk_cell BK257.out 3).trans rfl, (blk_cell BK257.out 4).trans rfl, (blk_cell BK233.out 0).trans rfl, (blk_cell BK233.out 1).trans rfl, (blk_cell BK233.out 2).trans rfl, (blk_cell BK233.out 3).trans rfl, (blk_cell BK233.out 4).trans rfl, ((HB.out.cell (World.block_lt_of_cell? w _ hw261_0)).trans hw261_0), ((HB.out.cell (World.block_lt_of_cell? w _ hw261_1)).trans hw261_1)⟩ (fun hHeld => ?_)
                 clear hK K
                 refine norm_ (a' := ?_) ?_ ?_
                 rotate_left
                 ·
                  show Act.put _ (some 85) _ = _
                  simp only [Act.put, List.setIfInBounds_toArray, List.set_cons_zero, List.set_cons_succ, i64_w, i32_w]
                  rfl
                 refine one_ (i := 13) (N := some 93) #[true, true, true, true, true, true, true, true, true, true, true, true, true, true, false, false] rfl rfl (one_of HT_.out (by kernel_rfl)) (by decide) (fun K hK => ?_)
                 refine goes_ Try.func23 (by kernel_rfl) rfl #[.slice Ao64 y258.length co64, .agg #[.int .i64 ((rd_T25 l1 x75_2).f0), .int .i64 ((rd_T25 l1 x75_2).f1)], .int .i64 ((rd_T50 l0 x75_2).f1), .int .i64 a4] (by rfl) rfl rfl (by (try simp only [List.map_toArray, List.map_cons, List.map_nil]); first | done | rfl | (simp only [List.length_drop, List.length_take]; rfl)) ?_
                 with_reducible refine (plane_Jammed.calls _ _ y258 ((rd_T25 l1 x75_2).f0) ((rd_T25 l1 x75_2).f1) ((rd_T50 l0 x75_2).f1) a4 true _ ?side1 ?side2 A42.out).mono ?_
                 (case side1 => repeat (first | exact (Kd.R_reads' HO260.out).2.2 | (with_reducible refine Kd.C_alloc ?_ _) | (with_reducible refine Kd.C_drewN ?_ _) | (with_reducible refine Kd.C_drew ?_)))
                 (case side2 => exact (Kd.R_reads' HO260.out).2.1)
                 rintro e w65 ⟨rfl, hb⟩
                 refine ⟨_, rfl, ?_⟩
                 have n0_ := Aside0.mk (Kd.R_below (by kr_; exact HO_14.out) hb)
                 have n1_ := Aside0.mk (Kd.R_below (by kr_; exact HO_16.out) hb)
                 have n2_ := Aside0.mk (Kd.R_below (by kr_; exact HO260.out) hb)
                 have n3_ := Aside0.mk (blk_below (g := gb233) (o := .cells #[.int .i64 a5_0, .int .i64 a5_1, .int .i64 a5_2, .int .i64 a5_3, .int .i64 a5_4] 42 (0, 0)) (by bk_; exact BK233.out) hb)
                 have n4_ := Aside0.mk (blk_below (g := gb257) (o := .cells #[.int .i64 ((rd_T50 l0 x75_2).f0), .int .i64 ((rd_T50 l0 x75_2).f1), .int .i64 ((rd_T50 l0 x75_2).f2), .int .i64 ((rd_T50 l0 x75_2).f3.f0), .int .i64 ((rd_T50 l0 x75_2).f3.f1)] 50 (0, 0)) (by bk_; exact BK257.out) hb)
                 have n5_ := Aside0.mk (below_step (by hb1_) hb)
                 clear HO_14
                 clear HO_16
                 clear HO260
                 clear BK233
                 clear BK257
                 clear HB
                 have HO_14 := n0_
                 have HO_16 := n1_
                 have HO260 := n2_
                 have BK233 := n3_
                 have BK257 := n4_
                 have HB := n5_
                 clear n0_ n1_ n2_ n3_ n4_ n5_
                 (try clear hb)
                 (try clear hb2)
                 (try clear hk)
                 (try clear hi)
                 refine hK.out _ _ ⟨(blk_cell BK257.out 0).trans rfl, (blk_cell BK257.out 1).trans rfl, (blk_cell BK257.out 2).trans rfl, (blk_cell BK257.out 3).trans rfl, (blk_cell BK257.out 4).trans rfl, (blk_cell BK233.out 0).trans rfl, (blk_cell BK233.out 1).trans rfl, (blk_cell BK233.out 2).trans rfl, (blk_cell BK233.out 3).trans rfl, (blk_cell BK233.out 4).trans rfl, ((HB.out.cell (World.block_lt_of_cell? w _ hw261_0)).trans hw261_0), ((HB.out.cell (World.block_lt_of_cell? w _ hw261_1)).trans hw261_1)⟩ (fun hHeld => ?_)
                 clear hK K
                 refine norm_ (a' := ?_) ?_ ?_
                 rotate_left
                 ·
                  show Act.put _ (some 93) _ = _
                  simp only [Act.put, List.setIfInBounds_toArray, List.set_cons_zero, List.set_cons_succ, i64_w, i32_w]
                  rfl
                 pz0_ 14 94 #[true, true, true, true, true, true, true, true, true, true, true, true, true, true, true, false]
                 rotate_left
                 ·
                  simp only [Act.put, List.setIfInBounds_toArray, List.set_cons_zero, List.set_cons_succ, i64_w, i32_w]
                  rfl
                 pz0_ 15 20 #[true, true, true, true, true, true, true, true, true, true, true, true, true, true, true, true]
                 rotate_left
                 ·
                  simp only [Act.put, List.setIfInBounds_toArray, List.set_cons_zero, List.set_cons_succ, i64_w, i32_w]
                  rfl
                 refine done_ (done_of HT_.out (by kernel_rfl)) ?_
                 try go_wp2
                 have n0_ := Aside0.mk (Kd.R_drew HO_14.out)
                 have n1_ := Aside0.mk (Kd.R_drew HO_16.out)
                 have n2_ := Aside0.mk (Kd.R_drew HO260.out)
                 have n3_ := Aside0.mk (blk_drew BK233.out)
                 have n4_ := Aside0.mk (blk_drew BK257.out)
                 have n5_ := Aside0.mk (below_drew1 HB.out)
                 clear HO_14
                 clear HO_16
                 clear HO260
                 clear BK233
                 clear BK257
                 clear HB
                 have HO_14 := n0_
                 have HO_16 := n1_
                 have HO260 := n2_
                 have BK233 := n3_
                 have BK257 := n4_
                 have HB := n5_
                 clear n0_ n1_ n2_ n3_ n4_ n5_
                 obtain ⟨Ao67, co67, eo67⟩ := Kd.R_slice HO_16.out
                 (first | subst eo67 | (injection eo67 with f1_ f2_ f3_; have f4_ := f1_.symm; have f5_ := f3_.symm; clear f1_ f2_ f3_; subst f4_; subst f5_))
                 have p263 : 0 ≤ (x75_2 : Int) := of_decide_eq_true (by first | (with_reducible assumption) | assumption)
                 have q263 : x75_2 < (t252.length : Int) := of_decide_eq_true (by first | (with_reducible assumption) | assumption)
                 obtain ⟨ad263, e263, hx263_0⟩ := Kd.at_int (Kd.R_reads' HO_16.out).2.2 x75_2 p263 q263
                 cases e263
                 replace p263 := eq_true p263
                 replace q263 := eq_true q263
                 refine start_ (n := 23) (S := fun w' => w'.cell? (ad263.add (x75_2).toNat) = some (.int .i64 (rd t252 x75_2))) (ds := []) #[false, false, false, false, false, false, false, false, false, false, false, false, false, false, false, false, false, false, false, false, false, false, false] (by kernel_rfl) rfl rfl (hx263_0) (fun hHeld => ?_); refine with_tabW slotmeshlaw17_MediumJams.tab12 slotmeshlaw17_MediumJams.bits12 (fun HT_ HW_ => ?_)
                 generalize w65.drew = w66 at HO_14 HO_16 HO260 BK233 BK257 HB hx263_0 hHeld ⊢
                 pz0_ 0 95 #[true, false, false, false, false, false, false, false, false, false, false, false, false, false, false, false, false, false, false, false, false, false, false]
                 rotate_left
                 ·
                  simp only [Act.put, List.setIfInBounds_toArray, List.set_cons_zero, List.set_cons_succ, i64_w, i32_w]
                  rfl
                 pz0_ 1 96 #[true, true, false, false, false, false, false, false, false, false, false, false, false, false, false, false, false, false, false, false, false, false, false]
                 rotate_left
                 ·
                  simp only [Act.put, List.setIfInBounds_toArray, List.set_cons_zero, List.set_cons_succ, i64_w, i32_w]
                  rfl
                 pz0_ 2 97 #[true, true, true, false, false, false, false, false, false, false, false, false, false, false, false, false, false, false, false, false, false, false, false]
                 rotate_left
                 ·
                  simp only [Act.put, List.setIfInBounds_toArray, List.set_cons_zero, List.set_cons_succ, i64_w, i32_w]
                  rfl
                 pz0_ 3 98 #[true, true, true, true, false, false, false, false, false, false, false, false, false, false, false, false, false, false, false, false, false, false, false]
                 rotate_left
                 ·
                  simp only [Act.put, List.setIfInBounds_toArray, List.set_cons_zero, List.set_cons_succ, i64_w, i32_w]
                  rfl
                 pz0_ 4 99 #[true, true, true, true, true, false, false, false, false, false, false, false, false, false, false, false, false, false, false, false, false, false, false]
                 rotate_left
                 ·
                  simp only [Act.put, List.setIfInBounds_toArray, List.set_cons_zero, List.set_cons_succ, i64_w, i32_w]
                  rfl
                 refine take_ (i := 5) (N := some 100) (v := ?_) (a' := ?_) #[true, true, true, true, true, true, false, false, false, false, false, false, false, false, false, false, false, false, false, false, false, false, false] rfl rfl (take_ofW HT_.out HW_.out (by kernel_rfl)) (fun _ _ _ h => h) (Or.inl ⟨by rfl, ?_⟩) hHeld ?_ ?_
                 rotate_left
                 ·
                  intro w' s0
                  go_simp
                  with_reducible rfl
                 rotate_left
                 ·
                  simp only [Act.put, List.setIfInBounds_toArray, List.set_cons_zero, List.set_cons_succ, i64_w, i32_w]
                  rfl
                 pz0_ 6 101 #[true, true, true, true, true, true, true, false, false, false, false, false, false, false, false, false, false, false, false, false, false, false, false]
                 rotate_left
                 ·
                  simp only [Act.put, List.setIfInBounds_toArray, List.set_cons_zero, List.set_cons_succ, i64_w, i32_w]
                  rfl
                 pz0_ 7 102 #[true, true, true, true, true, true, true, true, false, false, false, false, false, false, false, false, false, false, false, false, false, false, false]
                 rotate_left
                 ·
                  simp only [Act.put, List.setIfInBounds_toArray, List.set_cons_zero, List.set_cons_succ, i64_w, i32_w]
                  rfl
                 pz0_ 8 103 #[true, true, true, true, true, true, true, true, true, false, false, false, false, false, false, false, false, false, false, false, false, false, false]
                 rotate_left
                 ·
                  simp only [Act.put, List.setIfInBounds_toArray, List.set_cons_zero, List.set_cons_succ, i64_w, i32_w]
                  rfl
                 pz1_ 9 104 #[true, true, true, true, true, true, true, true, true, true, false, false, false, false, false, false, false, false, false, false, false, false, false]
                 pz1_ 10 105 #[true, true, true, true, true, true, true, true, true, true, true, false, false, false, false, false, false, false, false, false, false, false, false]
                 pz1_ 11 106 #[true, true, true, true, true, true, true, true, true, true, true, true, false, false, false, false, false, false, false, false, false, false, false]
                 pz1_ 12 107 #[true, true, true, true, true, true, true, true, true, true, true, true, true, false, false, false, false, false, false, false, false, false, false]
                 pz1_ 13 108 #[true, true, true, true, true, true, true, true, true, true, true, true, true, true, false, false, false, false, false, false, false, false, false]
                 pz1_ 14 109 #[true, true, true, true, true, true, true, true, true, true, true, true, true, true, true, false, false, false, false, false, false, false, false]
                 pz1_ 15 110 #[true, true, true, true, true, true, true, true, true, true, true, true, true, true, true, true, false, false, false, false, false, false, false]
                 pz1_ 16 111 #[true, true, true, true, true, true, true, true, true, true, true, true, true, true, true, true, true, false, false, false, false, false, false]
                 pz1_ 17 112 #[true, true, true, true, true, true, true, true, true, true, true, true, true, true, true, true, true, true, false, false, false, false, false]
                 pz1_ 18 113 #[true, true, true, true, true, true, true, true, true, true, true, true, true, true, true, true, true, true, true, false, false, false, false]
                 pz1_ 19 114 #[true, true, true, true, true, true, true, true, true, true, true, true, true, true, true, true, true, true, true, true, false, false, false]
                 pz1_ 20 115 #[true, true, true, true, true, true, true, true, true, true, true, true, true, true, true, true, true, true, true, true, true, false, false]
                 pz1_ 21 116 #[true, true, true, true, true, true, true, true, true, true, true, true, true, true, true, true, true, true, true, true, true, true, false]
                 pz0_ 22 117 #[true, true, true, true, true, true, true, true, true, true, true, true, true, true, true, true, true, true, true, true, true, true, true]
                 rotate_left
                 ·
                  simp only [Act.put, List.setIfInBounds_toArray, List.set_cons_zero, List.set_cons_succ, i64_w, i32_w]
                  rfl
                 refine done_ (done_of HT_.out (by kernel_rfl)) ?_
                 try go_wp2
                 go_ret
                 exact ⟨by first | rfl | (simp [errW_none, errW_some] <;> rfl) | (simp [*, errW_none, errW_some] <;> rfl), by repeat (first | (with_reducible first | exact HB.out | apply below_alloc | apply pw_below_drewN | apply below_drew1 | refine below_set ?_ GE233.out | refine below_set ?_ GE257.out) | exact HB.out)⟩
               ·
                rw [if_neg c44] at H
                exact absurd H (by simp)
              ·
               replace c43 := Bool.eq_false_iff.mpr c43
               subst c43
               have H1 : (if x75_2 < (t236.length : Int) then (if x75_2 < (t252.length : Int) then (if (rd t236 x75_2) = (rd t252 x75_2) then (slotmeshlaw17_MediumJams.l0 k2 l1 a4 t234 t236 t252 l0 (l0.length : Int) (wrap64 (x75_2 + 1)) a5_0 a5_1 a5_2 a5_3 a5_4) else (some false)) else (none)) else (none)) = some r := by rw [if_neg (show ¬ (false = true) by decide)] at H; exact H
               clear H
               have H := H1
               clear H1
               by_cases c68 : x75_2 < (t236.length : Int)
               ·
                rw [if_pos c68] at H
                have c68b0 : decide (x75_2 < (t236.length : Int)) = true := decide_eq_true c68
                clear c68
                by_cases c69 : x75_2 < (t252.length : Int)
                ·
                 rw [if_pos c69] at H
                 have c69b0 : decide (x75_2 < (t252.length : Int)) = true := decide_eq_true c69
                 clear c69
                 by_cases c70 : (rd t236 x75_2) = (rd t252 x75_2)
                 ·
                  rw [if_pos c70] at H
                  have c70b0 : ((rd t236 x75_2) == (rd t252 x75_2)) = true := beq_iff_eq.mpr c70
                  have c70b1 : ((rd t236 x75_2) != (rd t252 x75_2)) = false := bne_eq_false_iff_eq.mpr c70
                  clear c70
                  have H' := Aside0.mk H
                  clear H
                  have p256 : 0 ≤ (x75_2 : Int) := of_decide_eq_true (by first | (with_reducible assumption) | assumption)
                  have q256 : x75_2 < (l0.length : Int) := of_decide_eq_true (by first | (with_reducible assumption) | assumption)
                  obtain ⟨ad256, e256, hx256_0, hx256_1, hx256_2, hx256_3, hx256_4⟩ := at_T50 HR0.out x75_2 p256 q256
                  cases e256
                  replace hx256_0 := (HB.out.cell (World.block_lt_of_cell? w _ hx256_0)).trans hx256_0
                  replace hx256_1 := (HB.out.cell (World.block_lt_of_cell? w _ hx256_1)).trans hx256_1
                  replace hx256_2 := (HB.out.cell (World.block_lt_of_cell? w _ hx256_2)).trans hx256_2
                  replace hx256_3 := (HB.out.cell (World.block_lt_of_cell? w _ hx256_3)).trans hx256_3
                  replace hx256_4 := (HB.out.cell (World.block_lt_of_cell? w _ hx256_4)).trans hx256_4
                  replace p256 := eq_true p256
                  replace q256 := eq_true q256
                  try go_wp2_with (first | ((with_reducible refine gate_dst (N := 19) rfl ?_); (try (refine gate_guard (by rfl) ?_; dsimp only)); refine box_event ?hg (N := 19) ?hd (cs := #[.int .i64 0, .int .i64 0, .int .i64 0, .int .i64 0, .int .i64 0]) (t := 50) ?hr ?_; (case hd => rfl); (case hg => rfl); (case hr => first | (go_simp; done) | (go_simp; rfl)); intro gb257 hg w71 hbox hb; have n0_ := Aside0.mk (Kd.R_below (by kr_; exact HO_14.out) hb); have n1_ := Aside0.mk (Kd.R_below (by kr_; exact HO_16.out) hb); have n2_ := Aside0.mk (blk_below (g := gb233) (o := .cells #[.int .i64 a5_0, .int .i64 a5_1, .int .i64 a5_2, .int .i64 a5_3, .int .i64 a5_4] 42 (0, 0)) (by bk_; exact BK233.out) hb); have n3_ := Aside0.mk (below_step (by hb0_) hb); have n4_ := Aside0.mk (hbox); have n5_ := Aside0.mk ((by rw [hg]; exact (below_size (by hb0_)) : w.heap.size ≤ gb257)); have n6_ := Aside0.mk ((by rw [hg]; exact (below_size (by hb0_)) : w.heap.size ≤ gb257)); have n7_ := Aside0.mk ((by rw [hg]; exact Nat.ne_of_lt (blk_lt (g := gb233) (o := .cells #[.int .i64 a5_0, .int .i64 a5_1, .int .i64 a5_2, .int .i64 a5_3, .int .i64 a5_4] 42 (0, 0)) (by bk_; exact BK233.out)) : gb233 ≠ gb257)); have n8_ := Aside0.mk ((by rw [hg]; exact Nat.ne_of_gt (blk_lt (g := gb233) (o := .cells #[.int .i64 a5_0, .int .i64 a5_1, .int .i64 a5_2, .int .i64 a5_3, .int .i64 a5_4] 42 (0, 0)) (by bk_; exact BK233.out)) : gb257 ≠ gb233)); clear HO_14; clear HO_16; clear BK233; clear HB; have HO_14 := n0_; have HO_16 := n1_; have BK233 := n2_; have HB := n3_; have BK257 := n4_; have GW257 := n5_; have GE257 := n6_; have NB233_257 := n7_; have NB257_233 := n8_; clear n0_ n1_ n2_ n3_ n4_ n5_ n6_ n7_ n8_; clear hb hbox hg; have hnb72 := NB257_233.out; have hnc72 := NB233_257.out; have hcz73_0 : w71.cell? ⟨gb257, 0, none⟩ = some (.int .i64 0) := (blk_cell BK257.out 0).trans rfl; have hcz73_1 : w71.cell? ⟨gb257, 1, none⟩ = some (.int .i64 0) := (blk_cell BK257.out 1).trans rfl; have hcz73_2 : w71.cell? ⟨gb257, 2, none⟩ = some (.int .i64 0) := (blk_cell BK257.out 2).trans rfl; have hcz73_3 : w71.cell? ⟨gb257, 3, none⟩ = some (.int .i64 0) := (blk_cell BK257.out 3).trans rfl; have hcz73_4 : w71.cell? ⟨gb257, 4, none⟩ = some (.int .i64 0) := (blk_cell BK257.out 4).trans rfl; have hfz73_0 := blk_frozen BK257.out 0; have hfz73_1 := blk_frozen BK257.out 1; have hfz73_2 := blk_frozen BK257.out 2; have hfz73_3 := blk_frozen BK257.out 3; have hfz73_4 := blk_frozen BK257.out 4))
                  have n0_ : Aside0 (Kd.R (Kd.int .i64) 3 (((((w71.setCell ⟨gb257, 0, none⟩ (.int .i64 ((rd_T50 l0 x75_2).f0))).setCell ⟨gb257, 1, none⟩ (.int .i64 ((rd_T50 l0 x75_2).f1))).setCell ⟨gb257, 2, none⟩ (.int .i64 ((rd_T50 l0 x75_2).f2))).setCell ⟨gb257, 3, none⟩ (.int .i64 ((rd_T50 l0 x75_2).f3.f0))).setCell ⟨gb257, 4, none⟩ (.int .i64 ((rd_T50 l0 x75_2).f3.f1))) w.heap.size (fun k_ => some k_ ≠ (v254 : Value).ownBlock) v238 t236) := ⟨by kr_; exact Kd.R_mono (Kd.R_far (p := ⟨gb257, 4, none⟩) (Kd.R_far (p := ⟨gb257, 3, none⟩) (Kd.R_far (p := ⟨gb257, 2, none⟩) (Kd.R_far (p := ⟨gb257, 1, none⟩) (Kd.R_far (p := ⟨gb257, 0, none⟩) (Kd.R_types HO_14.out BK257.out (by decide)) (fun _ hk => hk.2) (.int .i64 ((rd_T50 l0 x75_2).f0))) (fun _ hk => hk.2) (.int .i64 ((rd_T50 l0 x75_2).f1))) (fun _ hk => hk.2) (.int .i64 ((rd_T50 l0 x75_2).f2))) (fun _ hk => hk.2) (.int .i64 ((rd_T50 l0 x75_2).f3.f0))) (fun _ hk => hk.2) (.int .i64 ((rd_T50 l0 x75_2).f3.f1))) (fun _ hk => hk.1)⟩
                  have n1_ : Aside0 (Kd.R (Kd.int .i64) 3 (((((w71.setCell ⟨gb257, 0, none⟩ (.int .i64 ((rd_T50 l0 x75_2).f0))).setCell ⟨gb257, 1, none⟩ (.int .i64 ((rd_T50 l0 x75_2).f1))).setCell ⟨gb257, 2, none⟩ (.int .i64 ((rd_T50 l0 x75_2).f2))).setCell ⟨gb257, 3, none⟩ (.int .i64 ((rd_T50 l0 x75_2).f3.f0))).setCell ⟨gb257, 4, none⟩ (.int .i64 ((rd_T50 l0 x75_2).f3.f1))) w.heap.size (fun k_ => some k_ ≠ (v238 : Value).ownBlock) v254 t252) := ⟨by kr_; exact Kd.R_mono (Kd.R_far (p := ⟨gb257, 4, none⟩) (Kd.R_far (p := ⟨gb257, 3, none⟩) (Kd.R_far (p := ⟨gb257, 2, none⟩) (Kd.R_far (p := ⟨gb257, 1, none⟩) (Kd.R_far (p := ⟨gb257, 0, none⟩) (Kd.R_types HO_16.out BK257.out (by decide)) (fun _ hk => hk.2) (.int .i64 ((rd_T50 l0 x75_2).f0))) (fun _ hk => hk.2) (.int .i64 ((rd_T50 l0 x75_2).f1))) (fun _ hk => hk.2) (.int .i64 ((rd_T50 l0 x75_2).f2))) (fun _ hk => hk.2) (.int .i64 ((rd_T50 l0 x75_2).f3.f0))) (fun _ hk => hk.2) (.int .i64 ((rd_T50 l0 x75_2).f3.f1))) (fun _ hk => hk.1)⟩
                  have n2_ : Aside0 ((((((w71.setCell ⟨gb257, 0, none⟩ (.int .i64 ((rd_T50 l0 x75_2).f0))).setCell ⟨gb257, 1, none⟩ (.int .i64 ((rd_T50 l0 x75_2).f1))).setCell ⟨gb257, 2, none⟩ (.int .i64 ((rd_T50 l0 x75_2).f2))).setCell ⟨gb257, 3, none⟩ (.int .i64 ((rd_T50 l0 x75_2).f3.f0))).setCell ⟨gb257, 4, none⟩ (.int .i64 ((rd_T50 l0 x75_2).f3.f1))).heap[gb233]? = some (.cells #[.int .i64 a5_0, .int .i64 a5_1, .int .i64 a5_2, .int .i64 a5_3, .int .i64 a5_4] 42 (0, 0))) := ⟨by bk_; refine blk_far ?_ NB233_257.out _; bk_; refine blk_far ?_ NB233_257.out _; bk_; refine blk_far ?_ NB233_257.out _; bk_; refine blk_far ?_ NB233_257.out _; bk_; refine blk_far ?_ NB233_257.out _; bk_; exact BK233.out⟩
                  have n3_ : Aside0 ((((((w71.setCell ⟨gb257, 0, none⟩ (.int .i64 ((rd_T50 l0 x75_2).f0))).setCell ⟨gb257, 1, none⟩ (.int .i64 ((rd_T50 l0 x75_2).f1))).setCell ⟨gb257, 2, none⟩ (.int .i64 ((rd_T50 l0 x75_2).f2))).setCell ⟨gb257, 3, none⟩ (.int .i64 ((rd_T50 l0 x75_2).f3.f0))).setCell ⟨gb257, 4, none⟩ (.int .i64 ((rd_T50 l0 x75_2).f3.f1))).heap[gb257]? = some (.cells #[.int .i64 ((rd_T50 l0 x75_2).f0), .int .i64 ((rd_T50 l0 x75_2).f1), .int .i64 ((rd_T50 l0 x75_2).f2), .int .i64 ((rd_T50 l0 x75_2).f3.f0), .int .i64 ((rd_T50 l0 x75_2).f3.f1)] 50 (0, 0))) := ⟨by bk_; refine blk_put (cs := #[.int .i64 ((rd_T50 l0 x75_2).f0), .int .i64 ((rd_T50 l0 x75_2).f1), .int .i64 ((rd_T50 l0 x75_2).f2), .int .i64 ((rd_T50 l0 x75_2).f3.f0), .int .i64 0]) ?_ 4 _ rfl; bk_; refine blk_put (cs := #[.int .i64 ((rd_T50 l0 x75_2).f0), .int .i64 ((rd_T50 l0 x75_2).f1), .int .i64 ((rd_T50 l0 x75_2).f2), .int .i64 0, .int .i64 0]) ?_ 3 _ rfl; bk_; refine blk_put (cs := #[.int .i64 ((rd_T50 l0 x75_2).f0), .int .i64 ((rd_T50 l0 x75_2).f1), .int .i64 0, .int .i64 0, .int .i64 0]) ?_ 2 _ rfl; bk_; refine blk_put (cs := #[.int .i64 ((rd_T50 l0 x75_2).f0), .int .i64 0, .int .i64 0, .int .i64 0, .int .i64 0]) ?_ 1 _ rfl; bk_; refine blk_put (cs := #[.int .i64 0, .int .i64 0, .int .i64 0, .int .i64 0, .int .i64 0]) ?_ 0 _ rfl; bk_; exact BK257.out⟩
                  have n4_ : Aside0 (Below w.heap.size w (((((w71.setCell ⟨gb257, 0, none⟩ (.int .i64 ((rd_T50 l0 x75_2).f0))).setCell ⟨gb257, 1, none⟩ (.int .i64 ((rd_T50 l0 x75_2).f1))).setCell ⟨gb257, 2, none⟩ (.int .i64 ((rd_T50 l0 x75_2).f2))).setCell ⟨gb257, 3, none⟩ (.int .i64 ((rd_T50 l0 x75_2).f3.f0))).setCell ⟨gb257, 4, none⟩ (.int .i64 ((rd_T50 l0 x75_2).f3.f1)))) := ⟨by repeat (first | (with_reducible first | exact HB.out | apply below_alloc | apply pw_below_drewN | apply below_drew1 | refine below_set ?_ GE233.out | refine below_set ?_ GE257.out) | exact HB.out)⟩
                  (try clear HO_14)
                  (try clear HO_16)
                  (try clear BK233)
                  (try clear BK257)
                  (try clear HB)
                  generalize (((((w71.setCell ⟨gb257, 0, none⟩ (.int .i64 ((rd_T50 l0 x75_2).f0))).setCell ⟨gb257, 1, none⟩ (.int .i64 ((rd_T50 l0 x75_2).f1))).setCell ⟨gb257, 2, none⟩ (.int .i64 ((rd_T50 l0 x75_2).f2))).setCell ⟨gb257, 3, none⟩ (.int .i64 ((rd_T50 l0 x75_2).f3.f0))).setCell ⟨gb257, 4, none⟩ (.int .i64 ((rd_T50 l0 x75_2).f3.f1))) = w74 at n0_ n1_ n2_ n3_ n4_ ⊢
                  have HO_14 := n0_
                  have HO_16 := n1_
                  have BK233 := n2_
                  have BK257 := n3_
                  have HB := n4_
                  clear n0_ n1_ n2_ n3_ n4_
                  have n0_ := Aside0.mk (Kd.R_drew HO_14.out)
                  have n1_ := Aside0.mk (Kd.R_drew HO_16.out)
                  have n2_ := Aside0.mk (blk_drew BK233.out)
                  have n3_ := Aside0.mk (blk_drew BK257.out)
                  have n4_ := Aside0.mk (below_drew1 HB.out)
                  clear HO_14
                  clear HO_16
                  clear BK233
                  clear BK257
                  clear HB
                  have HO_14 := n0_
                  have HO_16 := n1_
                  have BK233 := n2_
                  have BK257 := n3_
                  have HB := n4_
                  clear n0_ n1_ n2_ n3_ n4_
                  have p261 : 0 ≤ (x75_2 : Int) := of_decide_eq_true (by first | (with_reducible assumption) | assumption)
                  have q261 : x75_2 < (l1.length : Int) := of_decide_eq_true (by first | (with_reducible assumption) | assumption)
                  obtain ⟨ad261, e261, hx261_0, hx261_1⟩ := at_T25 HR1.out x75_2 p261 q261
                  have hw261_1 := hx261_1
                  have hw261_0 := hx261_0
                  cases e261
                  replace hx261_0 := (HB.out.cell (World.block_lt_of_cell? w _ hx261_0)).trans hx261_0
                  replace hx261_1 := (HB.out.cell (World.block_lt_of_cell? w _ hx261_1)).trans hx261_1
                  replace p261 := eq_true p261
                  replace q261 := eq_true q261
                  refine start_ (n := 16) (S := fun w' => w'.cell? ⟨gb257, 0, none⟩ = some (.int .i64 ((rd_T50 l0 x75_2).f0)) ∧ w'.cell? ⟨gb257, 1, none⟩ = some (.int .i64 ((rd_T50 l0 x75_2).f1)) ∧ w'.cell? ⟨gb257, 2, none⟩ = some (.int .i64 ((rd_T50 l0 x75_2).f2)) ∧ w'.cell? ⟨gb257, 3, none⟩ = some (.int .i64 ((rd_T50 l0 x75_2).f3.f0)) ∧ w'.cell? ⟨gb257, 4, none⟩ = some (.int .i64 ((rd_T50 l0 x75_2).f3.f1)) ∧ w'.cell? ⟨gb233, 0, none⟩ = some (.int .i64 a5_0) ∧ w'.cell? ⟨gb233, 1, none⟩ = some (.int .i64 a5_1) ∧ w'.cell? ⟨gb233, 2, none⟩ = some (.int .i64 a5_2) ∧ w'.cell? ⟨gb233, 3, none⟩ = some (.int .i64 a5_3) ∧ w'.cell? ⟨gb233, 4, none⟩ = some (.int .i64 a5_4) ∧ w'.cell? (ad261.add ((x75_2).toNat * 2)) = some (.int .i64 ((rd_T25 l1 x75_2).f0)) ∧ w'.cell? ⟨(ad261.add ((x75_2).toNat * 2)).block, (ad261.add ((x75_2).toNat * 2)).off + 1, none⟩ = some (.int .i64 ((rd_T25 l1 x75_2).f1))) (ds := []) #[false, false, false, false, false, false, false, false, false, false, false, false, false, false, false, false] (by kernel_rfl) rfl rfl ⟨(blk_cell BK257.out 0).trans rfl, (blk_cell BK257.out 1).trans rfl, (blk_cell BK257.out 2).trans rfl, (blk_cell BK257.out 3).trans rfl, (blk_cell BK257.out 4).trans rfl, (blk_cell BK233.out 0).trans rfl, (blk_cell BK233.out 1).trans rfl, (blk_cell BK233.out 2).trans rfl, (blk_cell BK233.out 3).trans rfl, (blk_cell BK233.out 4).trans rfl, ((HB.out.cell (World.block_lt_of_cell? w _ hw261_0)).trans hw261_0), ((HB.out.cell (World.block_lt_of_cell? w _ hw261_1)).trans hw261_1)⟩ (fun hHeld => ?_); refine with_tabW slotmeshlaw17_MediumJams.tab11 slotmeshlaw17_MediumJams.bits11 (fun HT_ HW_ => ?_)
                  generalize w74.drew = w75 at HO_14 HO_16 BK233 BK257 HB hx261_0 hx261_1 hHeld ⊢
                  pz0_ 0 80 #[true, false, false, false, false, false, false, false, false, false, false, false, false, false, false, false]
                  rotate_left
                  ·
                   simp only [Act.put, List.setIfInBounds_toArray, List.set_cons_zero, List.set_cons_succ, i64_w, i32_w]
                   rfl
                  pz2_ 1 81 #[true, true, false, false, false, false, false, false, false, false, false, false, false, false, false, false]
                  rotate_left
                  ·
                   simp only [Act.put, List.setIfInBounds_toArray, List.set_cons_zero, List.set_cons_succ, i64_w, i32_w]
                   rfl
                  pz0_ 2 82 #[true, true, true, false, false, false, false, false, false, false, false, false, false, false, false, false]
                  rotate_left
                  ·
                   simp only [Act.put, List.setIfInBounds_toArray, List.set_cons_zero, List.set_cons_succ, i64_w, i32_w]
                   rfl
                  pz0_ 3 83 #[true, true, true, true, false, false, false, false, false, false, false, false, false, false, false, false]
                  rotate_left
                  ·
                   simp only [Act.put, List.setIfInBounds_toArray, List.set_cons_zero, List.set_cons_succ, i64_w, i32_w]
                   rfl
                  pz0_ 6 86 #[true, true, true, true, false, false, true, false, false, false, false, false, false, false, false, false]
                  rotate_left
                  ·
                   simp only [Act.put, List.setIfInBounds_toArray, List.set_cons_zero, List.set_cons_succ, i64_w, i32_w]
                   rfl
                  pz0_ 7 87 #[true, true, true, true, false, false, true, true, false, false, false, false, false, false, false, false]
                  rotate_left
                  ·
                   simp only [Act.put, List.setIfInBounds_toArray, List.set_cons_zero, List.set_cons_succ, i64_w, i32_w]
                   rfl
                  pz0_ 8 88 #[true, true, true, true, false, false, true, true, true, false, false, false, false, false, false, false]
                  rotate_left
                  ·
                   simp only [Act.put, List.setIfInBounds_toArray, List.set_cons_zero, List.set_cons_succ, i64_w, i32_w]
                   rfl
                  pz0_ 10 90 #[true, true, true, true, false, false, true, true, true, false, true, false, false, false, false, false]
                  rotate_left
                  ·
                   simp only [Act.put, List.setIfInBounds_toArray, List.set_cons_zero, List.set_cons_succ, i64_w, i32_w]
                   rfl
                  pz0_ 12 92 #[true, true, true, true, false, false, true, true, true, false, true, false, true, false, false, false]
                  rotate_left
                  ·
                   simp only [Act.put, List.setIfInBounds_toArray, List.set_cons_zero, List.set_cons_succ, i64_w, i32_w]
                   rfl
                  pz2_ 4 84 #[true, true, true, true, true, false, true, true, true, false, true, false, true, false, false, false]
                  rotate_left
                  ·
                   simp only [Act.put, List.setIfInBounds_toArray, List.set_cons_zero, List.set_cons_succ, i64_w, i32_w]
                   rfl
                  pz2_ 9 89 #[true, true, true, true, true, false, true, true, true, true, true, false, true, false, false, false]
                  rotate_left
                  ·
                   simp only [Act.put, List.setIfInBounds_toArray, List.set_cons_zero, List.set_cons_succ, i64_w, i32_w]
                   rfl
                  pz2_ 11 91 #[true, true, true, true, true, false, true, true, true, true, true, true, true, false, false, false]
                  rotate_left
                  ·
                   simp only [Act.put, List.setIfInBounds_toArray, List.set_cons_zero, List.set_cons_succ, i64_w, i32_w]
                   rfl
                  refine one_ (i := 5) (N := some 85) #[true, true, true, true, true, true, true, true, true, true, true, true, true, false, false, false] rfl rfl (one_of HT_.out (by kernel_rfl)) (by decide) (fun K hK => ?_)
                  refine Kd.R_lit_step k42 _ 42 ?hg (N := 85) ?hd (xs := ([(⟨(⟨a5_0, a5_1⟩ : S25), a5_2, a5_3, a5_4⟩ : S42)] : List (S42))) (inner := [.int .i64 a5_0, .int .i64 a5_1, .int .i64 a5_2, .int .i64 a5_3, .int .i64 a5_4]) (ok := fun _ => True) (okp := fun _ => True) ?hr ?hp (fun _ hk => hk) trivial (Below.refl _ _) (Nat.le_refl _) (by simp) ?_; (case hd => rfl); (case hg => rfl); (case hr => first | (go_simp; done) | (go_simp; rfl)); (case hp => exact (Reps.c5 (show Kd.M k42 _ _ _ (⟨(⟨a5_0, a5_1⟩ : S25), a5_2, a5_3, a5_4⟩ : S42) [.int .i64 a5_0, .int .i64 a5_1, .int .i64 a5_2, .int .i64 a5_3, .int .i64 a5_4] from (k42_mkM _ _ _ (⟨(⟨a5_0, a5_1⟩ : S25), a5_2, a5_3, a5_4⟩ : S42) )) (Reps.none _ _)))
                  intro v259 w76 ho77 hb hg_ hnew_
                  clear hg_ hnew_
                  (first | rw [← Ny258.out] at ho77 | (simp only [Int.reduceToNat] at ho77; rw [← Ny258.out] at ho77))
                  have n0_ := Aside0.mk (Kd.R_below (by kr_; exact HO_14.out) hb)
                  have n1_ := Aside0.mk (Kd.R_below (by kr_; exact HO_16.out) hb)
                  have n2_ := Aside0.mk (Kd.R_lower (Kd.R_newB ho77 (g := gb233) (o := .cells #[.int .i64 a5_0, .int .i64 a5_1, .int .i64 a5_2, .int .i64 a5_3, .int .i64 a5_4] 42 (0, 0)) (by bk_; exact BK233.out)) (below_size (by hb1_)))
                  have n3_ := Aside0.mk (blk_below (g := gb233) (o := .cells #[.int .i64 a5_0, .int .i64 a5_1, .int .i64 a5_2, .int .i64 a5_3, .int .i64 a5_4] 42 (0, 0)) (by bk_; exact BK233.out) hb)
                  have n4_ := Aside0.mk (blk_below (g := gb257) (o := .cells #[.int .i64 ((rd_T50 l0 x75_2).f0), .int .i64 ((rd_T50 l0 x75_2).f1), .int .i64 ((rd_T50 l0 x75_2).f2), .int .i64 ((rd_T50 l0 x75_2).f3.f0), .int .i64 ((rd_T50 l0 x75_2).f3.f1)] 50 (0, 0)) (by bk_; exact BK257.out) hb)
                  have n5_ := Aside0.mk (below_step (by hb1_) hb)
                  clear HO_14
                  clear HO_16
                  clear BK233
                  clear BK257
                  clear HB
                  have HO_14 := n0_
                  have HO_16 := n1_
                  have HO260 := n2_
                  have BK233 := n3_
                  have BK257 := n4_
                  have HB := n5_
                  clear n0_ n1_ n2_ n3_ n4_ n5_
                  clear hb ho77
                  obtain ⟨Ao78, co78, eo78⟩ := Kd.R_slice HO260.out
                  (first | subst eo78 | (injection eo78 with f1_ f2_ f3_; have f4_ := f1_.symm; have f5_ := f3_.symm; clear f1_ f2_ f3_; subst f4_; subst f5_))
                  refine hK.out _ _ ⟨(blk_cell BK257.out 0).trans rfl, (blk_cell BK257.out 1).trans rfl, (blk_cell BK257.out 2).trans rfl, (blk_cell BK257.out 3).trans rfl, (blk_cell BK257.out 4).trans rfl, (blk_cell BK233.out 0).trans rfl, (blk_cell BK233.out 1).trans rfl, (blk_cell BK233.out 2).trans rfl, (blk_cell BK233.out 3).trans rfl, (blk_cell BK233.out 4).trans rfl, ((HB.out.cell (World.block_lt_of_cell? w _ hw261_0)).trans hw261_0), ((HB.out.cell (World.block_lt_of_cell? w _ hw261_1)).trans hw261_1)⟩ (fun hHeld => ?_)
                  clear hK K
                  refine norm_ (a' := ?_) ?_ ?_
                  rotate_left
                  ·
                   show Act.put _ (some 85) _ = _
                   simp only [Act.put, List.setIfInBounds_toArray, List.set_cons_zero, List.set_cons_succ, i64_w, i32_w]
                   rfl
                  refine one_ (i := 13) (N := some 93) #[true, true, true, true, true, true, true, true, true, true, true, true, true, true, false, false] rfl rfl (one_of HT_.out (by kernel_rfl)) (by decide) (fun K hK => ?_)
                  refine goes_ Try.func23 (by kernel_rfl) rfl #[.slice Ao78 y258.length co78, .agg #[.int .i64 ((rd_T25 l1 x75_2).f0), .int .i64 ((rd_T25 l1 x75_2).f1)], .int .i64 ((rd_T50 l0 x75_2).f1), .int .i64 a4] (by rfl) rfl rfl (by (try simp only [List.map_toArray, List.map_cons, List.map_nil]); first | done | rfl | (simp only [List.length_drop, List.length_take]; rfl)) ?_
                  with_reducible refine (plane_Jammed.calls _ _ y258 ((rd_T25 l1 x75_2).f0) ((rd_T25 l1 x75_2).f1) ((rd_T50 l0 x75_2).f1) a4 false _ ?side1 ?side2 A42.out).mono ?_
                  (case side1 => repeat (first | exact (Kd.R_reads' HO260.out).2.2 | (with_reducible refine Kd.C_alloc ?_ _) | (with_reducible refine Kd.C_drewN ?_ _) | (with_reducible refine Kd.C_drew ?_)))
                  (case side2 => exact (Kd.R_reads' HO260.out).2.1)
                  rintro e w79 ⟨rfl, hb⟩
                  refine ⟨_, rfl, ?_⟩
                  have n0_ := Aside0.mk (Kd.R_below (by kr_; exact HO_14.out) hb)
                  have n1_ := Aside0.mk (Kd.R_below (by kr_; exact HO_16.out) hb)
                  have n2_ := Aside0.mk (Kd.R_below (by kr_; exact HO260.out) hb)
                  have n3_ := Aside0.mk (blk_below (g := gb233) (o := .cells #[.int .i64 a5_0, .int .i64 a5_1, .int .i64 a5_2, .int .i64 a5_3, .int .i64 a5_4] 42 (0, 0)) (by bk_; exact BK233.out) hb)
                  have n4_ := Aside0.mk (blk_below (g := gb257) (o := .cells #[.int .i64 ((rd_T50 l0 x75_2).f0), .int .i64 ((rd_T50 l0 x75_2).f1), .int .i64 ((rd_T50 l0 x75_2).f2), .int .i64 ((rd_T50 l0 x75_2).f3.f0), .int .i64 ((rd_T50 l0 x75_2).f3.f1)] 50 (0, 0)) (by bk_; exact BK257.out) hb)
                  have n5_ := Aside0.mk (below_step (by hb1_) hb)
                  clear HO_14
                  clear HO_16
                  clear HO260
                  clear BK233
                  clear BK257
                  clear HB
                  have HO_14 := n0_
                  have HO_16 := n1_
                  have HO260 := n2_
                  have BK233 := n3_
                  have BK257 := n4_
                  have HB := n5_
                  clear n0_ n1_ n2_ n3_ n4_ n5_
                  (try clear hb)
                  (try clear hb2)
                  (try clear hk)
                  (try clear hi)
                  refine hK.out _ _ ⟨(blk_cell BK257.out 0).trans rfl, (blk_cell BK257.out 1).trans rfl, (blk_cell BK257.out 2).trans rfl, (blk_cell BK257.out 3).trans rfl, (blk_cell BK257.out 4).trans rfl, (blk_cell BK233.out 0).trans rfl, (blk_cell BK233.out 1).trans rfl, (blk_cell BK233.out 2).trans rfl, (blk_cell BK233.out 3).trans rfl, (blk_cell BK233.out 4).trans rfl, ((HB.out.cell (World.block_lt_of_cell? w _ hw261_0)).trans hw261_0), ((HB.out.cell (World.block_lt_of_cell? w _ hw261_1)).trans hw261_1)⟩ (fun hHeld => ?_)
                  clear hK K
                  refine norm_ (a' := ?_) ?_ ?_
                  rotate_left
                  ·
                   show Act.put _ (some 93) _ = _
                   simp only [Act.put, List.setIfInBounds_toArray, List.set_cons_zero, List.set_cons_succ, i64_w, i32_w]
                   rfl
                  pz0_ 14 94 #[true, true, true, true, true, true, true, true, true, true, true, true, true, true, true, false]
                  rotate_left
                  ·
                   simp only [Act.put, List.setIfInBounds_toArray, List.set_cons_zero, List.set_cons_succ, i64_w, i32_w]
                   rfl
                  pz0_ 15 20 #[true, true, true, true, true, true, true, true, true, true, true, true, true, true, true, true]
                  rotate_left
                  ·
                   simp only [Act.put, List.setIfInBounds_toArray, List.set_cons_zero, List.set_cons_succ, i64_w, i32_w]
                   rfl
                  refine done_ (done_of HT_.out (by kernel_rfl)) ?_
                  try go_wp2
                  have n0_ := Aside0.mk (Kd.R_drew HO_14.out)
                  have n1_ := Aside0.mk (Kd.R_drew HO_16.out)
                  have n2_ := Aside0.mk (Kd.R_drew HO260.out)
                  have n3_ := Aside0.mk (blk_drew BK233.out)
                  have n4_ := Aside0.mk (blk_drew BK257.out)
                  have n5_ := Aside0.mk (below_drew1 HB.out)
                  clear HO_14
                  clear HO_16
                  clear HO260
                  clear BK233
                  clear BK257
                  clear HB
                  have HO_14 := n0_
                  have HO_16 := n1_
                  have HO260 := n2_
                  have BK233 := n3_
                  have BK257 := n4_
                  have HB := n5_
                  clear n0_ n1_ n2_ n3_ n4_ n5_
                  obtain ⟨Ao81, co81, eo81⟩ := Kd.R_slice HO_14.out
                  (first | subst eo81 | (injection eo81 with f1_ f2_ f3_; have f4_ := f1_.symm; have f5_ := f3_.symm; clear f1_ f2_ f3_; subst f4_; subst f5_))
                  have p264 : 0 ≤ (x75_2 : Int) := of_decide_eq_true (by first | (with_reducible assumption) | assumption)
                  have q264 : x75_2 < (t236.length : Int) := of_decide_eq_true (by first | (with_reducible assumption) | assumption)
                  obtain ⟨ad264, e264, hx264_0⟩ := Kd.at_int (Kd.R_reads' HO_14.out).2.2 x75_2 p264 q264
                  cases e264
                  replace p264 := eq_true p264
                  replace q264 := eq_true q264
                  obtain ⟨Ao82, co82, eo82⟩ := Kd.R_slice HO_16.out
                  (first | subst eo82 | (injection eo82 with f1_ f2_ f3_; have f4_ := f1_.symm; have f5_ := f3_.symm; clear f1_ f2_ f3_; subst f4_; subst f5_))
                  have p265 : 0 ≤ (x75_2 : Int) := of_decide_eq_true (by first | (with_reducible assumption) | assumption)
                  have q265 : x75_2 < (t252.length : Int) := of_decide_eq_true (by first | (with_reducible assumption) | assumption)
                  obtain ⟨ad265, e265, hx265_0⟩ := Kd.at_int (Kd.R_reads' HO_16.out).2.2 x75_2 p265 q265
                  cases e265
                  replace p265 := eq_true p265
                  replace q265 := eq_true q265
                  refine start_ (n := 23) (S := fun w' => w'.cell? (ad264.add (x75_2).toNat) = some (.int .i64 (rd t236 x75_2)) ∧ w'.cell? (ad265.add (x75_2).toNat) = some (.int .i64 (rd t252 x75_2))) (ds := []) #[false, false, false, false, false, false, false, false, false, false, false, false, false, false, false, false, false, false, false, false, false, false, false] (by kernel_rfl) rfl rfl ⟨hx264_0, hx265_0⟩ (fun hHeld => ?_); refine with_tabW slotmeshlaw17_MediumJams.tab12 slotmeshlaw17_MediumJams.bits12 (fun HT_ HW_ => ?_)
                  generalize w79.drew = w80 at HO_14 HO_16 HO260 BK233 BK257 HB hx264_0 hx265_0 hHeld ⊢
                  pz0_ 0 95 #[true, false, false, false, false, false, false, false, false, false, false, false, false, false, false, false, false, false, false, false, false, false, false]
                  rotate_left
                  ·
                   simp only [Act.put, List.setIfInBounds_toArray, List.set_cons_zero, List.set_cons_succ, i64_w, i32_w]
                   rfl
                  pz0_ 1 96 #[true, true, false, false, false, false, false, false, false, false, false, false, false, false, false, false, false, false, false, false, false, false, false]
                  rotate_left
                  ·
                   simp only [Act.put, List.setIfInBounds_toArray, List.set_cons_zero, List.set_cons_succ, i64_w, i32_w]
                   rfl
                  pz1_ 2 97 #[true, true, true, false, false, false, false, false, false, false, false, false, false, false, false, false, false, false, false, false, false, false, false]
                  pz1_ 3 98 #[true, true, true, true, false, false, false, false, false, false, false, false, false, false, false, false, false, false, false, false, false, false, false]
                  pz1_ 4 99 #[true, true, true, true, true, false, false, false, false, false, false, false, false, false, false, false, false, false, false, false, false, false, false]
                  pz1_ 5 100 #[true, true, true, true, true, true, false, false, false, false, false, false, false, false, false, false, false, false, false, false, false, false, false]
                  pz1_ 6 101 #[true, true, true, true, true, true, true, false, false, false, false, false, false, false, false, false, false, false, false, false, false, false, false]
                  pz0_ 7 102 #[true, true, true, true, true, true, true, true, false, false, false, false, false, false, false, false, false, false, false, false, false, false, false]
                  rotate_left
                  ·
                   simp only [Act.put, List.setIfInBounds_toArray, List.set_cons_zero, List.set_cons_succ, i64_w, i32_w]
                   rfl
                  pz0_ 8 103 #[true, true, true, true, true, true, true, true, true, false, false, false, false, false, false, false, false, false, false, false, false, false, false]
                  rotate_left
                  ·
                   simp only [Act.put, List.setIfInBounds_toArray, List.set_cons_zero, List.set_cons_succ, i64_w, i32_w]
                   rfl
                  pz0_ 9 104 #[true, true, true, true, true, true, true, true, true, true, false, false, false, false, false, false, false, false, false, false, false, false, false]
                  rotate_left
                  ·
                   simp only [Act.put, List.setIfInBounds_toArray, List.set_cons_zero, List.set_cons_succ, i64_w, i32_w]
                   rfl
                  pz0_ 10 105 #[true, true, true, true, true, true, true, true, true, true, true, false, false, false, false, false, false, false, false, false, false, false, false]
                  rotate_left
                  ·
                   simp only [Act.put, List.setIfInBounds_toArray, List.set_cons_zero, List.set_cons_succ, i64_w, i32_w]
                   rfl
                  pz0_ 11 106 #[true, true, true, true, true, true, true, true, true, true, true, true, false, false, false, false, false, false, false, false, false, false, false]
                  rotate_left
                  ·
                   simp only [Act.put, List.setIfInBounds_toArray, List.set_cons_zero, List.set_cons_succ, i64_w, i32_w]
                   rfl
                  pz0_ 12 107 #[true, true, true, true, true, true, true, true, true, true, true, true, true, false, false, false, false, false, false, false, false, false, false]
                  rotate_left
                  ·
                   simp only [Act.put, List.setIfInBounds_toArray, List.set_cons_zero, List.set_cons_succ, i64_w, i32_w]
                   rfl
                  pz0_ 13 108 #[true, true, true, true, true, true, true, true, true, true, true, true, true, true, false, false, false, false, false, false, false, false, false]
                  rotate_left
                  ·
                   simp only [Act.put, List.setIfInBounds_toArray, List.set_cons_zero, List.set_cons_succ, i64_w, i32_w]
                   rfl
                  pz0_ 14 109 #[true, true, true, true, true, true, true, true, true, true, true, true, true, true, true, false, false, false, false, false, false, false, false]
                  rotate_left
                  ·
                   simp only [Act.put, List.setIfInBounds_toArray, List.set_cons_zero, List.set_cons_succ, i64_w, i32_w]
                   rfl
                  pz0_ 16 111 #[true, true, true, true, true, true, true, true, true, true, true, true, true, true, true, false, true, false, false, false, false, false, false]
                  rotate_left
                  ·
                   simp only [Act.put, List.setIfInBounds_toArray, List.set_cons_zero, List.set_cons_succ, i64_w, i32_w]
                   rfl
                  pz0_ 17 112 #[true, true, true, true, true, true, true, true, true, true, true, true, true, true, true, false, true, true, false, false, false, false, false]
                  rotate_left
                  ·
                   simp only [Act.put, List.setIfInBounds_toArray, List.set_cons_zero, List.set_cons_succ, i64_w, i32_w]
                   rfl
                  pz0_ 18 113 #[true, true, true, true, true, true, true, true, true, true, true, true, true, true, true, false, true, true, true, false, false, false, false]
                  rotate_left
                  ·
                   simp only [Act.put, List.setIfInBounds_toArray, List.set_cons_zero, List.set_cons_succ, i64_w, i32_w]
                   rfl
                  pz3_ 15 110 #[true, true, true, true, true, true, true, true, true, true, true, true, true, true, true, true, true, true, true, false, false, false, false]
                  rotate_left
                  ·
                   simp only [Act.put, List.setIfInBounds_toArray, List.set_cons_zero, List.set_cons_succ, i64_w, i32_w]
                   rfl
                  pz3_ 19 114 #[true, true, true, true, true, true, true, true, true, true, true, true, true, true, true, true, true, true, true, true, false, false, false]
                  rotate_left
                  ·
                   simp only [Act.put, List.setIfInBounds_toArray, List.set_cons_zero, List.set_cons_succ, i64_w, i32_w]
                   rfl
                  pz0_ 20 115 #[true, true, true, true, true, true, true, true, true, true, true, true, true, true, true, true, true, true, true, true, true, false, false]
                  rotate_left
                  ·
                   simp only [Act.put, List.setIfInBounds_toArray, List.set_cons_zero, List.set_cons_succ, i64_w, i32_w]
                   rfl
                  pz0_ 21 116 #[true, true, true, true, true, true, true, true, true, true, true, true, true, true, true, true, true, true, true, true, true, true, false]
                  rotate_left
                  ·
                   simp only [Act.put, List.setIfInBounds_toArray, List.set_cons_zero, List.set_cons_succ, i64_w, i32_w]
                   rfl
                  pz0_ 22 117 #[true, true, true, true, true, true, true, true, true, true, true, true, true, true, true, true, true, true, true, true, true, true, true]
                  rotate_left
                  ·
                   simp only [Act.put, List.setIfInBounds_toArray, List.set_cons_zero, List.set_cons_succ, i64_w, i32_w]
                   rfl
                  refine done_ (done_of HT_.out (by kernel_rfl)) ?_
                  try go_wp2
                  go_roundg k2
                  case measure => have := HJ13.out; have := HK2.out; omega
                  case rel => exact ⟨(wrap64 (x75_2 + 1)), (by first | rfl | (simp; done) | (simp [*]; done)), H', ⟨by have := HJ13.out; have := HK2.out; omega⟩, ⟨by kr_; exact HO_14.out⟩, ⟨by kr_; exact HO_16.out⟩, ⟨by bk_; exact BK233.out⟩, ⟨by repeat (first | (with_reducible first | exact HB.out | apply below_alloc | apply pw_below_drewN | apply below_drew1 | refine below_set ?_ GE233.out | refine below_set ?_ GE257.out) | exact HB.out)⟩⟩
                 ·
                  rw [if_neg c70] at H
                  have c70b0 : ((rd t236 x75_2) == (rd t252 x75_2)) = false := beq_eq_false_iff_ne.mpr c70
                  have c70b1 : ((rd t236 x75_2) != (rd t252 x75_2)) = true := bne_iff_ne.mpr c70
                  obtain rfl := Option.some.inj H
                  have p256 : 0 ≤ (x75_2 : Int) := of_decide_eq_true (by first | (with_reducible assumption) | assumption)
                  have q256 : x75_2 < (l0.length : Int) := of_decide_eq_true (by first | (with_reducible assumption) | assumption)
                  obtain ⟨ad256, e256, hx256_0, hx256_1, hx256_2, hx256_3, hx256_4⟩ := at_T50 HR0.out x75_2 p256 q256
                  cases e256
                  replace hx256_0 := (HB.out.cell (World.block_lt_of_cell? w _ hx256_0)).trans hx256_0
                  replace hx256_1 := (HB.out.cell (World.block_lt_of_cell? w _ hx256_1)).trans hx256_1
                  replace hx256_2 := (HB.out.cell (World.block_lt_of_cell? w _ hx256_2)).trans hx256_2
                  replace hx256_3 := (HB.out.cell (World.block_lt_of_cell? w _ hx256_3)).trans hx256_3
                  replace hx256_4 := (HB.out.cell (World.block_lt_of_cell? w _ hx256_4)).trans hx256_4
                  replace p256 := eq_true p256
                  replace q256 := eq_true q256
                  try go_wp2_with (first | ((with_reducible refine gate_dst (N := 19) rfl ?_); (try (refine gate_guard (by rfl) ?_; dsimp only)); refine box_event ?hg (N := 19) ?hd (cs := #[.int .i64 0, .int .i64 0, .int .i64 0, .int .i64 0, .int .i64 0]) (t := 50) ?hr ?_; (case hd => rfl); (case hg => rfl); (case hr => first | (go_simp; done) | (go_simp; rfl)); intro gb257 hg w83 hbox hb; have n0_ := Aside0.mk (Kd.R_below (by kr_; exact HO_14.out) hb); have n1_ := Aside0.mk (Kd.R_below (by kr_; exact HO_16.out) hb); have n2_ := Aside0.mk (blk_below (g := gb233) (o := .cells #[.int .i64 a5_0, .int .i64 a5_1, .int .i64 a5_2, .int .i64 a5_3, .int .i64 a5_4] 42 (0, 0)) (by bk_; exact BK233.out) hb); have n3_ := Aside0.mk (below_step (by hb0_) hb); have n4_ := Aside0.mk (hbox); have n5_ := Aside0.mk ((by rw [hg]; exact (below_size (by hb0_)) : w.heap.size ≤ gb257)); have n6_ := Aside0.mk ((by rw [hg]; exact (below_size (by hb0_)) : w.heap.size ≤ gb257)); have n7_ := Aside0.mk ((by rw [hg]; exact Nat.ne_of_lt (blk_lt (g := gb233) (o := .cells #[.int .i64 a5_0, .int .i64 a5_1, .int .i64 a5_2, .int .i64 a5_3, .int .i64 a5_4] 42 (0, 0)) (by bk_; exact BK233.out)) : gb233 ≠ gb257)); have n8_ := Aside0.mk ((by rw [hg]; exact Nat.ne_of_gt (blk_lt (g := gb233) (o := .cells #[.int .i64 a5_0, .int .i64 a5_1, .int .i64 a5_2, .int .i64 a5_3, .int .i64 a5_4] 42 (0, 0)) (by bk_; exact BK233.out)) : gb257 ≠ gb233)); clear HO_14; clear HO_16; clear BK233; clear HB; have HO_14 := n0_; have HO_16 := n1_; have BK233 := n2_; have HB := n3_; have BK257 := n4_; have GW257 := n5_; have GE257 := n6_; have NB233_257 := n7_; have NB257_233 := n8_; clear n0_ n1_ n2_ n3_ n4_ n5_ n6_ n7_ n8_; clear hb hbox hg; have hnb84 := NB257_233.out; have hnc84 := NB233_257.out; have hcz85_0 : w83.cell? ⟨gb257, 0, none⟩ = some (.int .i64 0) := (blk_cell BK257.out 0).trans rfl; have hcz85_1 : w83.cell? ⟨gb257, 1, none⟩ = some (.int .i64 0) := (blk_cell BK257.out 1).trans rfl; have hcz85_2 : w83.cell? ⟨gb257, 2, none⟩ = some (.int .i64 0) := (blk_cell BK257.out 2).trans rfl; have hcz85_3 : w83.cell? ⟨gb257, 3, none⟩ = some (.int .i64 0) := (blk_cell BK257.out 3).trans rfl; have hcz85_4 : w83.cell? ⟨gb257, 4, none⟩ = some (.int .i64 0) := (blk_cell BK257.out 4).trans rfl; have hfz85_0 := blk_frozen BK257.out 0; have hfz85_1 := blk_frozen BK257.out 1; have hfz85_2 := blk_frozen BK257.out 2; have hfz85_3 := blk_frozen BK257.out 3; have hfz85_4 := blk_frozen BK257.out 4))
                  have n0_ : Aside0 (Kd.R (Kd.int .i64) 3 (((((w83.setCell ⟨gb257, 0, none⟩ (.int .i64 ((rd_T50 l0 x75_2).f0))).setCell ⟨gb257, 1, none⟩ (.int .i64 ((rd_T50 l0 x75_2).f1))).setCell ⟨gb257, 2, none⟩ (.int .i64 ((rd_T50 l0 x75_2).f2))).setCell ⟨gb257, 3, none⟩ (.int .i64 ((rd_T50 l0 x75_2).f3.f0))).setCell ⟨gb257, 4, none⟩ (.int .i64 ((rd_T50 l0 x75_2).f3.f1))) w.heap.size (fun k_ => some k_ ≠ (v254 : Value).ownBlock) v238 t236) := ⟨by kr_; exact Kd.R_mono (Kd.R_far (p := ⟨gb257, 4, none⟩) (Kd.R_far (p := ⟨gb257, 3, none⟩) (Kd.R_far (p := ⟨gb257, 2, none⟩) (Kd.R_far (p := ⟨gb257, 1, none⟩) (Kd.R_far (p := ⟨gb257, 0, none⟩) (Kd.R_types HO_14.out BK257.out (by decide)) (fun _ hk => hk.2) (.int .i64 ((rd_T50 l0 x75_2).f0))) (fun _ hk => hk.2) (.int .i64 ((rd_T50 l0 x75_2).f1))) (fun _ hk => hk.2) (.int .i64 ((rd_T50 l0 x75_2).f2))) (fun _ hk => hk.2) (.int .i64 ((rd_T50 l0 x75_2).f3.f0))) (fun _ hk => hk.2) (.int .i64 ((rd_T50 l0 x75_2).f3.f1))) (fun _ hk => hk.1)⟩
                  have n1_ : Aside0 (Kd.R (Kd.int .i64) 3 (((((w83.setCell ⟨gb257, 0, none⟩ (.int .i64 ((rd_T50 l0 x75_2).f0))).setCell ⟨gb257, 1, none⟩ (.int .i64 ((rd_T50 l0 x75_2).f1))).setCell ⟨gb257, 2, none⟩ (.int .i64 ((rd_T50 l0 x75_2).f2))).setCell ⟨gb257, 3, none⟩ (.int .i64 ((rd_T50 l0 x75_2).f3.f0))).setCell ⟨gb257, 4, none⟩ (.int .i64 ((rd_T50 l0 x75_2).f3.f1))) w.heap.size (fun k_ => some k_ ≠ (v238 : Value).ownBlock) v254 t252) := ⟨by kr_; exact Kd.R_mono (Kd.R_far (p := ⟨gb257, 4, none⟩) (Kd.R_far (p := ⟨gb257, 3, none⟩) (Kd.R_far (p := ⟨gb257, 2, none⟩) (Kd.R_far (p := ⟨gb257, 1, none⟩) (Kd.R_far (p := ⟨gb257, 0, none⟩) (Kd.R_types HO_16.out BK257.out (by decide)) (fun _ hk => hk.2) (.int .i64 ((rd_T50 l0 x75_2).f0))) (fun _ hk => hk.2) (.int .i64 ((rd_T50 l0 x75_2).f1))) (fun _ hk => hk.2) (.int .i64 ((rd_T50 l0 x75_2).f2))) (fun _ hk => hk.2) (.int .i64 ((rd_T50 l0 x75_2).f3.f0))) (fun _ hk => hk.2) (.int .i64 ((rd_T50 l0 x75_2).f3.f1))) (fun _ hk => hk.1)⟩
                  have n2_ : Aside0 ((((((w83.setCell ⟨gb257, 0, none⟩ (.int .i64 ((rd_T50 l0 x75_2).f0))).setCell ⟨gb257, 1, none⟩ (.int .i64 ((rd_T50 l0 x75_2).f1))).setCell ⟨gb257, 2, none⟩ (.int .i64 ((rd_T50 l0 x75_2).f2))).setCell ⟨gb257, 3, none⟩ (.int .i64 ((rd_T50 l0 x75_2).f3.f0))).setCell ⟨gb257, 4, none⟩ (.int .i64 ((rd_T50 l0 x75_2).f3.f1))).heap[gb233]? = some (.cells #[.int .i64 a5_0, .int .i64 a5_1, .int .i64 a5_2, .int .i64 a5_3, .int .i64 a5_4] 42 (0, 0))) := ⟨by bk_; refine blk_far ?_ NB233_257.out _; bk_; refine blk_far ?_ NB233_257.out _; bk_; refine blk_far ?_ NB233_257.out _; bk_; refine blk_far ?_ NB233_257.out _; bk_; refine blk_far ?_ NB233_257.out _; bk_; exact BK233.out⟩
                  have n3_ : Aside0 ((((((w83.setCell ⟨gb257, 0, none⟩ (.int .i64 ((rd_T50 l0 x75_2).f0))).setCell ⟨gb257, 1, none⟩ (.int .i64 ((rd_T50 l0 x75_2).f1))).setCell ⟨gb257, 2, none⟩ (.int .i64 ((rd_T50 l0 x75_2).f2))).setCell ⟨gb257, 3, none⟩ (.int .i64 ((rd_T50 l0 x75_2).f3.f0))).setCell ⟨gb257, 4, none⟩ (.int .i64 ((rd_T50 l0 x75_2).f3.f1))).heap[gb257]? = some (.cells #[.int .i64 ((rd_T50 l0 x75_2).f0), .int .i64 ((rd_T50 l0 x75_2).f1), .int .i64 ((rd_T50 l0 x75_2).f2), .int .i64 ((rd_T50 l0 x75_2).f3.f0), .int .i64 ((rd_T50 l0 x75_2).f3.f1)] 50 (0, 0))) := ⟨by bk_; refine blk_put (cs := #[.int .i64 ((rd_T50 l0 x75_2).f0), .int .i64 ((rd_T50 l0 x75_2).f1), .int .i64 ((rd_T50 l0 x75_2).f2), .int .i64 ((rd_T50 l0 x75_2).f3.f0), .int .i64 0]) ?_ 4 _ rfl; bk_; refine blk_put (cs := #[.int .i64 ((rd_T50 l0 x75_2).f0), .int .i64 ((rd_T50 l0 x75_2).f1), .int .i64 ((rd_T50 l0 x75_2).f2), .int .i64 0, .int .i64 0]) ?_ 3 _ rfl; bk_; refine blk_put (cs := #[.int .i64 ((rd_T50 l0 x75_2).f0), .int .i64 ((rd_T50 l0 x75_2).f1), .int .i64 0, .int .i64 0, .int .i64 0]) ?_ 2 _ rfl; bk_; refine blk_put (cs := #[.int .i64 ((rd_T50 l0 x75_2).f0), .int .i64 0, .int .i64 0, .int .i64 0, .int .i64 0]) ?_ 1 _ rfl; bk_; refine blk_put (cs := #[.int .i64 0, .int .i64 0, .int .i64 0, .int .i64 0, .int .i64 0]) ?_ 0 _ rfl; bk_; exact BK257.out⟩
                  have n4_ : Aside0 (Below w.heap.size w (((((w83.setCell ⟨gb257, 0, none⟩ (.int .i64 ((rd_T50 l0 x75_2).f0))).setCell ⟨gb257, 1, none⟩ (.int .i64 ((rd_T50 l0 x75_2).f1))).setCell ⟨gb257, 2, none⟩ (.int .i64 ((rd_T50 l0 x75_2).f2))).setCell ⟨gb257, 3, none⟩ (.int .i64 ((rd_T50 l0 x75_2).f3.f0))).setCell ⟨gb257, 4, none⟩ (.int .i64 ((rd_T50 l0 x75_2).f3.f1)))) := ⟨by repeat (first | (with_reducible first | exact HB.out | apply below_alloc | apply pw_below_drewN | apply below_drew1 | refine below_set ?_ GE233.out | refine below_set ?_ GE257.out) | exact HB.out)⟩
                  (try clear HO_14)
                  (try clear HO_16)
                  (try clear BK233)
                  (try clear BK257)
                  (try clear HB)
                  generalize (((((w83.setCell ⟨gb257, 0, none⟩ (.int .i64 ((rd_T50 l0 x75_2).f0))).setCell ⟨gb257, 1, none⟩ (.int .i64 ((rd_T50 l0 x75_2).f1))).setCell ⟨gb257, 2, none⟩ (.int .i64 ((rd_T50 l0 x75_2).f2))).setCell ⟨gb257, 3, none⟩ (.int .i64 ((rd_T50 l0 x75_2).f3.f0))).setCell ⟨gb257, 4, none⟩ (.int .i64 ((rd_T50 l0 x75_2).f3.f1))) = w86 at n0_ n1_ n2_ n3_ n4_ ⊢
                  have HO_14 := n0_
                  have HO_16 := n1_
                  have BK233 := n2_
                  have BK257 := n3_
                  have HB := n4_
                  clear n0_ n1_ n2_ n3_ n4_
                  have n0_ := Aside0.mk (Kd.R_drew HO_14.out)
                  have n1_ := Aside0.mk (Kd.R_drew HO_16.out)
                  have n2_ := Aside0.mk (blk_drew BK233.out)
                  have n3_ := Aside0.mk (blk_drew BK257.out)
                  have n4_ := Aside0.mk (below_drew1 HB.out)
                  clear HO_14
                  clear HO_16
                  clear BK233
                  clear BK257
                  clear HB
                  have HO_14 := n0_
                  have HO_16 := n1_
                  have BK233 := n2_
                  have BK257 := n3_
                  have HB := n4_
                  clear n0_ n1_ n2_ n3_ n4_
                  have p261 : 0 ≤ (x75_2 : Int) := of_decide_eq_true (by first | (with_reducible assumption) | assumption)
                  have q261 : x75_2 < (l1.length : Int) := of_decide_eq_true (by first | (with_reducible assumption) | assumption)
                  obtain ⟨ad261, e261, hx261_0, hx261_1⟩ := at_T25 HR1.out x75_2 p261 q261
                  have hw261_1 := hx261_1
                  have hw261_0 := hx261_0
                  cases e261
                  replace hx261_0 := (HB.out.cell (World.block_lt_of_cell? w _ hx261_0)).trans hx261_0
                  replace hx261_1 := (HB.out.cell (World.block_lt_of_cell? w _ hx261_1)).trans hx261_1
                  replace p261 := eq_true p261
                  replace q261 := eq_true q261
                  refine start_ (n := 16) (S := fun w' => w'.cell? ⟨gb257, 0, none⟩ = some (.int .i64 ((rd_T50 l0 x75_2).f0)) ∧ w'.cell? ⟨gb257, 1, none⟩ = some (.int .i64 ((rd_T50 l0 x75_2).f1)) ∧ w'.cell? ⟨gb257, 2, none⟩ = some (.int .i64 ((rd_T50 l0 x75_2).f2)) ∧ w'.cell? ⟨gb257, 3, none⟩ = some (.int .i64 ((rd_T50 l0 x75_2).f3.f0)) ∧ w'.cell? ⟨gb257, 4, none⟩ = some (.int .i64 ((rd_T50 l0 x75_2).f3.f1)) ∧ w'.cell? ⟨gb233, 0, none⟩ = some (.int .i64 a5_0) ∧ w'.cell? ⟨gb233, 1, none⟩ = some (.int .i64 a5_1) ∧ w'.cell? ⟨gb233, 2, none⟩ = some (.int .i64 a5_2) ∧ w'.cell? ⟨gb233, 3, none⟩ = some (.int .i64 a5_3) ∧ w'.cell? ⟨gb233, 4, none⟩ = some (.int .i64 a5_4) ∧ w'.cell? (ad261.add ((x75_2).toNat * 2)) = some (.int .i64 ((rd_T25 l1 x75_2).f0)) ∧ w'.cell? ⟨(ad261.add ((x75_2).toNat * 2)).block, (ad261.add ((x75_2).toNat * 2)).off + 1, none⟩ = some (.int .i64 ((rd_T25 l1 x75_2).f1))) (ds := []) #[false, false, false, false, false, false, false, false, false, false, false, false, false, false, false, false] (by kernel_rfl) rfl rfl ⟨(blk_cell BK257.out 0).trans rfl, (blk_cell BK257.out 1).trans rfl, (blk_cell BK257.out 2).trans rfl, (blk_cell BK257.out 3).trans rfl, (blk_cell BK257.out 4).trans rfl, (blk_cell BK233.out 0).trans rfl, (blk_cell BK233.out 1).trans rfl, (blk_cell BK233.out 2).trans rfl, (blk_cell BK233.out 3).trans rfl, (blk_cell BK233.out 4).trans rfl, ((HB.out.cell (World.block_lt_of_cell? w _ hw261_0)).trans hw261_0), ((HB.out.cell (World.block_lt_of_cell? w _ hw261_1)).trans hw261_1)⟩ (fun hHeld => ?_); refine with_tabW slotmeshlaw17_MediumJams.tab11 slotmeshlaw17_MediumJams.bits11 (fun HT_ HW_ => ?_)
                  generalize w86.drew = w87 at HO_14 HO_16 BK233 BK257 HB hx261_0 hx261_1 hHeld ⊢
                  pz0_ 0 80 #[true, false, false, false, false, false, false, false, false, false, false, false, false, false, false, false]
                  rotate_left
                  ·
                   simp only [Act.put, List.setIfInBounds_toArray, List.set_cons_zero, List.set_cons_succ, i64_w, i32_w]
                   rfl
                  pz2_ 1 81 #[true, true, false, false, false, false, false, false, false, false, false, false, false, false, false, false]
                  rotate_left
                  ·
                   simp only [Act.put, List.setIfInBounds_toArray, List.set_cons_zero, List.set_cons_succ, i64_w, i32_w]
                   rfl
                  pz0_ 2 82 #[true, true, true, false, false, false, false, false, false, false, false, false, false, false, false, false]
                  rotate_left
                  ·
                   simp only [Act.put, List.setIfInBounds_toArray, List.set_cons_zero, List.set_cons_succ, i64_w, i32_w]
                   rfl
                  pz0_ 3 83 #[true, true, true, true, false, false, false, false, false, false, false, false, false, false, false, false]
                  rotate_left
                  ·
                   simp only [Act.put, List.setIfInBounds_toArray, List.set_cons_zero, List.set_cons_succ, i64_w, i32_w]
                   rfl
                  pz0_ 6 86 #[true, true, true, true, false, false, true, false, false, false, false, false, false, false, false, false]
                  rotate_left
                  ·
                   simp only [Act.put, List.setIfInBounds_toArray, List.set_cons_zero, List.set_cons_succ, i64_w, i32_w]
                   rfl
                  pz0_ 7 87 #[true, true, true, true, false, false, true, true, false, false, false, false, false, false, false, false]
                  rotate_left
                  ·
                   simp only [Act.put, List.setIfInBounds_toArray, List.set_cons_zero, List.set_cons_succ, i64_w, i32_w]
                   rfl
                  pz0_ 8 88 #[true, true, true, true, false, false, true, true, true, false, false, false, false, false, false, false]
                  rotate_left
                  ·
                   simp only [Act.put, List.setIfInBounds_toArray, List.set_cons_zero, List.set_cons_succ, i64_w, i32_w]
                   rfl
                  pz0_ 10 90 #[true, true, true, true, false, false, true, true, true, false, true, false, false, false, false, false]
                  rotate_left
                  ·
                   simp only [Act.put, List.setIfInBounds_toArray, List.set_cons_zero, List.set_cons_succ, i64_w, i32_w]
                   rfl
                  pz0_ 12 92 #[true, true, true, true, false, false, true, true, true, false, true, false, true, false, false, false]
                  rotate_left
                  ·
                   simp only [Act.put, List.setIfInBounds_toArray, List.set_cons_zero, List.set_cons_succ, i64_w, i32_w]
                   rfl
                  pz2_ 4 84 #[true, true, true, true, true, false, true, true, true, false, true, false, true, false, false, false]
                  rotate_left
                  ·
                   simp only [Act.put, List.setIfInBounds_toArray, List.set_cons_zero, List.set_cons_succ, i64_w, i32_w]
                   rfl
                  pz2_ 9 89 #[true, true, true, true, true, false, true, true, true, true, true, false, true, false, false, false]
                  rotate_left
                  ·
                   simp only [Act.put, List.setIfInBounds_toArray, List.set_cons_zero, List.set_cons_succ, i64_w, i32_w]
                   rfl
                  pz2_ 11 91 #[true, true, true, true, true, false, true, true, true, true, true, true, true, false, false, false]
                  rotate_left
                  ·
                   simp only [Act.put, List.setIfInBounds_toArray, List.set_cons_zero, List.set_cons_succ, i64_w, i32_w]
                   rfl
                  refine one_ (i := 5) (N := some 85) #[true, true, true, true, true, true, true, true, true, true, true, true, true, false, false, false] rfl rfl (one_of HT_.out (by kernel_rfl)) (by decide) (fun K hK => ?_)
                  refine Kd.R_lit_step k42 _ 42 ?hg (N := 85) ?hd (xs := ([(⟨(⟨a5_0, a5_1⟩ : S25), a5_2, a5_3, a5_4⟩ : S42)] : List (S42))) (inner := [.int .i64 a5_0, .int .i64 a5_1, .int .i64 a5_2, .int .i64 a5_3, .int .i64 a5_4]) (ok := fun _ => True) (okp := fun _ => True) ?hr ?hp (fun _ hk => hk) trivial (Below.refl _ _) (Nat.le_refl _) (by simp) ?_; (case hd => rfl); (case hg => rfl); (case hr => first | (go_simp; done) | (go_simp; rfl)); (case hp => exact (Reps.c5 (show Kd.M k42 _ _ _ (⟨(⟨a5_0, a5_1⟩ : S25), a5_2, a5_3, a5_4⟩ : S42) [.int .i64 a5_0, .int .i64 a5_1, .int .i64 a5_2, .int .i64 a5_3, .int .i64 a5_4] from (k42_mkM _ _ _ (⟨(⟨a5_0, a5_1⟩ : S25), a5_2, a5_3, a5_4⟩ : S42) )) (Reps.none _ _)))
                  intro v259 w88 ho89 hb hg_ hnew_
                  clear hg_ hnew_
                  (first | rw [← Ny258.out] at ho89 | (simp only [Int.reduceToNat] at ho89; rw [← Ny258.out] at ho89))
                  have n0_ := Aside0.mk (Kd.R_below (by kr_; exact HO_14.out) hb)
                  have n1_ := Aside0.mk (Kd.R_below (by kr_; exact HO_16.out) hb)
                  have n2_ := Aside0.mk (Kd.R_lower (Kd.R_newB ho89 (g := gb233) (o := .cells #[.int .i64 a5_0, .int .i64 a5_1, .int .i64 a5_2, .int .i64 a5_3, .int .i64 a5_4] 42 (0, 0)) (by bk_; exact BK233.out)) (below_size (by hb1_)))
                  have n3_ := Aside0.mk (blk_below (g := gb233) (o := .cells #[.int .i64 a5_0, .int .i64 a5_1, .int .i64 a5_2, .int .i64 a5_3, .int .i64 a5_4] 42 (0, 0)) (by bk_; exact BK233.out) hb)
                  have n4_ := Aside0.mk (blk_below (g := gb257) (o := .cells #[.int .i64 ((rd_T50 l0 x75_2).f0), .int .i64 ((rd_T50 l0 x75_2).f1), .int .i64 ((rd_T50 l0 x75_2).f2), .int .i64 ((rd_T50 l0 x75_2).f3.f0), .int .i64 ((rd_T50 l0 x75_2).f3.f1)] 50 (0, 0)) (by bk_; exact BK257.out) hb)
                  have n5_ := Aside0.mk (below_step (by hb1_) hb)
                  clear HO_14
                  clear HO_16
                  clear BK233
                  clear BK257
                  clear HB
                  have HO_14 := n0_
                  have HO_16 := n1_
                  have HO260 := n2_
                  have BK233 := n3_
                  have BK257 := n4_
                  have HB := n5_
                  clear n0_ n1_ n2_ n3_ n4_ n5_
                  clear hb ho89
                  obtain ⟨Ao90, co90, eo90⟩ := Kd.R_slice HO260.out
                  (first | subst eo90 | (injection eo90 with f1_ f2_ f3_; have f4_ := f1_.symm; have f5_ := f3_.symm; clear f1_ f2_ f3_; subst f4_; subst f5_))
                  refine hK.out _ _ ⟨(blk_cell BK257.out 0).trans rfl, (blk_cell BK257.out 1).trans rfl, (blk_cell BK257.out 2).trans rfl, (blk_cell BK257.out 3).trans rfl, (blk_cell BK257.out 4).trans rfl, (blk_cell BK233.out 0).trans rfl, (blk_cell BK233.out 1).trans rfl, (blk_cell BK233.out 2).trans rfl, (blk_cell BK233.out 3).trans rfl, (blk_cell BK233.out 4).trans rfl, ((HB.out.cell (World.block_lt_of_cell? w _ hw261_0)).trans hw261_0), ((HB.out.cell (World.block_lt_of_cell? w _ hw261_1)).trans hw261_1)⟩ (fun hHeld => ?_)
                  clear hK K
                  refine norm_ (a' := ?_) ?_ ?_
                  rotate_left
                  ·
                   show Act.put _ (some 85) _ = _
                   simp only [Act.put, List.setIfInBounds_toArray, List.set_cons_zero, List.set_cons_succ, i64_w, i32_w]
                   rfl
                  refine one_ (i := 13) (N := some 93) #[true, true, true, true, true, true, true, true, true, true, true, true, true, true, false, false] rfl rfl (one_of HT_.out (by kernel_rfl)) (by decide) (fun K hK => ?_)
                  refine goes_ Try.func23 (by kernel_rfl) rfl #[.slice Ao90 y258.length co90, .agg #[.int .i64 ((rd_T25 l1 x75_2).f0), .int .i64 ((rd_T25 l1 x75_2).f1)], .int .i64 ((rd_T50 l0 x75_2).f1), .int .i64 a4] (by rfl) rfl rfl (by (try simp only [List.map_toArray, List.map_cons, List.map_nil]); first | done | rfl | (simp only [List.length_drop, List.length_take]; rfl)) ?_
                  with_reducible refine (plane_Jammed.calls _ _ y258 ((rd_T25 l1 x75_2).f0) ((rd_T25 l1 x75_2).f1) ((rd_T50 l0 x75_2).f1) a4 false _ ?side1 ?side2 A42.out).mono ?_
                  (case side1 => repeat (first | exact (Kd.R_reads' HO260.out).2.2 | (with_reducible refine Kd.C_alloc ?_ _) | (with_reducible refine Kd.C_drewN ?_ _) | (with_reducible refine Kd.C_drew ?_)))
                  (case side2 => exact (Kd.R_reads' HO260.out).2.1)
                  rintro e w91 ⟨rfl, hb⟩
                  refine ⟨_, rfl, ?_⟩
                  have n0_ := Aside0.mk (Kd.R_below (by kr_; exact HO_14.out) hb)
                  have n1_ := Aside0.mk (Kd.R_below (by kr_; exact HO_16.out) hb)
                  have n2_ := Aside0.mk (Kd.R_below (by kr_; exact HO260.out) hb)
                  have n3_ := Aside0.mk (blk_below (g := gb233) (o := .cells #[.int .i64 a5_0, .int .i64 a5_1, .int .i64 a5_2, .int .i64 a5_3, .int .i64 a5_4] 42 (0, 0)) (by bk_; exact BK233.out) hb)
                  have n4_ := Aside0.mk (blk_below (g := gb257) (o := .cells #[.int .i64 ((rd_T50 l0 x75_2).f0), .int .i64 ((rd_T50 l0 x75_2).f1), .int .i64 ((rd_T50 l0 x75_2).f2), .int .i64 ((rd_T50 l0 x75_2).f3.f0), .int .i64 ((rd_T50 l0 x75_2).f3.f1)] 50 (0, 0)) (by bk_; exact BK257.out) hb)
                  have n5_ := Aside0.mk (below_step (by hb1_) hb)
                  clear HO_14
                  clear HO_16
                  clear HO260
                  clear BK233
                  clear BK257
                  clear HB
                  have HO_14 := n0_
                  have HO_16 := n1_
                  have HO260 := n2_
                  have BK233 := n3_
                  have BK257 := n4_
                  have HB := n5_
                  clear n0_ n1_ n2_ n3_ n4_ n5_
                  (try clear hb)
                  (try clear hb2)
                  (try clear hk)
                  (try clear hi)
                  refine hK.out _ _ ⟨(blk_cell BK257.out 0).trans rfl, (blk_cell BK257.out 1).trans rfl, (blk_cell BK257.out 2).trans rfl, (blk_cell BK257.out 3).trans rfl, (blk_cell BK257.out 4).trans rfl, (blk_cell BK233.out 0).trans rfl, (blk_cell BK233.out 1).trans rfl, (blk_cell BK233.out 2).trans rfl, (blk_cell BK233.out 3).trans rfl, (blk_cell BK233.out 4).trans rfl, ((HB.out.cell (World.block_lt_of_cell? w _ hw261_0)).trans hw261_0), ((HB.out.cell (World.block_lt_of_cell? w _ hw261_1)).trans hw261_1)⟩ (fun hHeld => ?_)
                  clear hK K
                  refine norm_ (a' := ?_) ?_ ?_
                  rotate_left
                  ·
                   show Act.put _ (some 93) _ = _
                   simp only [Act.put, List.setIfInBounds_toArray, List.set_cons_zero, List.set_cons_succ, i64_w, i32_w]
                   rfl
                  pz0_ 14 94 #[true, true, true, true, true, true, true, true, true, true, true, true, true, true, true, false]
                  rotate_left
                  ·
                   simp only [Act.put, List.setIfInBounds_toArray, List.set_cons_zero, List.set_cons_succ, i64_w, i32_w]
                   rfl
                  pz0_ 15 20 #[true, true, true, true, true, true, true, true, true, true, true, true, true, true, true, true]
                  rotate_left
                  ·
                   simp only [Act.put, List.setIfInBounds_toArray, List.set_cons_zero, List.set_cons_succ, i64_w, i32_w]
                   rfl
                  refine done_ (done_of HT_.out (by kernel_rfl)) ?_
                  try go_wp2
                  have n0_ := Aside0.mk (Kd.R_drew HO_14.out)
                  have n1_ := Aside0.mk (Kd.R_drew HO_16.out)
                  have n2_ := Aside0.mk (Kd.R_drew HO260.out)
                  have n3_ := Aside0.mk (blk_drew BK233.out)
                  have n4_ := Aside0.mk (blk_drew BK257.out)
                  have n5_ := Aside0.mk (below_drew1 HB.out)
                  clear HO_14
                  clear HO_16
                  clear HO260
                  clear BK233
                  clear BK257
                  clear HB
                  have HO_14 := n0_
                  have HO_16 := n1_
                  have HO260 := n2_
                  have BK233 := n3_
                  have BK257 := n4_
                  have HB := n5_
                  clear n0_ n1_ n2_ n3_ n4_ n5_
                  obtain ⟨Ao93, co93, eo93⟩ := Kd.R_slice HO_14.out
                  (first | subst eo93 | (injection eo93 with f1_ f2_ f3_; have f4_ := f1_.symm; have f5_ := f3_.symm; clear f1_ f2_ f3_; subst f4_; subst f5_))
                  have p264 : 0 ≤ (x75_2 : Int) := of_decide_eq_true (by first | (with_reducible assumption) | assumption)
                  have q264 : x75_2 < (t236.length : Int) := of_decide_eq_true (by first | (with_reducible assumption) | assumption)
                  obtain ⟨ad264, e264, hx264_0⟩ := Kd.at_int (Kd.R_reads' HO_14.out).2.2 x75_2 p264 q264
                  cases e264
                  replace p264 := eq_true p264
                  replace q264 := eq_true q264
                  obtain ⟨Ao94, co94, eo94⟩ := Kd.R_slice HO_16.out
                  (first | subst eo94 | (injection eo94 with f1_ f2_ f3_; have f4_ := f1_.symm; have f5_ := f3_.symm; clear f1_ f2_ f3_; subst f4_; subst f5_))
                  have p265 : 0 ≤ (x75_2 : Int) := of_decide_eq_true (by first | (with_reducible assumption) | assumption)
                  have q265 : x75_2 < (t252.length : Int) := of_decide_eq_true (by first | (with_reducible assumption) | assumption)
                  obtain ⟨ad265, e265, hx265_0⟩ := Kd.at_int (Kd.R_reads' HO_16.out).2.2 x75_2 p265 q265
                  cases e265
                  replace p265 := eq_true p265
                  replace q265 := eq_true q265
                  refine start_ (n := 23) (S := fun w' => w'.cell? (ad264.add (x75_2).toNat) = some (.int .i64 (rd t236 x75_2)) ∧ w'.cell? (ad265.add (x75_2).toNat) = some (.int .i64 (rd t252 x75_2))) (ds := []) #[false, false, false, false, false, false, false, false, false, false, false, false, false, false, false, false, false, false, false, false, false, false, false] (by kernel_rfl) rfl rfl ⟨hx264_0, hx265_0⟩ (fun hHeld => ?_); refine with_tabW slotmeshlaw17_MediumJams.tab12 slotmeshlaw17_MediumJams.bits12 (fun HT_ HW_ => ?_)
                  generalize w91.drew = w92 at HO_14 HO_16 HO260 BK233 BK257 HB hx264_0 hx265_0 hHeld ⊢
                  pz0_ 0 95 #[true, false, false, false, false, false, false, false, false, false, false, false, false, false, false, false, false, false, false, false, false, false, false]
                  rotate_left
                  ·
                   simp only [Act.put, List.setIfInBounds_toArray, List.set_cons_zero, List.set_cons_succ, i64_w, i32_w]
                   rfl
                  pz0_ 1 96 #[true, true, false, false, false, false, false, false, false, false, false, false, false, false, false, false, false, false, false, false, false, false, false]
                  rotate_left
                  ·
                   simp only [Act.put, List.setIfInBounds_toArray, List.set_cons_zero, List.set_cons_succ, i64_w, i32_w]
                   rfl
                  pz1_ 2 97 #[true, true, true, false, false, false, false, false, false, false, false, false, false, false, false, false, false, false, false, false, false, false, false]
                  pz1_ 3 98 #[true, true, true, true, false, false, false, false, false, false, false, false, false, false, false, false, false, false, false, false, false, false, false]
                  pz1_ 4 99 #[true, true, true, true, true, false, false, false, false, false, false, false, false, false, false, false, false, false, false, false, false, false, false]
                  pz1_ 5 100 #[true, true, true, true, true, true, false, false, false, false, false, false, false, false, false, false, false, false, false, false, false, false, false]
                  pz1_ 6 101 #[true, true, true, true, true, true, true, false, false, false, false, false, false, false, false, false, false, false, false, false, false, false, false]
                  pz0_ 7 102 #[true, true, true, true, true, true, true, true, false, false, false, false, false, false, false, false, false, false, false, false, false, false, false]
                  rotate_left
                  ·
                   simp only [Act.put, List.setIfInBounds_toArray, List.set_cons_zero, List.set_cons_succ, i64_w, i32_w]
                   rfl
                  pz0_ 8 103 #[true, true, true, true, true, true, true, true, true, false, false, false, false, false, false, false, false, false, false, false, false, false, false]
                  rotate_left
                  ·
                   simp only [Act.put, List.setIfInBounds_toArray, List.set_cons_zero, List.set_cons_succ, i64_w, i32_w]
                   rfl
                  pz0_ 9 104 #[true, true, true, true, true, true, true, true, true, true, false, false, false, false, false, false, false, false, false, false, false, false, false]
                  rotate_left
                  ·
                   simp only [Act.put, List.setIfInBounds_toArray, List.set_cons_zero, List.set_cons_succ, i64_w, i32_w]
                   rfl
                  pz0_ 10 105 #[true, true, true, true, true, true, true, true, true, true, true, false, false, false, false, false, false, false, false, false, false, false, false]
                  rotate_left
                  ·
                   simp only [Act.put, List.setIfInBounds_toArray, List.set_cons_zero, List.set_cons_succ, i64_w, i32_w]
                   rfl
                  pz0_ 11 106 #[true, true, true, true, true, true, true, true, true, true, true, true, false, false, false, false, false, false, false, false, false, false, false]
                  rotate_left
                  ·
                   simp only [Act.put, List.setIfInBounds_toArray, List.set_cons_zero, List.set_cons_succ, i64_w, i32_w]
                   rfl
                  pz0_ 12 107 #[true, true, true, true, true, true, true, true, true, true, true, true, true, false, false, false, false, false, false, false, false, false, false]
                  rotate_left
                  ·
                   simp only [Act.put, List.setIfInBounds_toArray, List.set_cons_zero, List.set_cons_succ, i64_w, i32_w]
                   rfl
                  pz0_ 13 108 #[true, true, true, true, true, true, true, true, true, true, true, true, true, true, false, false, false, false, false, false, false, false, false]
                  rotate_left
                  ·
                   simp only [Act.put, List.setIfInBounds_toArray, List.set_cons_zero, List.set_cons_succ, i64_w, i32_w]
                   rfl
                  pz0_ 14 109 #[true, true, true, true, true, true, true, true, true, true, true, true, true, true, true, false, false, false, false, false, false, false, false]
                  rotate_left
                  ·
                   simp only [Act.put, List.setIfInBounds_toArray, List.set_cons_zero, List.set_cons_succ, i64_w, i32_w]
                   rfl
                  pz0_ 16 111 #[true, true, true, true, true, true, true, true, true, true, true, true, true, true, true, false, true, false, false, false, false, false, false]
                  rotate_left
                  ·
                   simp only [Act.put, List.setIfInBounds_toArray, List.set_cons_zero, List.set_cons_succ, i64_w, i32_w]
                   rfl
                  pz0_ 17 112 #[true, true, true, true, true, true, true, true, true, true, true, true, true, true, true, false, true, true, false, false, false, false, false]
                  rotate_left
                  ·
                   simp only [Act.put, List.setIfInBounds_toArray, List.set_cons_zero, List.set_cons_succ, i64_w, i32_w]
                   rfl
                  pz0_ 18 113 #[true, true, true, true, true, true, true, true, true, true, true, true, true, true, true, false, true, true, true, false, false, false, false]
                  rotate_left
                  ·
                   simp only [Act.put, List.setIfInBounds_toArray, List.set_cons_zero, List.set_cons_succ, i64_w, i32_w]
                   rfl
                  pz3_ 15 110 #[true, true, true, true, true, true, true, true, true, true, true, true, true, true, true, true, true, true, true, false, false, false, false]
                  rotate_left
                  ·
                   simp only [Act.put, List.setIfInBounds_toArray, List.set_cons_zero, List.set_cons_succ, i64_w, i32_w]
                   rfl
                  pz3_ 19 114 #[true, true, true, true, true, true, true, true, true, true, true, true, true, true, true, true, true, true, true, true, false, false, false]
                  rotate_left
                  ·
                   simp only [Act.put, List.setIfInBounds_toArray, List.set_cons_zero, List.set_cons_succ, i64_w, i32_w]
                   rfl
                  pz0_ 20 115 #[true, true, true, true, true, true, true, true, true, true, true, true, true, true, true, true, true, true, true, true, true, false, false]
                  rotate_left
                  ·
                   simp only [Act.put, List.setIfInBounds_toArray, List.set_cons_zero, List.set_cons_succ, i64_w, i32_w]
                   rfl
                  pz0_ 21 116 #[true, true, true, true, true, true, true, true, true, true, true, true, true, true, true, true, true, true, true, true, true, true, false]
                  rotate_left
                  ·
                   simp only [Act.put, List.setIfInBounds_toArray, List.set_cons_zero, List.set_cons_succ, i64_w, i32_w]
                   rfl
                  pz0_ 22 117 #[true, true, true, true, true, true, true, true, true, true, true, true, true, true, true, true, true, true, true, true, true, true, true]
                  rotate_left
                  ·
                   simp only [Act.put, List.setIfInBounds_toArray, List.set_cons_zero, List.set_cons_succ, i64_w, i32_w]
                   rfl
                  refine done_ (done_of HT_.out (by kernel_rfl)) ?_
                  try go_wp2
                  go_ret
                  exact ⟨by first | rfl | (simp [errW_none, errW_some] <;> rfl) | (simp [*, errW_none, errW_some] <;> rfl), by repeat (first | (with_reducible first | exact HB.out | apply below_alloc | apply pw_below_drewN | apply below_drew1 | refine below_set ?_ GE233.out | refine below_set ?_ GE257.out) | exact HB.out)⟩
                ·
                 rw [if_neg c69] at H
                 exact absurd H (by simp)
               ·
                rw [if_neg c68] at H
                exact absurd H (by simp)
             ·
              rw [if_neg c41] at H
              exact absurd H (by simp)
            ·
             rw [if_neg c40] at H
             have c40b0 : (((rd_T50 l0 x75_2).f0) == 1) = false := beq_eq_false_iff_ne.mpr c40
             have c40b1 : (((rd_T50 l0 x75_2).f0) != 1) = true := bne_iff_ne.mpr c40
             by_cases c95 : x75_2 < (t236.length : Int)
             ·
              rw [if_pos c95] at H
              have c95b0 : decide (x75_2 < (t236.length : Int)) = true := decide_eq_true c95
              clear c95
              by_cases c96 : x75_2 < (t252.length : Int)
              ·
               rw [if_pos c96] at H
               have c96b0 : decide (x75_2 < (t252.length : Int)) = true := decide_eq_true c96
               clear c96
               by_cases c97 : (rd t236 x75_2) = (rd t252 x75_2)
               ·
                rw [if_pos c97] at H
                have c97b0 : ((rd t236 x75_2) == (rd t252 x75_2)) = true := beq_iff_eq.mpr c97
                have c97b1 : ((rd t236 x75_2) != (rd t252 x75_2)) = false := bne_eq_false_iff_eq.mpr c97
                clear c97
                have H' := Aside0.mk H
                clear H
                have p256 : 0 ≤ (x75_2 : Int) := of_decide_eq_true (by first | (with_reducible assumption) | assumption)
                have q256 : x75_2 < (l0.length : Int) := of_decide_eq_true (by first | (with_reducible assumption) | assumption)
                obtain ⟨ad256, e256, hx256_0, hx256_1, hx256_2, hx256_3, hx256_4⟩ := at_T50 HR0.out x75_2 p256 q256
                cases e256
                replace hx256_0 := (HB.out.cell (World.block_lt_of_cell? w _ hx256_0)).trans hx256_0
                replace hx256_1 := (HB.out.cell (World.block_lt_of_cell? w _ hx256_1)).trans hx256_1
                replace hx256_2 := (HB.out.cell (World.block_lt_of_cell? w _ hx256_2)).trans hx256_2
                replace hx256_3 := (HB.out.cell (World.block_lt_of_cell? w _ hx256_3)).trans hx256_3
                replace hx256_4 := (HB.out.cell (World.block_lt_of_cell? w _ hx256_4)).trans hx256_4
                replace p256 := eq_true p256
                replace q256 := eq_true q256
                try go_wp2_with (first | ((with_reducible refine gate_dst (N := 19) rfl ?_); (try (refine gate_guard (by rfl) ?_; dsimp only)); refine box_event ?hg (N := 19) ?hd (cs := #[.int .i64 0, .int .i64 0, .int .i64 0, .int .i64 0, .int .i64 0]) (t := 50) ?hr ?_; (case hd => rfl); (case hg => rfl); (case hr => first | (go_simp; done) | (go_simp; rfl)); intro gb257 hg w98 hbox hb; have n0_ := Aside0.mk (Kd.R_below (by kr_; exact HO_14.out) hb); have n1_ := Aside0.mk (Kd.R_below (by kr_; exact HO_16.out) hb); have n2_ := Aside0.mk (blk_below (g := gb233) (o := .cells #[.int .i64 a5_0, .int .i64 a5_1, .int .i64 a5_2, .int .i64 a5_3, .int .i64 a5_4] 42 (0, 0)) (by bk_; exact BK233.out) hb); have n3_ := Aside0.mk (below_step (by hb0_) hb); have n4_ := Aside0.mk (hbox); have n5_ := Aside0.mk ((by rw [hg]; exact (below_size (by hb0_)) : w.heap.size ≤ gb257)); have n6_ := Aside0.mk ((by rw [hg]; exact (below_size (by hb0_)) : w.heap.size ≤ gb257)); have n7_ := Aside0.mk ((by rw [hg]; exact Nat.ne_of_lt (blk_lt (g := gb233) (o := .cells #[.int .i64 a5_0, .int .i64 a5_1, .int .i64 a5_2, .int .i64 a5_3, .int .i64 a5_4] 42 (0, 0)) (by bk_; exact BK233.out)) : gb233 ≠ gb257)); have n8_ := Aside0.mk ((by rw [hg]; exact Nat.ne_of_gt (blk_lt (g := gb233) (o := .cells #[.int .i64 a5_0, .int .i64 a5_1, .int .i64 a5_2, .int .i64 a5_3, .int .i64 a5_4] 42 (0, 0)) (by bk_; exact BK233.out)) : gb257 ≠ gb233)); clear HO_14; clear HO_16; clear BK233; clear HB; have HO_14 := n0_; have HO_16 := n1_; have BK233 := n2_; have HB := n3_; have BK257 := n4_; have GW257 := n5_; have GE257 := n6_; have NB233_257 := n7_; have NB257_233 := n8_; clear n0_ n1_ n2_ n3_ n4_ n5_ n6_ n7_ n8_; clear hb hbox hg; have hnb99 := NB257_233.out; have hnc99 := NB233_257.out; have hcz100_0 : w98.cell? ⟨gb257, 0, none⟩ = some (.int .i64 0) := (blk_cell BK257.out 0).trans rfl; have hcz100_1 : w98.cell? ⟨gb257, 1, none⟩ = some (.int .i64 0) := (blk_cell BK257.out 1).trans rfl; have hcz100_2 : w98.cell? ⟨gb257, 2, none⟩ = some (.int .i64 0) := (blk_cell BK257.out 2).trans rfl; have hcz100_3 : w98.cell? ⟨gb257, 3, none⟩ = some (.int .i64 0) := (blk_cell BK257.out 3).trans rfl; have hcz100_4 : w98.cell? ⟨gb257, 4, none⟩ = some (.int .i64 0) := (blk_cell BK257.out 4).trans rfl; have hfz100_0 := blk_frozen BK257.out 0; have hfz100_1 := blk_frozen BK257.out 1; have hfz100_2 := blk_frozen BK257.out 2; have hfz100_3 := blk_frozen BK257.out 3; have hfz100_4 := blk_frozen BK257.out 4))
                have n0_ : Aside0 (Kd.R (Kd.int .i64) 3 (((((w98.setCell ⟨gb257, 0, none⟩ (.int .i64 ((rd_T50 l0 x75_2).f0))).setCell ⟨gb257, 1, none⟩ (.int .i64 ((rd_T50 l0 x75_2).f1))).setCell ⟨gb257, 2, none⟩ (.int .i64 ((rd_T50 l0 x75_2).f2))).setCell ⟨gb257, 3, none⟩ (.int .i64 ((rd_T50 l0 x75_2).f3.f0))).setCell ⟨gb257, 4, none⟩ (.int .i64 ((rd_T50 l0 x75_2).f3.f1))) w.heap.size (fun k_ => some k_ ≠ (v254 : Value).ownBlock) v238 t236) := ⟨by kr_; exact Kd.R_mono (Kd.R_far (p := ⟨gb257, 4, none⟩) (Kd.R_far (p := ⟨gb257, 3, none⟩) (Kd.R_far (p := ⟨gb257, 2, none⟩) (Kd.R_far (p := ⟨gb257, 1, none⟩) (Kd.R_far (p := ⟨gb257, 0, none⟩) (Kd.R_types HO_14.out BK257.out (by decide)) (fun _ hk => hk.2) (.int .i64 ((rd_T50 l0 x75_2).f0))) (fun _ hk => hk.2) (.int .i64 ((rd_T50 l0 x75_2).f1))) (fun _ hk => hk.2) (.int .i64 ((rd_T50 l0 x75_2).f2))) (fun _ hk => hk.2) (.int .i64 ((rd_T50 l0 x75_2).f3.f0))) (fun _ hk => hk.2) (.int .i64 ((rd_T50 l0 x75_2).f3.f1))) (fun _ hk => hk.1)⟩
                have n1_ : Aside0 (Kd.R (Kd.int .i64) 3 (((((w98.setCell ⟨gb257, 0, none⟩ (.int .i64 ((rd_T50 l0 x75_2).f0))).setCell ⟨gb257, 1, none⟩ (.int .i64 ((rd_T50 l0 x75_2).f1))).setCell ⟨gb257, 2, none⟩ (.int .i64 ((rd_T50 l0 x75_2).f2))).setCell ⟨gb257, 3, none⟩ (.int .i64 ((rd_T50 l0 x75_2).f3.f0))).setCell ⟨gb257, 4, none⟩ (.int .i64 ((rd_T50 l0 x75_2).f3.f1))) w.heap.size (fun k_ => some k_ ≠ (v238 : Value).ownBlock) v254 t252) := ⟨by kr_; exact Kd.R_mono (Kd.R_far (p := ⟨gb257, 4, none⟩) (Kd.R_far (p := ⟨gb257, 3, none⟩) (Kd.R_far (p := ⟨gb257, 2, none⟩) (Kd.R_far (p := ⟨gb257, 1, none⟩) (Kd.R_far (p := ⟨gb257, 0, none⟩) (Kd.R_types HO_16.out BK257.out (by decide)) (fun _ hk => hk.2) (.int .i64 ((rd_T50 l0 x75_2).f0))) (fun _ hk => hk.2) (.int .i64 ((rd_T50 l0 x75_2).f1))) (fun _ hk => hk.2) (.int .i64 ((rd_T50 l0 x75_2).f2))) (fun _ hk => hk.2) (.int .i64 ((rd_T50 l0 x75_2).f3.f0))) (fun _ hk => hk.2) (.int .i64 ((rd_T50 l0 x75_2).f3.f1))) (fun _ hk => hk.1)⟩
                have n2_ : Aside0 ((((((w98.setCell ⟨gb257, 0, none⟩ (.int .i64 ((rd_T50 l0 x75_2).f0))).setCell ⟨gb257, 1, none⟩ (.int .i64 ((rd_T50 l0 x75_2).f1))).setCell ⟨gb257, 2, none⟩ (.int .i64 ((rd_T50 l0 x75_2).f2))).setCell ⟨gb257, 3, none⟩ (.int .i64 ((rd_T50 l0 x75_2).f3.f0))).setCell ⟨gb257, 4, none⟩ (.int .i64 ((rd_T50 l0 x75_2).f3.f1))).heap[gb233]? = some (.cells #[.int .i64 a5_0, .int .i64 a5_1, .int .i64 a5_2, .int .i64 a5_3, .int .i64 a5_4] 42 (0, 0))) := ⟨by bk_; refine blk_far ?_ NB233_257.out _; bk_; refine blk_far ?_ NB233_257.out _; bk_; refine blk_far ?_ NB233_257.out _; bk_; refine blk_far ?_ NB233_257.out _; bk_; refine blk_far ?_ NB233_257.out _; bk_; exact BK233.out⟩
                have n3_ : Aside0 ((((((w98.setCell ⟨gb257, 0, none⟩ (.int .i64 ((rd_T50 l0 x75_2).f0))).setCell ⟨gb257, 1, none⟩ (.int .i64 ((rd_T50 l0 x75_2).f1))).setCell ⟨gb257, 2, none⟩ (.int .i64 ((rd_T50 l0 x75_2).f2))).setCell ⟨gb257, 3, none⟩ (.int .i64 ((rd_T50 l0 x75_2).f3.f0))).setCell ⟨gb257, 4, none⟩ (.int .i64 ((rd_T50 l0 x75_2).f3.f1))).heap[gb257]? = some (.cells #[.int .i64 ((rd_T50 l0 x75_2).f0), .int .i64 ((rd_T50 l0 x75_2).f1), .int .i64 ((rd_T50 l0 x75_2).f2), .int .i64 ((rd_T50 l0 x75_2).f3.f0), .int .i64 ((rd_T50 l0 x75_2).f3.f1)] 50 (0, 0))) := ⟨by bk_; refine blk_put (cs := #[.int .i64 ((rd_T50 l0 x75_2).f0), .int .i64 ((rd_T50 l0 x75_2).f1), .int .i64 ((rd_T50 l0 x75_2).f2), .int .i64 ((rd_T50 l0 x75_2).f3.f0), .int .i64 0]) ?_ 4 _ rfl; bk_; refine blk_put (cs := #[.int .i64 ((rd_T50 l0 x75_2).f0), .int .i64 ((rd_T50 l0 x75_2).f1), .int .i64 ((rd_T50 l0 x75_2).f2), .int .i64 0, .int .i64 0]) ?_ 3 _ rfl; bk_; refine blk_put (cs := #[.int .i64 ((rd_T50 l0 x75_2).f0), .int .i64 ((rd_T50 l0 x75_2).f1), .int .i64 0, .int .i64 0, .int .i64 0]) ?_ 2 _ rfl; bk_; refine blk_put (cs := #[.int .i64 ((rd_T50 l0 x75_2).f0), .int .i64 0, .int .i64 0, .int .i64 0, .int .i64 0]) ?_ 1 _ rfl; bk_; refine blk_put (cs := #[.int .i64 0, .int .i64 0, .int .i64 0, .int .i64 0, .int .i64 0]) ?_ 0 _ rfl; bk_; exact BK257.out⟩
                have n4_ : Aside0 (Below w.heap.size w (((((w98.setCell ⟨gb257, 0, none⟩ (.int .i64 ((rd_T50 l0 x75_2).f0))).setCell ⟨gb257, 1, none⟩ (.int .i64 ((rd_T50 l0 x75_2).f1))).setCell ⟨gb257, 2, none⟩ (.int .i64 ((rd_T50 l0 x75_2).f2))).setCell ⟨gb257, 3, none⟩ (.int .i64 ((rd_T50 l0 x75_2).f3.f0))).setCell ⟨gb257, 4, none⟩ (.int .i64 ((rd_T50 l0 x75_2).f3.f1)))) := ⟨by repeat (first | (with_reducible first | exact HB.out | apply below_alloc | apply pw_below_drewN | apply below_drew1 | refine below_set ?_ GE233.out | refine below_set ?_ GE257.out) | exact HB.out)⟩
                (try clear HO_14)
                (try clear HO_16)
                (try clear BK233)
                (try clear BK257)
                (try clear HB)
                generalize (((((w98.setCell ⟨gb257, 0, none⟩ (.int .i64 ((rd_T50 l0 x75_2).f0))).setCell ⟨gb257, 1, none⟩ (.int .i64 ((rd_T50 l0 x75_2).f1))).setCell ⟨gb257, 2, none⟩ (.int .i64 ((rd_T50 l0 x75_2).f2))).setCell ⟨gb257, 3, none⟩ (.int .i64 ((rd_T50 l0 x75_2).f3.f0))).setCell ⟨gb257, 4, none⟩ (.int .i64 ((rd_T50 l0 x75_2).f3.f1))) = w101 at n0_ n1_ n2_ n3_ n4_ ⊢
                have HO_14 := n0_
                have HO_16 := n1_
                have BK233 := n2_
                have BK257 := n3_
                have HB := n4_
                clear n0_ n1_ n2_ n3_ n4_
                have n0_ := Aside0.mk (Kd.R_drew HO_14.out)
                have n1_ := Aside0.mk (Kd.R_drew HO_16.out)
                have n2_ := Aside0.mk (blk_drew BK233.out)
                have n3_ := Aside0.mk (blk_drew BK257.out)
                have n4_ := Aside0.mk (below_drew1 HB.out)
                clear HO_14
                clear HO_16
                clear BK233
                clear BK257
                clear HB
                have HO_14 := n0_
                have HO_16 := n1_
                have BK233 := n2_
                have BK257 := n3_
                have HB := n4_
                clear n0_ n1_ n2_ n3_ n4_
                refine start_ (n := 16) (S := fun w' => w'.cell? ⟨gb257, 0, none⟩ = some (.int .i64 ((rd_T50 l0 x75_2).f0)) ∧ w'.cell? ⟨gb257, 1, none⟩ = some (.int .i64 ((rd_T50 l0 x75_2).f1)) ∧ w'.cell? ⟨gb257, 2, none⟩ = some (.int .i64 ((rd_T50 l0 x75_2).f2)) ∧ w'.cell? ⟨gb257, 3, none⟩ = some (.int .i64 ((rd_T50 l0 x75_2).f3.f0)) ∧ w'.cell? ⟨gb257, 4, none⟩ = some (.int .i64 ((rd_T50 l0 x75_2).f3.f1))) (ds := []) #[false, false, false, false, false, false, false, false, false, false, false, false, false, false, false, false] (by kernel_rfl) rfl rfl ⟨(blk_cell BK257.out 0).trans rfl, (blk_cell BK257.out 1).trans rfl, (blk_cell BK257.out 2).trans rfl, (blk_cell BK257.out 3).trans rfl, (blk_cell BK257.out 4).trans rfl⟩ (fun hHeld => ?_); refine with_tabW slotmeshlaw17_MediumJams.tab11 slotmeshlaw17_MediumJams.bits11 (fun HT_ HW_ => ?_)
                generalize w101.drew = w102 at HO_14 HO_16 BK233 BK257 HB hHeld ⊢
                pz0_ 0 80 #[true, false, false, false, false, false, false, false, false, false, false, false, false, false, false, false]
                rotate_left
                ·
                 simp only [Act.put, List.setIfInBounds_toArray, List.set_cons_zero, List.set_cons_succ, i64_w, i32_w]
                 rfl
                refine take_ (i := 1) (N := some 81) (v := ?_) (a' := ?_) #[true, true, false, false, false, false, false, false, false, false, false, false, false, false, false, false] rfl rfl (take_ofW HT_.out HW_.out (by kernel_rfl)) (fun _ _ _ h => h) (Or.inl ⟨by rfl, ?_⟩) hHeld ?_ ?_
                rotate_left
                ·
                 rintro w' ⟨s0, s1, s2, s3, s4⟩
                 go_simp
                 with_reducible rfl
                rotate_left
                ·
                 simp only [Act.put, List.setIfInBounds_toArray, List.set_cons_zero, List.set_cons_succ, i64_w, i32_w]
                 rfl
                pz0_ 2 82 #[true, true, true, false, false, false, false, false, false, false, false, false, false, false, false, false]
                rotate_left
                ·
                 simp only [Act.put, List.setIfInBounds_toArray, List.set_cons_zero, List.set_cons_succ, i64_w, i32_w]
                 rfl
                pz0_ 3 83 #[true, true, true, true, false, false, false, false, false, false, false, false, false, false, false, false]
                rotate_left
                ·
                 simp only [Act.put, List.setIfInBounds_toArray, List.set_cons_zero, List.set_cons_succ, i64_w, i32_w]
                 rfl
                pz1_ 4 84 #[true, true, true, true, true, false, false, false, false, false, false, false, false, false, false, false]
                pz1_ 5 85 #[true, true, true, true, true, true, false, false, false, false, false, false, false, false, false, false]
                pz1_ 6 86 #[true, true, true, true, true, true, true, false, false, false, false, false, false, false, false, false]
                pz1_ 7 87 #[true, true, true, true, true, true, true, true, false, false, false, false, false, false, false, false]
                pz1_ 8 88 #[true, true, true, true, true, true, true, true, true, false, false, false, false, false, false, false]
                pz1_ 9 89 #[true, true, true, true, true, true, true, true, true, true, false, false, false, false, false, false]
                pz1_ 10 90 #[true, true, true, true, true, true, true, true, true, true, true, false, false, false, false, false]
                pz1_ 11 91 #[true, true, true, true, true, true, true, true, true, true, true, true, false, false, false, false]
                pz1_ 12 92 #[true, true, true, true, true, true, true, true, true, true, true, true, true, false, false, false]
                pz1_ 13 93 #[true, true, true, true, true, true, true, true, true, true, true, true, true, true, false, false]
                pz0_ 14 94 #[true, true, true, true, true, true, true, true, true, true, true, true, true, true, true, false]
                rotate_left
                ·
                 simp only [Act.put, List.setIfInBounds_toArray, List.set_cons_zero, List.set_cons_succ, i64_w, i32_w]
                 rfl
                pz0_ 15 20 #[true, true, true, true, true, true, true, true, true, true, true, true, true, true, true, true]
                rotate_left
                ·
                 simp only [Act.put, List.setIfInBounds_toArray, List.set_cons_zero, List.set_cons_succ, i64_w, i32_w]
                 rfl
                refine done_ (done_of HT_.out (by kernel_rfl)) ?_
                try go_wp2
                have n0_ := Aside0.mk (Kd.R_drew HO_14.out)
                have n1_ := Aside0.mk (Kd.R_drew HO_16.out)
                have n2_ := Aside0.mk (blk_drew BK233.out)
                have n3_ := Aside0.mk (blk_drew BK257.out)
                have n4_ := Aside0.mk (below_drew1 HB.out)
                clear HO_14
                clear HO_16
                clear BK233
                clear BK257
                clear HB
                have HO_14 := n0_
                have HO_16 := n1_
                have BK233 := n2_
                have BK257 := n3_
                have HB := n4_
                clear n0_ n1_ n2_ n3_ n4_
                obtain ⟨Ao104, co104, eo104⟩ := Kd.R_slice HO_14.out
                (first | subst eo104 | (injection eo104 with f1_ f2_ f3_; have f4_ := f1_.symm; have f5_ := f3_.symm; clear f1_ f2_ f3_; subst f4_; subst f5_))
                have p266 : 0 ≤ (x75_2 : Int) := of_decide_eq_true (by first | (with_reducible assumption) | assumption)
                have q266 : x75_2 < (t236.length : Int) := of_decide_eq_true (by first | (with_reducible assumption) | assumption)
                obtain ⟨ad266, e266, hx266_0⟩ := Kd.at_int (Kd.R_reads' HO_14.out).2.2 x75_2 p266 q266
                cases e266
                replace p266 := eq_true p266
                replace q266 := eq_true q266
                obtain ⟨Ao105, co105, eo105⟩ := Kd.R_slice HO_16.out
                (first | subst eo105 | (injection eo105 with f1_ f2_ f3_; have f4_ := f1_.symm; have f5_ := f3_.symm; clear f1_ f2_ f3_; subst f4_; subst f5_))
                have p267 : 0 ≤ (x75_2 : Int) := of_decide_eq_true (by first | (with_reducible assumption) | assumption)
                have q267 : x75_2 < (t252.length : Int) := of_decide_eq_true (by first | (with_reducible assumption) | assumption)
                obtain ⟨ad267, e267, hx267_0⟩ := Kd.at_int (Kd.R_reads' HO_16.out).2.2 x75_2 p267 q267
                cases e267
                replace p267 := eq_true p267
                replace q267 := eq_true q267
                refine start_ (n := 23) (S := fun w' => w'.cell? (ad266.add (x75_2).toNat) = some (.int .i64 (rd t236 x75_2)) ∧ w'.cell? (ad267.add (x75_2).toNat) = some (.int .i64 (rd t252 x75_2))) (ds := []) #[false, false, false, false, false, false, false, false, false, false, false, false, false, false, false, false, false, false, false, false, false, false, false] (by kernel_rfl) rfl rfl ⟨hx266_0, hx267_0⟩ (fun hHeld => ?_); refine with_tabW slotmeshlaw17_MediumJams.tab12 slotmeshlaw17_MediumJams.bits12 (fun HT_ HW_ => ?_)
                generalize w102.drew = w103 at HO_14 HO_16 BK233 BK257 HB hx266_0 hx267_0 hHeld ⊢
                pz0_ 0 95 #[true, false, false, false, false, false, false, false, false, false, false, false, false, false, false, false, false, false, false, false, false, false, false]
                rotate_left
                ·
                 simp only [Act.put, List.setIfInBounds_toArray, List.set_cons_zero, List.set_cons_succ, i64_w, i32_w]
                 rfl
                pz0_ 1 96 #[true, true, false, false, false, false, false, false, false, false, false, false, false, false, false, false, false, false, false, false, false, false, false]
                rotate_left
                ·
                 simp only [Act.put, List.setIfInBounds_toArray, List.set_cons_zero, List.set_cons_succ, i64_w, i32_w]
                 rfl
                pz1_ 2 97 #[true, true, true, false, false, false, false, false, false, false, false, false, false, false, false, false, false, false, false, false, false, false, false]
                pz1_ 3 98 #[true, true, true, true, false, false, false, false, false, false, false, false, false, false, false, false, false, false, false, false, false, false, false]
                pz1_ 4 99 #[true, true, true, true, true, false, false, false, false, false, false, false, false, false, false, false, false, false, false, false, false, false, false]
                pz1_ 5 100 #[true, true, true, true, true, true, false, false, false, false, false, false, false, false, false, false, false, false, false, false, false, false, false]
                pz1_ 6 101 #[true, true, true, true, true, true, true, false, false, false, false, false, false, false, false, false, false, false, false, false, false, false, false]
                pz0_ 7 102 #[true, true, true, true, true, true, true, true, false, false, false, false, false, false, false, false, false, false, false, false, false, false, false]
                rotate_left
                ·
                 simp only [Act.put, List.setIfInBounds_toArray, List.set_cons_zero, List.set_cons_succ, i64_w, i32_w]
                 rfl
                pz0_ 8 103 #[true, true, true, true, true, true, true, true, true, false, false, false, false, false, false, false, false, false, false, false, false, false, false]
                rotate_left
                ·
                 simp only [Act.put, List.setIfInBounds_toArray, List.set_cons_zero, List.set_cons_succ, i64_w, i32_w]
                 rfl
                pz0_ 9 104 #[true, true, true, true, true, true, true, true, true, true, false, false, false, false, false, false, false, false, false, false, false, false, false]
                rotate_left
                ·
                 simp only [Act.put, List.setIfInBounds_toArray, List.set_cons_zero, List.set_cons_succ, i64_w, i32_w]
                 rfl
                pz0_ 10 105 #[true, true, true, true, true, true, true, true, true, true, true, false, false, false, false, false, false, false, false, false, false, false, false]
                rotate_left
                ·
                 simp only [Act.put, List.setIfInBounds_toArray, List.set_cons_zero, List.set_cons_succ, i64_w, i32_w]
                 rfl
                pz0_ 11 106 #[true, true, true, true, true, true, true, true, true, true, true, true, false, false, false, false, false, false, false, false, false, false, false]
                rotate_left
                ·
                 simp only [Act.put, List.setIfInBounds_toArray, List.set_cons_zero, List.set_cons_succ, i64_w, i32_w]
                 rfl
                pz0_ 12 107 #[true, true, true, true, true, true, true, true, true, true, true, true, true, false, false, false, false, false, false, false, false, false, false]
                rotate_left
                ·
                 simp only [Act.put, List.setIfInBounds_toArray, List.set_cons_zero, List.set_cons_succ, i64_w, i32_w]
                 rfl
                pz0_ 13 108 #[true, true, true, true, true, true, true, true, true, true, true, true, true, true, false, false, false, false, false, false, false, false, false]
                rotate_left
                ·
                 simp only [Act.put, List.setIfInBounds_toArray, List.set_cons_zero, List.set_cons_succ, i64_w, i32_w]
                 rfl
                pz0_ 14 109 #[true, true, true, true, true, true, true, true, true, true, true, true, true, true, true, false, false, false, false, false, false, false, false]
                rotate_left
                ·
                 simp only [Act.put, List.setIfInBounds_toArray, List.set_cons_zero, List.set_cons_succ, i64_w, i32_w]
                 rfl
                pz0_ 16 111 #[true, true, true, true, true, true, true, true, true, true, true, true, true, true, true, false, true, false, false, false, false, false, false]
                rotate_left
                ·
                 simp only [Act.put, List.setIfInBounds_toArray, List.set_cons_zero, List.set_cons_succ, i64_w, i32_w]
                 rfl
                pz0_ 17 112 #[true, true, true, true, true, true, true, true, true, true, true, true, true, true, true, false, true, true, false, false, false, false, false]
                rotate_left
                ·
                 simp only [Act.put, List.setIfInBounds_toArray, List.set_cons_zero, List.set_cons_succ, i64_w, i32_w]
                 rfl
                pz0_ 18 113 #[true, true, true, true, true, true, true, true, true, true, true, true, true, true, true, false, true, true, true, false, false, false, false]
                rotate_left
                ·
                 simp only [Act.put, List.setIfInBounds_toArray, List.set_cons_zero, List.set_cons_succ, i64_w, i32_w]
                 rfl
                pz3_ 15 110 #[true, true, true, true, true, true, true, true, true, true, true, true, true, true, true, true, true, true, true, false, false, false, false]
                rotate_left
                ·
                 simp only [Act.put, List.setIfInBounds_toArray, List.set_cons_zero, List.set_cons_succ, i64_w, i32_w]
                 rfl
                pz3_ 19 114 #[true, true, true, true, true, true, true, true, true, true, true, true, true, true, true, true, true, true, true, true, false, false, false]
                rotate_left
                ·
                 simp only [Act.put, List.setIfInBounds_toArray, List.set_cons_zero, List.set_cons_succ, i64_w, i32_w]
                 rfl
                pz0_ 20 115 #[true, true, true, true, true, true, true, true, true, true, true, true, true, true, true, true, true, true, true, true, true, false, false]
                rotate_left
                ·
                 simp only [Act.put, List.setIfInBounds_toArray, List.set_cons_zero, List.set_cons_succ, i64_w, i32_w]
                 rfl
                pz0_ 21 116 #[true, true, true, true, true, true, true, true, true, true, true, true, true, true, true, true, true, true, true, true, true, true, false]
                rotate_left
                ·
                 simp only [Act.put, List.setIfInBounds_toArray, List.set_cons_zero, List.set_cons_succ, i64_w, i32_w]
                 rfl
                pz0_ 22 117 #[true, true, true, true, true, true, true, true, true, true, true, true, true, true, true, true, true, true, true, true, true, true, true]
                rotate_left
                ·
                 simp only [Act.put, List.setIfInBounds_toArray, List.set_cons_zero, List.set_cons_succ, i64_w, i32_w]
                 rfl
                refine done_ (done_of HT_.out (by kernel_rfl)) ?_
                try go_wp2
                go_roundg k2
                case measure => have := HJ13.out; have := HK2.out; omega
                case rel => exact ⟨(wrap64 (x75_2 + 1)), (by first | rfl | (simp; done) | (simp [*]; done)), H', ⟨by have := HJ13.out; have := HK2.out; omega⟩, ⟨by kr_; exact HO_14.out⟩, ⟨by kr_; exact HO_16.out⟩, ⟨by bk_; exact BK233.out⟩, ⟨by repeat (first | (with_reducible first | exact HB.out | apply below_alloc | apply pw_below_drewN | apply below_drew1 | refine below_set ?_ GE233.out | refine below_set ?_ GE257.out) | exact HB.out)⟩⟩
               ·
                rw [if_neg c97] at H
                have c97b0 : ((rd t236 x75_2) == (rd t252 x75_2)) = false := beq_eq_false_iff_ne.mpr c97
                have c97b1 : ((rd t236 x75_2) != (rd t252 x75_2)) = true := bne_iff_ne.mpr c97
                obtain rfl := Option.some.inj H
                have p256 : 0 ≤ (x75_2 : Int) := of_decide_eq_true (by first | (with_reducible assumption) | assumption)
                have q256 : x75_2 < (l0.length : Int) := of_decide_eq_true (by first | (with_reducible assumption) | assumption)
                obtain ⟨ad256, e256, hx256_0, hx256_1, hx256_2, hx256_3, hx256_4⟩ := at_T50 HR0.out x75_2 p256 q256
                cases e256
                replace hx256_0 := (HB.out.cell (World.block_lt_of_cell? w _ hx256_0)).trans hx256_0
                replace hx256_1 := (HB.out.cell (World.block_lt_of_cell? w _ hx256_1)).trans hx256_1
                replace hx256_2 := (HB.out.cell (World.block_lt_of_cell? w _ hx256_2)).trans hx256_2
                replace hx256_3 := (HB.out.cell (World.block_lt_of_cell? w _ hx256_3)).trans hx256_3
                replace hx256_4 := (HB.out.cell (World.block_lt_of_cell? w _ hx256_4)).trans hx256_4
                replace p256 := eq_true p256
                replace q256 := eq_true q256
                try go_wp2_with (first | ((with_reducible refine gate_dst (N := 19) rfl ?_); (try (refine gate_guard (by rfl) ?_; dsimp only)); refine box_event ?hg (N := 19) ?hd (cs := #[.int .i64 0, .int .i64 0, .int .i64 0, .int .i64 0, .int .i64 0]) (t := 50) ?hr ?_; (case hd => rfl); (case hg => rfl); (case hr => first | (go_simp; done) | (go_simp; rfl)); intro gb257 hg w106 hbox hb; have n0_ := Aside0.mk (Kd.R_below (by kr_; exact HO_14.out) hb); have n1_ := Aside0.mk (Kd.R_below (by kr_; exact HO_16.out) hb); have n2_ := Aside0.mk (blk_below (g := gb233) (o := .cells #[.int .i64 a5_0, .int .i64 a5_1, .int .i64 a5_2, .int .i64 a5_3, .int .i64 a5_4] 42 (0, 0)) (by bk_; exact BK233.out) hb); have n3_ := Aside0.mk (below_step (by hb0_) hb); have n4_ := Aside0.mk (hbox); have n5_ := Aside0.mk ((by rw [hg]; exact (below_size (by hb0_)) : w.heap.size ≤ gb257)); have n6_ := Aside0.mk ((by rw [hg]; exact (below_size (by hb0_)) : w.heap.size ≤ gb257)); have n7_ := Aside0.mk ((by rw [hg]; exact Nat.ne_of_lt (blk_lt (g := gb233) (o := .cells #[.int .i64 a5_0, .int .i64 a5_1, .int .i64 a5_2, .int .i64 a5_3, .int .i64 a5_4] 42 (0, 0)) (by bk_; exact BK233.out)) : gb233 ≠ gb257)); have n8_ := Aside0.mk ((by rw [hg]; exact Nat.ne_of_gt (blk_lt (g := gb233) (o := .cells #[.int .i64 a5_0, .int .i64 a5_1, .int .i64 a5_2, .int .i64 a5_3, .int .i64 a5_4] 42 (0, 0)) (by bk_; exact BK233.out)) : gb257 ≠ gb233)); clear HO_14; clear HO_16; clear BK233; clear HB; have HO_14 := n0_; have HO_16 := n1_; have BK233 := n2_; have HB := n3_; have BK257 := n4_; have GW257 := n5_; have GE257 := n6_; have NB233_257 := n7_; have NB257_233 := n8_; clear n0_ n1_ n2_ n3_ n4_ n5_ n6_ n7_ n8_; clear hb hbox hg; have hnb107 := NB257_233.out; have hnc107 := NB233_257.out; have hcz108_0 : w106.cell? ⟨gb257, 0, none⟩ = some (.int .i64 0) := (blk_cell BK257.out 0).trans rfl; have hcz108_1 : w106.cell? ⟨gb257, 1, none⟩ = some (.int .i64 0) := (blk_cell BK257.out 1).trans rfl; have hcz108_2 : w106.cell? ⟨gb257, 2, none⟩ = some (.int .i64 0) := (blk_cell BK257.out 2).trans rfl; have hcz108_3 : w106.cell? ⟨gb257, 3, none⟩ = some (.int .i64 0) := (blk_cell BK257.out 3).trans rfl; have hcz108_4 : w106.cell? ⟨gb257, 4, none⟩ = some (.int .i64 0) := (blk_cell BK257.out 4).trans rfl; have hfz108_0 := blk_frozen BK257.out 0; have hfz108_1 := blk_frozen BK257.out 1; have hfz108_2 := blk_frozen BK257.out 2; have hfz108_3 := blk_frozen BK257.out 3; have hfz108_4 := blk_frozen BK257.out 4))
                have n0_ : Aside0 (Kd.R (Kd.int .i64) 3 (((((w106.setCell ⟨gb257, 0, none⟩ (.int .i64 ((rd_T50 l0 x75_2).f0))).setCell ⟨gb257, 1, none⟩ (.int .i64 ((rd_T50 l0 x75_2).f1))).setCell ⟨gb257, 2, none⟩ (.int .i64 ((rd_T50 l0 x75_2).f2))).setCell ⟨gb257, 3, none⟩ (.int .i64 ((rd_T50 l0 x75_2).f3.f0))).setCell ⟨gb257, 4, none⟩ (.int .i64 ((rd_T50 l0 x75_2).f3.f1))) w.heap.size (fun k_ => some k_ ≠ (v254 : Value).ownBlock) v238 t236) := ⟨by kr_; exact Kd.R_mono (Kd.R_far (p := ⟨gb257, 4, none⟩) (Kd.R_far (p := ⟨gb257, 3, none⟩) (Kd.R_far (p := ⟨gb257, 2, none⟩) (Kd.R_far (p := ⟨gb257, 1, none⟩) (Kd.R_far (p := ⟨gb257, 0, none⟩) (Kd.R_types HO_14.out BK257.out (by decide)) (fun _ hk => hk.2) (.int .i64 ((rd_T50 l0 x75_2).f0))) (fun _ hk => hk.2) (.int .i64 ((rd_T50 l0 x75_2).f1))) (fun _ hk => hk.2) (.int .i64 ((rd_T50 l0 x75_2).f2))) (fun _ hk => hk.2) (.int .i64 ((rd_T50 l0 x75_2).f3.f0))) (fun _ hk => hk.2) (.int .i64 ((rd_T50 l0 x75_2).f3.f1))) (fun _ hk => hk.1)⟩
                have n1_ : Aside0 (Kd.R (Kd.int .i64) 3 (((((w106.setCell ⟨gb257, 0, none⟩ (.int .i64 ((rd_T50 l0 x75_2).f0))).setCell ⟨gb257, 1, none⟩ (.int .i64 ((rd_T50 l0 x75_2).f1))).setCell ⟨gb257, 2, none⟩ (.int .i64 ((rd_T50 l0 x75_2).f2))).setCell ⟨gb257, 3, none⟩ (.int .i64 ((rd_T50 l0 x75_2).f3.f0))).setCell ⟨gb257, 4, none⟩ (.int .i64 ((rd_T50 l0 x75_2).f3.f1))) w.heap.size (fun k_ => some k_ ≠ (v238 : Value).ownBlock) v254 t252) := ⟨by kr_; exact Kd.R_mono (Kd.R_far (p := ⟨gb257, 4, none⟩) (Kd.R_far (p := ⟨gb257, 3, none⟩) (Kd.R_far (p := ⟨gb257, 2, none⟩) (Kd.R_far (p := ⟨gb257, 1, none⟩) (Kd.R_far (p := ⟨gb257, 0, none⟩) (Kd.R_types HO_16.out BK257.out (by decide)) (fun _ hk => hk.2) (.int .i64 ((rd_T50 l0 x75_2).f0))) (fun _ hk => hk.2) (.int .i64 ((rd_T50 l0 x75_2).f1))) (fun _ hk => hk.2) (.int .i64 ((rd_T50 l0 x75_2).f2))) (fun _ hk => hk.2) (.int .i64 ((rd_T50 l0 x75_2).f3.f0))) (fun _ hk => hk.2) (.int .i64 ((rd_T50 l0 x75_2).f3.f1))) (fun _ hk => hk.1)⟩
                have n2_ : Aside0 ((((((w106.setCell ⟨gb257, 0, none⟩ (.int .i64 ((rd_T50 l0 x75_2).f0))).setCell ⟨gb257, 1, none⟩ (.int .i64 ((rd_T50 l0 x75_2).f1))).setCell ⟨gb257, 2, none⟩ (.int .i64 ((rd_T50 l0 x75_2).f2))).setCell ⟨gb257, 3, none⟩ (.int .i64 ((rd_T50 l0 x75_2).f3.f0))).setCell ⟨gb257, 4, none⟩ (.int .i64 ((rd_T50 l0 x75_2).f3.f1))).heap[gb233]? = some (.cells #[.int .i64 a5_0, .int .i64 a5_1, .int .i64 a5_2, .int .i64 a5_3, .int .i64 a5_4] 42 (0, 0))) := ⟨by bk_; refine blk_far ?_ NB233_257.out _; bk_; refine blk_far ?_ NB233_257.out _; bk_; refine blk_far ?_ NB233_257.out _; bk_; refine blk_far ?_ NB233_257.out _; bk_; refine blk_far ?_ NB233_257.out _; bk_; exact BK233.out⟩
                have n3_ : Aside0 ((((((w106.setCell ⟨gb257, 0, none⟩ (.int .i64 ((rd_T50 l0 x75_2).f0))).setCell ⟨gb257, 1, none⟩ (.int .i64 ((rd_T50 l0 x75_2).f1))).setCell ⟨gb257, 2, none⟩ (.int .i64 ((rd_T50 l0 x75_2).f2))).setCell ⟨gb257, 3, none⟩ (.int .i64 ((rd_T50 l0 x75_2).f3.f0))).setCell ⟨gb257, 4, none⟩ (.int .i64 ((rd_T50 l0 x75_2).f3.f1))).heap[gb257]? = some (.cells #[.int .i64 ((rd_T50 l0 x75_2).f0), .int .i64 ((rd_T50 l0 x75_2).f1), .int .i64 ((rd_T50 l0 x75_2).f2), .int .i64 ((rd_T50 l0 x75_2).f3.f0), .int .i64 ((rd_T50 l0 x75_2).f3.f1)] 50 (0, 0))) := ⟨by bk_; refine blk_put (cs := #[.int .i64 ((rd_T50 l0 x75_2).f0), .int .i64 ((rd_T50 l0 x75_2).f1), .int .i64 ((rd_T50 l0 x75_2).f2), .int .i64 ((rd_T50 l0 x75_2).f3.f0), .int .i64 0]) ?_ 4 _ rfl; bk_; refine blk_put (cs := #[.int .i64 ((rd_T50 l0 x75_2).f0), .int .i64 ((rd_T50 l0 x75_2).f1), .int .i64 ((rd_T50 l0 x75_2).f2), .int .i64 0, .int .i64 0]) ?_ 3 _ rfl; bk_; refine blk_put (cs := #[.int .i64 ((rd_T50 l0 x75_2).f0), .int .i64 ((rd_T50 l0 x75_2).f1), .int .i64 0, .int .i64 0, .int .i64 0]) ?_ 2 _ rfl; bk_; refine blk_put (cs := #[.int .i64 ((rd_T50 l0 x75_2).f0), .int .i64 0, .int .i64 0, .int .i64 0, .int .i64 0]) ?_ 1 _ rfl; bk_; refine blk_put (cs := #[.int .i64 0, .int .i64 0, .int .i64 0, .int .i64 0, .int .i64 0]) ?_ 0 _ rfl; bk_; exact BK257.out⟩
                have n4_ : Aside0 (Below w.heap.size w (((((w106.setCell ⟨gb257, 0, none⟩ (.int .i64 ((rd_T50 l0 x75_2).f0))).setCell ⟨gb257, 1, none⟩ (.int .i64 ((rd_T50 l0 x75_2).f1))).setCell ⟨gb257, 2, none⟩ (.int .i64 ((rd_T50 l0 x75_2).f2))).setCell ⟨gb257, 3, none⟩ (.int .i64 ((rd_T50 l0 x75_2).f3.f0))).setCell ⟨gb257, 4, none⟩ (.int .i64 ((rd_T50 l0 x75_2).f3.f1)))) := ⟨by repeat (first | (with_reducible first | exact HB.out | apply below_alloc | apply pw_below_drewN | apply below_drew1 | refine below_set ?_ GE233.out | refine below_set ?_ GE257.out) | exact HB.out)⟩
                (try clear HO_14)
                (try clear HO_16)
                (try clear BK233)
                (try clear BK257)
                (try clear HB)
                generalize (((((w106.setCell ⟨gb257, 0, none⟩ (.int .i64 ((rd_T50 l0 x75_2).f0))).setCell ⟨gb257, 1, none⟩ (.int .i64 ((rd_T50 l0 x75_2).f1))).setCell ⟨gb257, 2, none⟩ (.int .i64 ((rd_T50 l0 x75_2).f2))).setCell ⟨gb257, 3, none⟩ (.int .i64 ((rd_T50 l0 x75_2).f3.f0))).setCell ⟨gb257, 4, none⟩ (.int .i64 ((rd_T50 l0 x75_2).f3.f1))) = w109 at n0_ n1_ n2_ n3_ n4_ ⊢
                have HO_14 := n0_
                have HO_16 := n1_
                have BK233 := n2_
                have BK257 := n3_
                have HB := n4_
                clear n0_ n1_ n2_ n3_ n4_
                have n0_ := Aside0.mk (Kd.R_drew HO_14.out)
                have n1_ := Aside0.mk (Kd.R_drew HO_16.out)
                have n2_ := Aside0.mk (blk_drew BK233.out)
                have n3_ := Aside0.mk (blk_drew BK257.out)
                have n4_ := Aside0.mk (below_drew1 HB.out)
                clear HO_14
                clear HO_16
                clear BK233
                clear BK257
                clear HB
                have HO_14 := n0_
                have HO_16 := n1_
                have BK233 := n2_
                have BK257 := n3_
                have HB := n4_
                clear n0_ n1_ n2_ n3_ n4_
                refine start_ (n := 16) (S := fun w' => w'.cell? ⟨gb257, 0, none⟩ = some (.int .i64 ((rd_T50 l0 x75_2).f0)) ∧ w'.cell? ⟨gb257, 1, none⟩ = some (.int .i64 ((rd_T50 l0 x75_2).f1)) ∧ w'.cell? ⟨gb257, 2, none⟩ = some (.int .i64 ((rd_T50 l0 x75_2).f2)) ∧ w'.cell? ⟨gb257, 3, none⟩ = some (.int .i64 ((rd_T50 l0 x75_2).f3.f0)) ∧ w'.cell? ⟨gb257, 4, none⟩ = some (.int .i64 ((rd_T50 l0 x75_2).f3.f1))) (ds := []) #[false, false, false, false, false, false, false, false, false, false, false, false, false, false, false, false] (by kernel_rfl) rfl rfl ⟨(blk_cell BK257.out 0).trans rfl, (blk_cell BK257.out 1).trans rfl, (blk_cell BK257.out 2).trans rfl, (blk_cell BK257.out 3).trans rfl, (blk_cell BK257.out 4).trans rfl⟩ (fun hHeld => ?_); refine with_tabW slotmeshlaw17_MediumJams.tab11 slotmeshlaw17_MediumJams.bits11 (fun HT_ HW_ => ?_)
                generalize w109.drew = w110 at HO_14 HO_16 BK233 BK257 HB hHeld ⊢
                pz0_ 0 80 #[true, false, false, false, false, false, false, false, false, false, false, false, false, false, false, false]
                rotate_left
                ·
                 simp only [Act.put, List.setIfInBounds_toArray, List.set_cons_zero, List.set_cons_succ, i64_w, i32_w]
                 rfl
                refine take_ (i := 1) (N := some 81) (v := ?_) (a' := ?_) #[true, true, false, false, false, false, false, false, false, false, false, false, false, false, false, false] rfl rfl (take_ofW HT_.out HW_.out (by kernel_rfl)) (fun _ _ _ h => h) (Or.inl ⟨by rfl, ?_⟩) hHeld ?_ ?_
                rotate_left
                ·
                 rintro w' ⟨s0, s1, s2, s3, s4⟩
                 go_simp
                 with_reducible rfl
                rotate_left
                ·
                 simp only [Act.put, List.setIfInBounds_toArray, List.set_cons_zero, List.set_cons_succ, i64_w, i32_w]
                 rfl
                pz0_ 2 82 #[true, true, true, false, false, false, false, false, false, false, false, false, false, false, false, false]
                rotate_left
                ·
                 simp only [Act.put, List.setIfInBounds_toArray, List.set_cons_zero, List.set_cons_succ, i64_w, i32_w]
                 rfl
                pz0_ 3 83 #[true, true, true, true, false, false, false, false, false, false, false, false, false, false, false, false]
                rotate_left
                ·
                 simp only [Act.put, List.setIfInBounds_toArray, List.set_cons_zero, List.set_cons_succ, i64_w, i32_w]
                 rfl
                pz1_ 4 84 #[true, true, true, true, true, false, false, false, false, false, false, false, false, false, false, false]
                pz1_ 5 85 #[true, true, true, true, true, true, false, false, false, false, false, false, false, false, false, false]
                pz1_ 6 86 #[true, true, true, true, true, true, true, false, false, false, false, false, false, false, false, false]
                pz1_ 7 87 #[true, true, true, true, true, true, true, true, false, false, false, false, false, false, false, false]
                pz1_ 8 88 #[true, true, true, true, true, true, true, true, true, false, false, false, false, false, false, false]
                pz1_ 9 89 #[true, true, true, true, true, true, true, true, true, true, false, false, false, false, false, false]
                pz1_ 10 90 #[true, true, true, true, true, true, true, true, true, true, true, false, false, false, false, false]
                pz1_ 11 91 #[true, true, true, true, true, true, true, true, true, true, true, true, false, false, false, false]
                pz1_ 12 92 #[true, true, true, true, true, true, true, true, true, true, true, true, true, false, false, false]
                pz1_ 13 93 #[true, true, true, true, true, true, true, true, true, true, true, true, true, true, false, false]
                pz0_ 14 94 #[true, true, true, true, true, true, true, true, true, true, true, true, true, true, true, false]
                rotate_left
                ·
                 simp only [Act.put, List.setIfInBounds_toArray, List.set_cons_zero, List.set_cons_succ, i64_w, i32_w]
                 rfl
                pz0_ 15 20 #[true, true, true, true, true, true, true, true, true, true, true, true, true, true, true, true]
                rotate_left
                ·
                 simp only [Act.put, List.setIfInBounds_toArray, List.set_cons_zero, List.set_cons_succ, i64_w, i32_w]
                 rfl
                refine done_ (done_of HT_.out (by kernel_rfl)) ?_
                try go_wp2
                have n0_ := Aside0.mk (Kd.R_drew HO_14.out)
                have n1_ := Aside0.mk (Kd.R_drew HO_16.out)
                have n2_ := Aside0.mk (blk_drew BK233.out)
                have n3_ := Aside0.mk (blk_drew BK257.out)
                have n4_ := Aside0.mk (below_drew1 HB.out)
                clear HO_14
                clear HO_16
                clear BK233
                clear BK257
                clear HB
                have HO_14 := n0_
                have HO_16 := n1_
                have BK233 := n2_
                have BK257 := n3_
                have HB := n4_
                clear n0_ n1_ n2_ n3_ n4_
                obtain ⟨Ao112, co112, eo112⟩ := Kd.R_slice HO_14.out
                (first | subst eo112 | (injection eo112 with f1_ f2_ f3_; have f4_ := f1_.symm; have f5_ := f3_.symm; clear f1_ f2_ f3_; subst f4_; subst f5_))
                have p266 : 0 ≤ (x75_2 : Int) := of_decide_eq_true (by first | (with_reducible assumption) | assumption)
                have q266 : x75_2 < (t236.length : Int) := of_decide_eq_true (by first | (with_reducible assumption) | assumption)
                obtain ⟨ad266, e266, hx266_0⟩ := Kd.at_int (Kd.R_reads' HO_14.out).2.2 x75_2 p266 q266
                cases e266
                replace p266 := eq_true p266
                replace q266 := eq_true q266
                obtain ⟨Ao113, co113, eo113⟩ := Kd.R_slice HO_16.out
                (first | subst eo113 | (injection eo113 with f1_ f2_ f3_; have f4_ := f1_.symm; have f5_ := f3_.symm; clear f1_ f2_ f3_; subst f4_; subst f5_))
                have p267 : 0 ≤ (x75_2 : Int) := of_decide_eq_true (by first | (with_reducible assumption) | assumption)
                have q267 : x75_2 < (t252.length : Int) := of_decide_eq_true (by first | (with_reducible assumption) | assumption)
                obtain ⟨ad267, e267, hx267_0⟩ := Kd.at_int (Kd.R_reads' HO_16.out).2.2 x75_2 p267 q267
                cases e267
                replace p267 := eq_true p267
                replace q267 := eq_true q267
                refine start_ (n := 23) (S := fun w' => w'.cell? (ad266.add (x75_2).toNat) = some (.int .i64 (rd t236 x75_2)) ∧ w'.cell? (ad267.add (x75_2).toNat) = some (.int .i64 (rd t252 x75_2))) (ds := []) #[false, false, false, false, false, false, false, false, false, false, false, false, false, false, false, false, false, false, false, false, false, false, false] (by kernel_rfl) rfl rfl ⟨hx266_0, hx267_0⟩ (fun hHeld => ?_); refine with_tabW slotmeshlaw17_MediumJams.tab12 slotmeshlaw17_MediumJams.bits12 (fun HT_ HW_ => ?_)
                generalize w110.drew = w111 at HO_14 HO_16 BK233 BK257 HB hx266_0 hx267_0 hHeld ⊢
                pz0_ 0 95 #[true, false, false, false, false, false, false, false, false, false, false, false, false, false, false, false, false, false, false, false, false, false, false]
                rotate_left
                ·
                 simp only [Act.put, List.setIfInBounds_toArray, List.set_cons_zero, List.set_cons_succ, i64_w, i32_w]
                 rfl
                pz0_ 1 96 #[true, true, false, false, false, false, false, false, false, false, false, false, false, false, false, false, false, false, false, false, false, false, false]
                rotate_left
                ·
                 simp only [Act.put, List.setIfInBounds_toArray, List.set_cons_zero, List.set_cons_succ, i64_w, i32_w]
                 rfl
                pz1_ 2 97 #[true, true, true, false, false, false, false, false, false, false, false, false, false, false, false, false, false, false, false, false, false, false, false]
                pz1_ 3 98 #[true, true, true, true, false, false, false, false, false, false, false, false, false, false, false, false, false, false, false, false, false, false, false]
                pz1_ 4 99 #[true, true, true, true, true, false, false, false, false, false, false, false, false, false, false, false, false, false, false, false, false, false, false]
                pz1_ 5 100 #[true, true, true, true, true, true, false, false, false, false, false, false, false, false, false, false, false, false, false, false, false, false, false]
                pz1_ 6 101 #[true, true, true, true, true, true, true, false, false, false, false, false, false, false, false, false, false, false, false, false, false, false, false]
                pz0_ 7 102 #[true, true, true, true, true, true, true, true, false, false, false, false, false, false, false, false, false, false, false, false, false, false, false]
                rotate_left
                ·
                 simp only [Act.put, List.setIfInBounds_toArray, List.set_cons_zero, List.set_cons_succ, i64_w, i32_w]
                 rfl
                pz0_ 8 103 #[true, true, true, true, true, true, true, true, true, false, false, false, false, false, false, false, false, false, false, false, false, false, false]
                rotate_left
                ·
                 simp only [Act.put, List.setIfInBounds_toArray, List.set_cons_zero, List.set_cons_succ, i64_w, i32_w]
                 rfl
                pz0_ 9 104 #[true, true, true, true, true, true, true, true, true, true, false, false, false, false, false, false, false, false, false, false, false, false, false]
                rotate_left
                ·
                 simp only [Act.put, List.setIfInBounds_toArray, List.set_cons_zero, List.set_cons_succ, i64_w, i32_w]
                 rfl
                pz0_ 10 105 #[true, true, true, true, true, true, true, true, true, true, true, false, false, false, false, false, false, false, false, false, false, false, false]
                rotate_left
                ·
                 simp only [Act.put, List.setIfInBounds_toArray, List.set_cons_zero, List.set_cons_succ, i64_w, i32_w]
                 rfl
                pz0_ 11 106 #[true, true, true, true, true, true, true, true, true, true, true, true, false, false, false, false, false, false, false, false, false, false, false]
                rotate_left
                ·
                 simp only [Act.put, List.setIfInBounds_toArray, List.set_cons_zero, List.set_cons_succ, i64_w, i32_w]
                 rfl
                pz0_ 12 107 #[true, true, true, true, true, true, true, true, true, true, true, true, true, false, false, false, false, false, false, false, false, false, false]
                rotate_left
                ·
                 simp only [Act.put, List.setIfInBounds_toArray, List.set_cons_zero, List.set_cons_succ, i64_w, i32_w]
                 rfl
                pz0_ 13 108 #[true, true, true, true, true, true, true, true, true, true, true, true, true, true, false, false, false, false, false, false, false, false, false]
                rotate_left
                ·
                 simp only [Act.put, List.setIfInBounds_toArray, List.set_cons_zero, List.set_cons_succ, i64_w, i32_w]
                 rfl
                pz0_ 14 109 #[true, true, true, true, true, true, true, true, true, true, true, true, true, true, true, false, false, false, false, false, false, false, false]
                rotate_left
                ·
                 simp only [Act.put, List.setIfInBounds_toArray, List.set_cons_zero, List.set_cons_succ, i64_w, i32_w]
                 rfl
                pz0_ 16 111 #[true, true, true, true, true, true, true, true, true, true, true, true, true, true, true, false, true, false, false, false, false, false, false]
                rotate_left
                ·
                 simp only [Act.put, List.setIfInBounds_toArray, List.set_cons_zero, List.set_cons_succ, i64_w, i32_w]
                 rfl
                pz0_ 17 112 #[true, true, true, true, true, true, true, true, true, true, true, true, true, true, true, false, true, true, false, false, false, false, false]
                rotate_left
                ·
                 simp only [Act.put, List.setIfInBounds_toArray, List.set_cons_zero, List.set_cons_succ, i64_w, i32_w]
                 rfl
                pz0_ 18 113 #[true, true, true, true, true, true, true, true, true, true, true, true, true, true, true, false, true, true, true, false, false, false, false]
                rotate_left
                ·
                 simp only [Act.put, List.setIfInBounds_toArray, List.set_cons_zero, List.set_cons_succ, i64_w, i32_w]
                 rfl
                pz3_ 15 110 #[true, true, true, true, true, true, true, true, true, true, true, true, true, true, true, true, true, true, true, false, false, false, false]
                rotate_left
                ·
                 simp only [Act.put, List.setIfInBounds_toArray, List.set_cons_zero, List.set_cons_succ, i64_w, i32_w]
                 rfl
                pz3_ 19 114 #[true, true, true, true, true, true, true, true, true, true, true, true, true, true, true, true, true, true, true, true, false, false, false]
                rotate_left
                ·
                 simp only [Act.put, List.setIfInBounds_toArray, List.set_cons_zero, List.set_cons_succ, i64_w, i32_w]
                 rfl
                pz0_ 20 115 #[true, true, true, true, true, true, true, true, true, true, true, true, true, true, true, true, true, true, true, true, true, false, false]
                rotate_left
                ·
                 simp only [Act.put, List.setIfInBounds_toArray, List.set_cons_zero, List.set_cons_succ, i64_w, i32_w]
                 rfl
                pz0_ 21 116 #[true, true, true, true, true, true, true, true, true, true, true, true, true, true, true, true, true, true, true, true, true, true, false]
                rotate_left
                ·
                 simp only [Act.put, List.setIfInBounds_toArray, List.set_cons_zero, List.set_cons_succ, i64_w, i32_w]
                 rfl
                pz0_ 22 117 #[true, true, true, true, true, true, true, true, true, true, true, true, true, true, true, true, true, true, true, true, true, true, true]
                rotate_left
                ·
                 simp only [Act.put, List.setIfInBounds_toArray, List.set_cons_zero, List.set_cons_succ, i64_w, i32_w]
                 rfl
                refine done_ (done_of HT_.out (by kernel_rfl)) ?_
                try go_wp2
                go_ret
                exact ⟨by first | rfl | (simp [errW_none, errW_some] <;> rfl) | (simp [*, errW_none, errW_some] <;> rfl), by repeat (first | (with_reducible first | exact HB.out | apply below_alloc | apply pw_below_drewN | apply below_drew1 | refine below_set ?_ GE233.out | refine below_set ?_ GE257.out) | exact HB.out)⟩
              ·
               rw [if_neg c96] at H
               exact absurd H (by simp)
             ·
              rw [if_neg c95] at H
              exact absurd H (by simp)
           ·
            rw [if_neg c39] at H
            exact absurd H (by simp)
          ·
           rw [if_neg c38] at H
           exact absurd H (by simp)
         ·
          rw [if_neg c37] at H
          have c37b0 : decide (x75_2 < (l0.length : Int)) = false := decide_eq_false c37
          clear c37
          obtain rfl := Option.some.inj H
          go_wp2
          go_ret
          exact ⟨by first | rfl | (simp [errW_none, errW_some] <;> rfl) | (simp [*, errW_none, errW_some] <;> rfl), by repeat (first | (with_reducible first | exact HB.out | apply below_alloc | apply pw_below_drewN | apply below_drew1 | refine below_set ?_ GE233.out) | exact HB.out)⟩
   ·
    rw [if_neg c12] at H
    exact absurd H (by simp)
  ·
   rw [if_neg c11] at H
   exact absurd H (by simp)
 ·
  replace c9 := Bool.eq_false_iff.mpr c9
  subst c9
  have H1 : (some t234) = some r := by rw [if_neg (show ¬ (false = true) by decide)] at H; exact H
  clear H
  have H := H1
  clear H1
  obtain rfl := Option.some.inj H
  go_enter Try.func6, Try.ntmps6
  go_wp2_with (first | ((with_reducible refine gate_dst (N := 11) rfl ?_); (try (refine gate_guard (by rfl) ?_; dsimp only)); refine box_event ?hg (N := 11) ?hd (cs := #[.int .i64 a5_0, .int .i64 a5_1, .int .i64 a5_2, .int .i64 a5_3, .int .i64 a5_4]) (t := 42) ?hr ?_; (case hd => rfl); (case hg => rfl); (case hr => first | (go_simp; done) | (go_simp; rfl)); intro gb233 hg w114 hbox hb; have n0_ := Aside0.mk (below_step (by repeat (first | (with_reducible first | exact HB.out | apply below_alloc | apply pw_below_drewN | apply below_drew1) | exact HB.out)) hb); have n1_ := Aside0.mk (hbox); have n2_ := Aside0.mk ((by rw [hg]; exact (below_size (by repeat (first | (with_reducible first | exact HB.out | apply below_alloc | apply pw_below_drewN | apply below_drew1) | exact HB.out))) : w.heap.size ≤ gb233)); have n3_ := Aside0.mk ((by rw [hg]; exact (below_size (by repeat (first | (with_reducible first | exact HB.out | apply below_alloc | apply pw_below_drewN | apply below_drew1) | exact HB.out))) : w.heap.size ≤ gb233)); clear HB; have HB := n0_; have BK233 := n1_; have GW233 := n2_; have GE233 := n3_; clear n0_ n1_ n2_ n3_; clear hb hbox hg) | ((with_reducible refine gate_callee (f := 27) rfl ?_); refine goesL_ (some 21) rfl rfl Try.func27 (by kernel_rfl) rfl #[] rfl (by (try simp only [List.map_toArray, List.map_cons, List.map_nil]); first | done | rfl | (simp only [List.length_drop, List.length_take]; rfl)) ?_; (with_reducible refine (slotmeshlaw17_head.calls  t234 _ A7.out).mono ?_); rintro e w115 ⟨rfl, hb⟩; refine ⟨_, rfl, ?_⟩; have n0_ := Aside0.mk (blk_below (g := gb233) (o := .cells #[.int .i64 a5_0, .int .i64 a5_1, .int .i64 a5_2, .int .i64 a5_3, .int .i64 a5_4] 42 (0, 0)) (by bk_; exact BK233.out) hb); have n1_ := Aside0.mk (below_step (by hb0_) hb); clear BK233; clear HB; have BK233 := n0_; have HB := n1_; clear n0_ n1_; (try clear hb); (try clear hb2); (try clear hk); (try clear hi)) | ((with_reducible refine gate_callee (f := 28) rfl ?_); refine goesL_ (some 27) rfl rfl Try.func28 (by kernel_rfl) rfl #[.slice A0 l0.length c0, .slice A1 l1.length c1, .int .i64 a2, .slice A3 l3.length c3, .int .i64 a4] rfl (by (try simp only [List.map_toArray, List.map_cons, List.map_nil]); first | done | rfl | (simp only [List.length_drop, List.length_take]; rfl)) ?_; (with_reducible refine (slotmeshlaw17_valid.calls k _ _ l0 _ _ l1 a2 _ _ l3 a4 false _ ?side1 ?side2 ?side3 ?side4 ?side5 ?side6 A8.out).mono ?_); (case side1 => repeat (first | exact (Kd.C_below HR0.out HB.out) | (with_reducible refine Kd.C_alloc ?_ _) | (with_reducible refine Kd.C_drewN ?_ _) | (with_reducible refine Kd.C_drew ?_))); (case side2 => exact HC0.out); (case side3 => repeat (first | exact (Kd.C_below HR1.out HB.out) | (with_reducible refine Kd.C_alloc ?_ _) | (with_reducible refine Kd.C_drewN ?_ _) | (with_reducible refine Kd.C_drew ?_))); (case side4 => exact HC1.out); (case side5 => repeat (first | exact (Kd.C_below HR3.out HB.out) | (with_reducible refine Kd.C_alloc ?_ _) | (with_reducible refine Kd.C_drewN ?_ _) | (with_reducible refine Kd.C_drew ?_))); (case side6 => exact HC3.out); rintro e w116 ⟨rfl, hb⟩; refine ⟨_, rfl, ?_⟩; have n0_ := Aside0.mk (blk_below (g := gb233) (o := .cells #[.int .i64 a5_0, .int .i64 a5_1, .int .i64 a5_2, .int .i64 a5_3, .int .i64 a5_4] 42 (0, 0)) (by bk_; exact BK233.out) hb); have n1_ := Aside0.mk (below_step (by hb0_) hb); clear BK233; clear HB; have BK233 := n0_; have HB := n1_; clear n0_ n1_; (try clear hb); (try clear hb2); (try clear hk); (try clear hi)))
  go_ret
  exact ⟨by first | rfl | (simp [errW_none, errW_some] <;> rfl) | (simp [*, errW_none, errW_some] <;> rfl), by repeat (first | (with_reducible first | exact HB.out | apply below_alloc | apply pw_below_drewN | apply below_drew1 | refine below_set ?_ GE233.out) | exact HB.out)⟩
end Go.Proofs.Ytcgbfkplhlngjaa.PA
