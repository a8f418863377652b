/- What slotmeshlaw17_MediumJams (function 6) computes, as a Lean function, and that its call comes to just that; made by a program of this session in the manner of the print. -/
import Derived.Test.YtcgbfkplhlngjaaT0
import Derived.Test.YtcgbfkplhlngjaaCat
import Derived.Test.YtcgbfkplhlngjaaF28
import Derived.Test.YtcgbfkplhlngjaaHd17
import Derived.Test.YtcgbfkplhlngjaaJam
namespace Go.Proofs.Ytcgbfkplhlngjaa.PA
open Go.RowKit Go.Proofs.YtcgbfkplhlngjaaW.PrintWords Go.Proofs.YtcgbfkplhlngjaaW.PrintLast Go.Proofs.YtcgbfkplhlngjaaW.PrintMore
attribute [local go_sem] max2_int min2_int max_two min_two max_three min_three max_four min_four   -- for this text's walks alone
set_option linter.unusedVariables false
set_option linter.unusedSimpArgs false

theorem bindE_F6 {α β : Type} {x : α} {f : α → Option β} {r : β} (H : (some x).bind f = some r) : ∃ y, y = x ∧ f y = some r := ⟨x, rfl, H⟩
/-! ### slotmeshlaw17_MediumJams: function 6 -/
mutual
def slotmeshlaw17_MediumJams.j0 : Nat → List (S50) → List (S25) → Int → Bool → List Int → List Int → Bool → Int → Int → Int → Int → Int → Option (Bool)
 | 0, _, _, _, _, _, _, _, _, _, _, _, _ => none
 | k + 1, x0, x1, x4, x13, x14, x16, x72, x136000, x136001, x136002, x136003, x136004 => if x72 = true then (some false) else (slotmeshlaw17_MediumJams.l0 k x1 x4 x13 x14 x16 x0 (x0.length : Int) 0 x136000 x136001 x136002 x136003 x136004)
def slotmeshlaw17_MediumJams.l0 : Nat → List (S25) → Int → Bool → List Int → List Int → List (S50) → Int → Int → Int → Int → Int → Int → Int → Option (Bool)
 | 0, _, _, _, _, _, _, _, _, _, _, _, _, _ => none
 | k + 1, x1, x4, x13, x14, x16, x73, x74, x75, x136000, x136001, x136002, x136003, x136004 => if x75 < x74 then (if 0 ≤ x75 then (if x75 < (x73.length : Int) then (if ((rd_T50 x73 x75).f0) = 1 then (if x75 < (x1.length : Int) then ((plane_Jammed.f (([(⟨(⟨x136000, x136001⟩ : S25), x136002, x136003, x136004⟩ : S42)] : List (S42))) ((rd_T25 x1 x75).f0) ((rd_T25 x1 x75).f1) ((rd_T50 x73 x75).f1) x4).bind fun t164 => (if t164 = true then (if x75 < (x16.length : Int) then (if (rd x16 x75) = (-2) then (slotmeshlaw17_MediumJams.l0 k x1 x4 x13 x14 x16 x73 x74 (wrap64 (x75 + 1)) x136000 x136001 x136002 x136003 x136004) else (some false)) else (none)) else (if x75 < (x14.length : Int) then (if x75 < (x16.length : Int) then (if (rd x14 x75) = (rd x16 x75) then (slotmeshlaw17_MediumJams.l0 k x1 x4 x13 x14 x16 x73 x74 (wrap64 (x75 + 1)) x136000 x136001 x136002 x136003 x136004) else (some false)) else (none)) else (none)))) else (none)) else (if x75 < (x14.length : Int) then (if x75 < (x16.length : Int) then (if (rd x14 x75) = (rd x16 x75) then (slotmeshlaw17_MediumJams.l0 k x1 x4 x13 x14 x16 x73 x74 (wrap64 (x75 + 1)) x136000 x136001 x136002 x136003 x136004) else (some false)) else (none)) else (none))) else (none)) else (none)) else (some x13)
end
def slotmeshlaw17_MediumJams.f (k : Nat) (l0 : List (S50)) (l1 : List (S25)) (a2 : Int) (l3 : List (S42)) (a4 : Int) (a5_0 : Int) (a5_1 : Int) (a5_2 : Int) (a5_3 : Int) (a5_4 : Int) : Option (Bool) := (slotmeshlaw17_head.f).bind fun t136 => ((slotmeshlaw17_valid.f k l0 l1 a2 l3 a4).bind fun t137 => (if t137 = true then ((medium_Catch.f k l0 l1 a2 l3 a4).bind fun bt138 => ((some (([] : List (S42)) : List (S42))).bind fun y142 => (if y142.length + l3.length < 3518437208883 then ((some (y142 ++ l3 : List (S42))).bind fun y145 => ((some (([(⟨(⟨a5_0, a5_1⟩ : S25), a5_2, a5_3, a5_4⟩ : S42)] : List (S42)) : List (S42))).bind fun y148 => (if y145.length + y148.length < 3518437208883 then ((medium_Catch.f k l0 l1 a2 (y145 ++ y148) a4).bind fun bt154 => (if bt138.2 = 0 then (if bt154.2 = 0 then (if (bt138.1.length : Int) = (l0.length : Int) then (slotmeshlaw17_MediumJams.j0 k l0 l1 a4 t136 bt138.1 bt154.1 ((bt154.1.length : Int) != (bt138.1.length : Int)) a5_0 a5_1 a5_2 a5_3 a5_4) else (slotmeshlaw17_MediumJams.j0 k l0 l1 a4 t136 bt138.1 bt154.1 true a5_0 a5_1 a5_2 a5_3 a5_4)) else (slotmeshlaw17_MediumJams.j0 k l0 l1 a4 t136 bt138.1 bt154.1 true a5_0 a5_1 a5_2 a5_3 a5_4)) else (slotmeshlaw17_MediumJams.j0 k l0 l1 a4 t136 bt138.1 bt154.1 true a5_0 a5_1 a5_2 a5_3 a5_4))) else (none)))) else (none)))) else (some t136)))
theorem slotmeshlaw17_MediumJams.mono_l : ∀ k, (∀ y0 y1 y2 y3 y4 y5 y6 y7 y8 y9 y10 y11, LeO (slotmeshlaw17_MediumJams.j0 k y0 y1 y2 y3 y4 y5 y6 y7 y8 y9 y10 y11) (slotmeshlaw17_MediumJams.j0 (k + 1) y0 y1 y2 y3 y4 y5 y6 y7 y8 y9 y10 y11)) ∧ (∀ y0 y1 y2 y3 y4 y5 y6 y7 y8 y9 y10 y11 y12, LeO (slotmeshlaw17_MediumJams.l0 k y0 y1 y2 y3 y4 y5 y6 y7 y8 y9 y10 y11 y12) (slotmeshlaw17_MediumJams.l0 (k + 1) y0 y1 y2 y3 y4 y5 y6 y7 y8 y9 y10 y11 y12))
 | 0 => ⟨fun _ _ _ _ _ _ _ _ _ _ _ _ r h => by simp [slotmeshlaw17_MediumJams.j0] at h, fun _ _ _ _ _ _ _ _ _ _ _ _ _ r h => by simp [slotmeshlaw17_MediumJams.l0] at h⟩
 | k + 1 => by
  obtain ⟨ih0, ih1⟩ := slotmeshlaw17_MediumJams.mono_l k
  refine ⟨?_, ?_⟩
  ·
   intro y0 y1 y2 y3 y4 y5 y6 y7 y8 y9 y10 y11
   unfold slotmeshlaw17_MediumJams.j0
   repeat' first
   | (with_reducible exact ih0 _ _ _ _ _ _ _ _ _ _ _ _)
   | (with_reducible exact ih1 _ _ _ _ _ _ _ _ _ _ _ _ _)
   | (with_reducible exact medium_Catch.mono _ _ _ _ _ _)
   | (with_reducible exact slotmeshlaw17_valid.mono _ _ _ _ _ _)
   | (with_reducible exact LeO.refl _)
   | (with_reducible exact LeO.none _)
   | (with_reducible refine LeO.ite ?_ ?_)
   | (with_reducible refine LeO.bind ?_ (fun _ => ?_))
   | exact ih0 _ _ _ _ _ _ _ _ _ _ _ _
   | exact ih1 _ _ _ _ _ _ _ _ _ _ _ _ _
   | exact medium_Catch.mono _ _ _ _ _ _
   | exact slotmeshlaw17_valid.mono _ _ _ _ _ _
   | exact LeO.none _
   | refine LeO.ite ?_ ?_
   | refine LeO.bind ?_ (fun _ => ?_)
  ·
   intro y0 y1 y2 y3 y4 y5 y6 y7 y8 y9 y10 y11 y12
   unfold slotmeshlaw17_MediumJams.l0
   repeat' first
   | (with_reducible exact ih0 _ _ _ _ _ _ _ _ _ _ _ _)
   | (with_reducible exact ih1 _ _ _ _ _ _ _ _ _ _ _ _ _)
   | (with_reducible exact medium_Catch.mono _ _ _ _ _ _)
   | (with_reducible exact slotmeshlaw17_valid.mono _ _ _ _ _ _)
   | (with_reducible exact LeO.refl _)
   | (with_reducible exact LeO.none _)
   | (with_reducible refine LeO.ite ?_ ?_)
   | (with_reducible refine LeO.bind ?_ (fun _ => ?_))
   | exact ih0 _ _ _ _ _ _ _ _ _ _ _ _
   | exact ih1 _ _ _ _ _ _ _ _ _ _ _ _ _
   | exact medium_Catch.mono _ _ _ _ _ _
   | exact slotmeshlaw17_valid.mono _ _ _ _ _ _
   | exact LeO.none _
   | refine LeO.ite ?_ ?_
   | refine LeO.bind ?_ (fun _ => ?_)
theorem slotmeshlaw17_MediumJams.mono : ∀ a0 a1 a2 a3 a4 a5 a6 a7 a8 a9 k, LeO (slotmeshlaw17_MediumJams.f k a0 a1 a2 a3 a4 a5 a6 a7 a8 a9) (slotmeshlaw17_MediumJams.f (k + 1) a0 a1 a2 a3 a4 a5 a6 a7 a8 a9) := by
 intro a0 a1 a2 a3 a4 a5 a6 a7 a8 a9 k
 obtain ⟨ih0, ih1⟩ := slotmeshlaw17_MediumJams.mono_l k
 unfold slotmeshlaw17_MediumJams.f
 repeat' first
   | (with_reducible exact ih0 _ _ _ _ _ _ _ _ _ _ _ _)
   | (with_reducible exact ih1 _ _ _ _ _ _ _ _ _ _ _ _ _)
   | (with_reducible exact medium_Catch.mono _ _ _ _ _ _)
   | (with_reducible exact slotmeshlaw17_valid.mono _ _ _ _ _ _)
   | (with_reducible exact LeO.refl _)
   | (with_reducible exact LeO.none _)
   | (with_reducible refine LeO.ite ?_ ?_)
   | (with_reducible refine LeO.bind ?_ (fun _ => ?_))
   | exact ih0 _ _ _ _ _ _ _ _ _ _ _ _
   | exact ih1 _ _ _ _ _ _ _ _ _ _ _ _ _
   | exact medium_Catch.mono _ _ _ _ _ _
   | exact slotmeshlaw17_valid.mono _ _ _ _ _ _
   | exact LeO.none _
   | refine LeO.ite ?_ ?_
   | refine LeO.bind ?_ (fun _ => ?_)
def slotmeshlaw17_MediumJams.T5 : Bool × List (List Nat × List Nat) := (true, [([], []), ([], []), ([], []), ([], []), ([], []), ([3, 4], [3, 4]), ([], []), ([6], [6]), ([5, 7, 5], [5, 7]), ([], []), ([0, 1, 2, 8, 9, 8], [0, 1, 2, 8, 9]), ([10], [10]), ([11], [11]), ([11], [11]), ([12, 10, 0, 1, 2, 3, 4, 5, 6, 7, 8, 9, 10, 11, 12], [12]), ([13, 14, 0, 1, 2, 3, 4, 5, 6, 7, 8, 9, 10, 11, 12, 13, 14], [13])])
def slotmeshlaw17_MediumJams.B5 : List Nat := [0, 0, 0, 0, 0, 24, 0, 64, 248, 0, 1023, 2047, 4095, 4095, 8191, 32767]
theorem slotmeshlaw17_MediumJams.tab5 : rtab .any (opsOf Try.f6 5) = slotmeshlaw17_MediumJams.T5 := by kernel_rfl
theorem slotmeshlaw17_MediumJams.bits5 : waitsOk slotmeshlaw17_MediumJams.T5.2 slotmeshlaw17_MediumJams.B5 = true := by kernel_rfl
def slotmeshlaw17_MediumJams.T11 : Bool × List (List Nat × List Nat) := (true, [([], []), ([0], [0]), ([1], [1]), ([2], [2]), ([3], [3]), ([4, 3], [3, 4]), ([3], [3]), ([3], [3]), ([6, 7, 3], [3, 6, 7]), ([8, 3], [3, 8]), ([3], [3]), ([10, 3], [3, 10]), ([3], [3]), ([5, 9, 11, 12, 3, 3], [3, 5, 9, 11, 12]), ([3, 13], [3, 13]), ([14, 13, 0, 1, 2, 3, 4, 5, 6, 7, 8, 9, 10, 11, 12, 13, 14], [14])])
def slotmeshlaw17_MediumJams.B11 : List Nat := [0, 1, 3, 7, 15, 31, 15, 15, 207, 463, 15, 1039, 15, 8191, 16383, 32767]
theorem slotmeshlaw17_MediumJams.tab11 : rtab .any (opsOf Try.f6 11) = slotmeshlaw17_MediumJams.T11 := by kernel_rfl
theorem slotmeshlaw17_MediumJams.bits11 : waitsOk slotmeshlaw17_MediumJams.T11.2 slotmeshlaw17_MediumJams.B11 = true := by kernel_rfl
def slotmeshlaw17_MediumJams.T12 : Bool × List (List Nat × List Nat) := (true, [([], []), ([0], [0]), ([1], [1]), ([1], [1]), ([2, 3, 1], [1, 2, 3]), ([4, 1], [1, 4]), ([5, 1], [1, 5]), ([1, 6], [1, 6]), ([7, 1], [7]), ([8], [8]), ([9, 8], [8, 9]), ([10, 8, 8], [8, 10]), ([11], [11]), ([11], [11]), ([12, 13, 11], [11, 12, 13]), ([14, 11], [11, 14]), ([11], [11]), ([11], [11]), ([16, 17, 11], [11, 16, 17]), ([18, 11], [11, 18]), ([15, 19, 11], [11, 15, 19]), ([11, 20, 8], [8, 11, 20]), ([8, 21], [8, 21])])
def slotmeshlaw17_MediumJams.B12 : List Nat := [0, 1, 3, 3, 15, 31, 63, 127, 255, 511, 1023, 2047, 4095, 4095, 16383, 32767, 4095, 4095, 200703, 462847, 1048575, 2097151, 4194303]
theorem slotmeshlaw17_MediumJams.tab12 : rtab .any (opsOf Try.f6 12) = slotmeshlaw17_MediumJams.T12 := by kernel_rfl
theorem slotmeshlaw17_MediumJams.bits12 : waitsOk slotmeshlaw17_MediumJams.T12.2 slotmeshlaw17_MediumJams.B12 = true := by kernel_rfl
set_option maxHeartbeats 8000000 in
set_option maxRecDepth 100000 in
theorem slotmeshlaw17_MediumJams.calls (k : Nat) (A0 : Option Addr) (c0 : Nat) (l0 : List (S50)) (A1 : Option Addr) (c1 : Nat) (l1 : List (S25)) (a2 : Int) (A3 : Option Addr) (c3 : Nat) (l3 : List (S42)) (a4 : Int) (a5_0 : Int) (a5_1 : Int) (a5_2 : Int) (a5_3 : Int) (a5_4 : Int) (r : Bool) (w : World) (hr0 : Kd.C k50 w A0 l0.length l0) (hc0 : l0.length ≤ c0) (hr1 : Kd.C k25 w A1 l1.length l1) (hc1 : l1.length ≤ c1) (hr3 : Kd.C k42 w A3 l3.length l3) (hc3 : l3.length ≤ c3) (h : slotmeshlaw17_MediumJams.f k l0 l1 a2 l3 a4 a5_0 a5_1 a5_2 a5_3 a5_4 = some r) (HRT0 : r = true) :
  Calls Try.prog 6 #[.slice A0 l0.length c0, .slice A1 l1.length c1, .int .i64 a2, .slice A3 l3.length c3, .int .i64 a4, .agg #[.int .i64 a5_0, .int .i64 a5_1, .int .i64 a5_2, .int .i64 a5_3, .int .i64 a5_4]] w fun e w' => e = .returned (.bool r) ∧ Below w.heap.size w w' := by
 have HRT := Aside0.mk HRT0
 clear HRT0
 have hu42 := Try.underlying42
 have hu50 := Try.underlying50
 have hu25 := Try.underlying25
 have HR0 := Aside0.mk hr0
 have HC0 := Aside0.mk hc0
 clear hr0 hc0
 have HR1 := Aside0.mk hr1
 have HC1 := Aside0.mk hc1
 clear hr1 hc1
 have HR3 := Aside0.mk hr3
 have HC3 := Aside0.mk hc3
 clear hr3 hc3
 have HB := Aside0.mk (Below.refl w.heap.size w)
 have H : ((slotmeshlaw17_head.f).bind fun t136 => ((slotmeshlaw17_valid.f k l0 l1 a2 l3 a4).bind fun t137 => (if t137 = true then ((medium_Catch.f k l0 l1 a2 l3 a4).bind fun bt138 => ((some (([] : List (S42)) : List (S42))).bind fun y142 => (if y142.length + l3.length < 3518437208883 then ((some (y142 ++ l3 : List (S42))).bind fun y145 => ((some (([(⟨(⟨a5_0, a5_1⟩ : S25), a5_2, a5_3, a5_4⟩ : S42)] : List (S42)) : List (S42))).bind fun y148 => (if y145.length + y148.length < 3518437208883 then ((medium_Catch.f k l0 l1 a2 (y145 ++ y148) a4).bind fun bt154 => (if bt138.2 = 0 then (if bt154.2 = 0 then (if (bt138.1.length : Int) = (l0.length : Int) then (slotmeshlaw17_MediumJams.j0 k l0 l1 a4 t136 bt138.1 bt154.1 ((bt154.1.length : Int) != (bt138.1.length : Int)) a5_0 a5_1 a5_2 a5_3 a5_4) else (slotmeshlaw17_MediumJams.j0 k l0 l1 a4 t136 bt138.1 bt154.1 true a5_0 a5_1 a5_2 a5_3 a5_4)) else (slotmeshlaw17_MediumJams.j0 k l0 l1 a4 t136 bt138.1 bt154.1 true a5_0 a5_1 a5_2 a5_3 a5_4)) else (slotmeshlaw17_MediumJams.j0 k l0 l1 a4 t136 bt138.1 bt154.1 true a5_0 a5_1 a5_2 a5_3 a5_4))) else (none)))) else (none)))) else (some t136)))) = some r := h
 clear h
 replace H := Option.bind_eq_some_iff.mp H
 obtain ⟨t136, A70, H⟩ := H
 try dsimp only at H
 have A7 := Aside0.mk A70
 clear A70
 replace H := Option.bind_eq_some_iff.mp H
 obtain ⟨t137, A80, H⟩ := H
 try dsimp only at H
 have A8 := Aside0.mk A80
 clear A80
 by_cases c9 : t137 = true
 ·
  subst c9
  rw [if_pos rfl] at H
  replace H := Option.bind_eq_some_iff.mp H
  obtain ⟨⟨t138, t139⟩, A100, H⟩ := H
  try dsimp only at H
  have A10 := Aside0.mk A100
  clear A100
  obtain ⟨y142, hy142, H⟩ := bindE_F6 H
  have Ny142 := Aside0.mk hy142
  clear hy142
  by_cases c11 : y142.length + l3.length < 3518437208883
  ·
   rw [if_pos c11] at H
   have LMc11 := Aside0.mk c11
   clear c11
   obtain ⟨y145, hy145, H⟩ := bindE_F6 H
   have Ny145 := Aside0.mk hy145
   clear hy145
   obtain ⟨y148, hy148, H⟩ := bindE_F6 H
   have Ny148 := Aside0.mk hy148
   clear hy148
   by_cases c12 : y145.length + y148.length < 3518437208883
   ·
    rw [if_pos c12] at H
    have LMc12 := Aside0.mk c12
    clear c12
    obtain ⟨y151, hy151⟩ : ∃ y_ : List (S42), y_ = (y145 ++ y148) := ⟨_, rfl⟩
    rw [← hy151] at H
    have Ny151 := Aside0.mk hy151
    clear hy151
    replace H := Option.bind_eq_some_iff.mp H
    obtain ⟨⟨t154, t155⟩, A130, H⟩ := H
    try dsimp only at H
    have A13 := Aside0.mk A130
    clear A130
    have HC14 := Aside0.mk H
    clear H
    go_enter Try.func6, Try.ntmps6
    try go_wp2_with (first | ((with_reducible refine gate_dst (N := 11) rfl ?_); (try (refine gate_guard (by rfl) ?_; dsimp only)); refine box_event ?hg (N := 11) ?hd (cs := #[.int .i64 a5_0, .int .i64 a5_1, .int .i64 a5_2, .int .i64 a5_3, .int .i64 a5_4]) (t := 42) ?hr ?_; (case hd => rfl); (case hg => rfl); (case hr => first | (go_simp; done) | (go_simp; rfl)); intro gb135 hg w15 hbox hb; have n0_ := Aside0.mk (below_step (by repeat (first | (with_reducible first | exact HB.out | apply below_alloc | apply pw_below_drewN | apply below_drew1) | exact HB.out)) hb); have n1_ := Aside0.mk (hbox); have n2_ := Aside0.mk ((by rw [hg]; exact (below_size (by repeat (first | (with_reducible first | exact HB.out | apply below_alloc | apply pw_below_drewN | apply below_drew1) | exact HB.out))) : w.heap.size ≤ gb135)); have n3_ := Aside0.mk ((by rw [hg]; exact (below_size (by repeat (first | (with_reducible first | exact HB.out | apply below_alloc | apply pw_below_drewN | apply below_drew1) | exact HB.out))) : w.heap.size ≤ gb135)); clear HB; have HB := n0_; have BK135 := n1_; have GW135 := n2_; have GE135 := n3_; clear n0_ n1_ n2_ n3_; clear hb hbox hg) | ((with_reducible refine gate_callee (f := 27) rfl ?_); refine goesL_ (some 21) rfl rfl Try.func27 (by kernel_rfl) rfl #[] rfl (by (try simp only [List.map_toArray, List.map_cons, List.map_nil]); first | done | rfl | (simp only [List.length_drop, List.length_take]; rfl)) ?_; (with_reducible refine (slotmeshlaw17_head.calls  t136 _ A7.out).mono ?_); rintro e w16 ⟨rfl, hb⟩; refine ⟨_, rfl, ?_⟩; have n0_ := Aside0.mk (blk_below (g := gb135) (o := .cells #[.int .i64 a5_0, .int .i64 a5_1, .int .i64 a5_2, .int .i64 a5_3, .int .i64 a5_4] 42 (0, 0)) (by (with_reducible repeat (first | refine blk_drewN ?_ _ | refine blk_drew ?_ | refine blk_alloc ?_ _)); exact BK135.out) hb); have n1_ := Aside0.mk (below_step (by repeat (first | (with_reducible first | exact HB.out | apply below_alloc | apply pw_below_drewN | apply below_drew1 | refine below_set ?_ GE135.out) | exact HB.out)) hb); clear BK135; clear HB; have BK135 := n0_; have HB := n1_; clear n0_ n1_; (try clear hb); (try clear hb2); (try clear hk); (try clear hi)) | ((with_reducible refine gate_callee (f := 28) rfl ?_); refine goesL_ (some 27) rfl rfl Try.func28 (by kernel_rfl) rfl #[.slice A0 l0.length c0, .slice A1 l1.length c1, .int .i64 a2, .slice A3 l3.length c3, .int .i64 a4] rfl (by (try simp only [List.map_toArray, List.map_cons, List.map_nil]); first | done | rfl | (simp only [List.length_drop, List.length_take]; rfl)) ?_; (with_reducible refine (slotmeshlaw17_valid.calls k _ _ l0 _ _ l1 a2 _ _ l3 a4 true _ ?side1 ?side2 ?side3 ?side4 ?side5 ?side6 A8.out).mono ?_); (case side1 => repeat (first | exact (Kd.C_below HR0.out HB.out) | (with_reducible refine Kd.C_alloc ?_ _) | (with_reducible refine Kd.C_drewN ?_ _) | (with_reducible refine Kd.C_drew ?_))); (case side2 => exact HC0.out); (case side3 => repeat (first | exact (Kd.C_below HR1.out HB.out) | (with_reducible refine Kd.C_alloc ?_ _) | (with_reducible refine Kd.C_drewN ?_ _) | (with_reducible refine Kd.C_drew ?_))); (case side4 => exact HC1.out); (case side5 => repeat (first | exact (Kd.C_below HR3.out HB.out) | (with_reducible refine Kd.C_alloc ?_ _) | (with_reducible refine Kd.C_drewN ?_ _) | (with_reducible refine Kd.C_drew ?_))); (case side6 => exact HC3.out); rintro e w17 ⟨rfl, hb⟩; refine ⟨_, rfl, ?_⟩; have n0_ := Aside0.mk (blk_below (g := gb135) (o := .cells #[.int .i64 a5_0, .int .i64 a5_1, .int .i64 a5_2, .int .i64 a5_3, .int .i64 a5_4] 42 (0, 0)) (by (with_reducible repeat (first | refine blk_drewN ?_ _ | refine blk_drew ?_ | refine blk_alloc ?_ _)); exact BK135.out) hb); have n1_ := Aside0.mk (below_step (by repeat (first | (with_reducible first | exact HB.out | apply below_alloc | apply pw_below_drewN | apply below_drew1 | refine below_set ?_ GE135.out) | exact HB.out)) hb); clear BK135; clear HB; have BK135 := n0_; have HB := n1_; clear n0_ n1_; (try clear hb); (try clear hb2); (try clear hk); (try clear hi)) | ((with_reducible refine gate_callee (f := 29) rfl ?_); refine goesL_ (some 36) rfl rfl Try.func29 (by kernel_rfl) rfl #[.slice A0 l0.length c0, .slice A1 l1.length c1, .int .i64 a2, .slice A3 l3.length c3, .int .i64 a4] rfl (by (try simp only [List.map_toArray, List.map_cons, List.map_nil]); first | done | rfl | (simp only [List.length_drop, List.length_take]; rfl)) ?_; (with_reducible refine (medium_Catch.calls k _ _ l0 _ _ l1 a2 _ _ l3 a4 t138 t139 _ ?side1 ?side2 ?side3 ?side4 ?side5 ?side6 A10.out).mono ?_); (case side1 => repeat (first | exact (Kd.C_below HR0.out HB.out) | (with_reducible refine Kd.C_alloc ?_ _) | (with_reducible refine Kd.C_drewN ?_ _) | (with_reducible refine Kd.C_drew ?_))); (case side2 => exact HC0.out); (case side3 => repeat (first | exact (Kd.C_below HR1.out HB.out) | (with_reducible refine Kd.C_alloc ?_ _) | (with_reducible refine Kd.C_drewN ?_ _) | (with_reducible refine Kd.C_drew ?_))); (case side4 => exact HC1.out); (case side5 => repeat (first | exact (Kd.C_below HR3.out HB.out) | (with_reducible refine Kd.C_alloc ?_ _) | (with_reducible refine Kd.C_drewN ?_ _) | (with_reducible refine Kd.C_drew ?_))); (case side6 => exact HC3.out); rintro e w18 ⟨v140, rfl, ho0, hb⟩; refine ⟨_, rfl, ?_⟩; have n0_ := Aside0.mk (Kd.R_lower ho0 (below_size (by repeat (first | (with_reducible first | exact HB.out | apply below_alloc | apply pw_below_drewN | apply below_drew1 | refine below_set ?_ GE135.out) | exact HB.out)))); have n1_ := Aside0.mk (blk_below (g := gb135) (o := .cells #[.int .i64 a5_0, .int .i64 a5_1, .int .i64 a5_2, .int .i64 a5_3, .int .i64 a5_4] 42 (0, 0)) (by (with_reducible repeat (first | refine blk_drewN ?_ _ | refine blk_drew ?_ | refine blk_alloc ?_ _)); exact BK135.out) hb); have n2_ := Aside0.mk (below_step (by repeat (first | (with_reducible first | exact HB.out | apply below_alloc | apply pw_below_drewN | apply below_drew1 | refine below_set ?_ GE135.out) | exact HB.out)) hb); clear BK135; clear HB; have HO141 := n0_; have BK135 := n1_; have HB := n2_; clear n0_ n1_ n2_; (try clear hb); (try clear hb2); (try clear hk); (try clear hi); (try clear ho0)))
    have n0_ := Aside0.mk (Kd.R_drew HO141.out)
    have n1_ := Aside0.mk (blk_drew BK135.out)
    have n2_ := Aside0.mk (below_drew1 HB.out)
    clear HO141
    clear BK135
    clear HB
    have HO141 := n0_
    have BK135 := n1_
    have HB := n2_
    clear n0_ n1_ n2_
    refine start_ (n := 16) (S := fun w' => w'.cell? ⟨gb135, 0, none⟩ = some (.int .i64 a5_0) ∧ w'.cell? ⟨gb135, 1, none⟩ = some (.int .i64 a5_1) ∧ w'.cell? ⟨gb135, 2, none⟩ = some (.int .i64 a5_2) ∧ w'.cell? ⟨gb135, 3, none⟩ = some (.int .i64 a5_3) ∧ w'.cell? ⟨gb135, 4, none⟩ = some (.int .i64 a5_4)) (ds := []) #[false, false, false, false, false, false, false, false, false, false, false, false, false, false, false, false] (by kernel_rfl) rfl rfl ⟨(blk_cell BK135.out 0).trans rfl, (blk_cell BK135.out 1).trans rfl, (blk_cell BK135.out 2).trans rfl, (blk_cell BK135.out 3).trans rfl, (blk_cell BK135.out 4).trans rfl⟩ (fun hHeld => ?_); refine with_tabW slotmeshlaw17_MediumJams.tab5 slotmeshlaw17_MediumJams.bits5 (fun HT_ HW_ => ?_)
    generalize w18.drew = w19 at HO141 BK135 HB hHeld ⊢
    refine pure_ (i := 0) (N := some 40) (v := ?_) (a' := ?_) #[true, false, false, false, false, false, false, false, false, false, false, false, false, false, false, false] rfl rfl (any_of HT_.out (by kernel_rfl)) (fun _ _ _ h => h) (Or.inl ⟨by rfl, ?_⟩) ?_ ?_
    rotate_left
    ·
     intro w'
     go_simp
     with_reducible rfl
    rotate_left
    ·
     simp only [Act.put, List.setIfInBounds_toArray, List.set_cons_zero, List.set_cons_succ, i64_w, i32_w]
     rfl
    refine pure_ (i := 1) (N := some 41) (v := ?_) (a' := ?_) #[true, true, false, false, false, false, false, false, false, false, false, false, false, false, false, false] rfl rfl (any_of HT_.out (by kernel_rfl)) (fun _ _ _ h => h) (Or.inl ⟨by rfl, ?_⟩) ?_ ?_
    rotate_left
    ·
     intro w'
     go_simp
     with_reducible rfl
    rotate_left
    ·
     simp only [Act.put, List.setIfInBounds_toArray, List.set_cons_zero, List.set_cons_succ, i64_w, i32_w]
     rfl
    refine pure_ (i := 2) (N := some 42) (v := ?_) (a' := ?_) #[true, true, true, false, false, false, false, false, false, false, false, false, false, false, false, false] rfl rfl (any_of HT_.out (by kernel_rfl)) (fun _ _ _ h => h) (Or.inl ⟨by rfl, ?_⟩) ?_ ?_
    rotate_left
    ·
     intro w'
     go_simp
     with_reducible rfl
    rotate_left
    ·
     simp only [Act.put, List.setIfInBounds_toArray, List.set_cons_zero, List.set_cons_succ, i64_w, i32_w]
     rfl
    refine pure_ (i := 4) (N := some 44) (v := ?_) (a' := ?_) #[true, true, true, false, true, false, false, false, false, false, false, false, false, false, false, false] rfl rfl (any_of HT_.out (by kernel_rfl)) (fun _ _ _ h => h) (Or.inl ⟨by rfl, ?_⟩) ?_ ?_
    rotate_left
    ·
     intro w'
     go_simp
     with_reducible rfl
    rotate_left
    ·
     simp only [Act.put, List.setIfInBounds_toArray, List.set_cons_zero, List.set_cons_succ, i64_w, i32_w]
     rfl
    refine pure_ (i := 9) (N := some 49) (v := ?_) (a' := ?_) #[true, true, true, false, true, false, false, false, false, true, false, false, false, false, false, false] rfl rfl (any_of HT_.out (by kernel_rfl)) (fun _ _ _ h => h) (Or.inl ⟨by rfl, ?_⟩) ?_ ?_
    rotate_left
    ·
     intro w'
     go_simp
     with_reducible rfl
    rotate_left
    ·
     simp only [Act.put, List.setIfInBounds_toArray, List.set_cons_zero, List.set_cons_succ, i64_w, i32_w]
     rfl
    refine take_ (i := 6) (N := some 46) (v := ?_) (a' := ?_) #[true, true, true, false, true, false, true, false, false, true, false, false, false, false, false, false] rfl rfl (take_ofW HT_.out HW_.out (by kernel_rfl)) (fun _ _ _ h => h) (Or.inl ⟨by rfl, ?_⟩) hHeld ?_ ?_
    rotate_left
    ·
     rintro w' ⟨s0, s1, s2, s3, s4⟩
     go_simp
     with_reducible rfl
    rotate_left
    ·
     simp only [Act.put, List.setIfInBounds_toArray, List.set_cons_zero, List.set_cons_succ, i64_w, i32_w]
     rfl
    refine join_ (σ := Value × Value × Value) 7 #[true, true, true, true, true, true, true, true, false, true, false, false, false, false, false, false] (fun s_ => [(43, s_.1), (45, s_.2.1), (47, s_.2.2)]) (fun s_ w' => (w'.cell? ⟨gb135, 0, none⟩ = some (.int .i64 a5_0) ∧ w'.cell? ⟨gb135, 1, none⟩ = some (.int .i64 a5_1) ∧ w'.cell? ⟨gb135, 2, none⟩ = some (.int .i64 a5_2) ∧ w'.cell? ⟨gb135, 3, none⟩ = some (.int .i64 a5_3) ∧ w'.cell? ⟨gb135, 4, none⟩ = some (.int .i64 a5_4)) ∧ (Kd.R (Kd.int .i64) 3 w' w.heap.size (fun _ => True) v140 t138) ∧ (Kd.R k42 42 w' w.heap.size (fun k_ => some k_ ≠ (s_.2.2 : Value).ownBlock ∧ k_ ≠ gb135) s_.2.1 y145) ∧ (Kd.R k42 42 w' w.heap.size (fun k_ => some k_ ≠ (s_.2.1 : Value).ownBlock ∧ k_ ≠ gb135) s_.2.2 y148) ∧ (w'.heap[gb135]? = some (.cells #[.int .i64 a5_0, .int .i64 a5_1, .int .i64 a5_2, .int .i64 a5_3, .int .i64 a5_4] 42 (0, 0))) ∧ (Below w.heap.size w w')) ?_ ?_
    rotate_left
    ·
     intro hCont
     refine two_ (i := 3) (j := 7) (Ni := some 43) (Nj := some 47) #[true, true, true, true, true, false, true, false, false, true, false, false, false, false, false, false] #[true, true, true, false, true, false, true, true, false, true, false, false, false, false, false, false] rfl rfl rfl rfl (two_of HT_.out (by kernel_rfl)) (by decide) (by decide) (fun K hK => ?_) (fun K hK => ?_)
     ·
      skip
      refine Kd.R_lit_step k42 _ 42 ?hg (N := 43) ?hd (xs := ([] : List (S42))) (inner := []) (ok := fun _ => True) (okp := fun _ => True) ?hr ?hp (fun _ hk => hk) trivial (Below.refl _ _) (Nat.le_refl _) (by simp) ?_; (case hd => rfl); (case hg => rfl); (case hr => first | (go_simp; done) | (go_simp; rfl)); (case hp => exact (Reps.none _ _))
      intro v143 w20 ho21 hb hg_ hnew_
      clear hg_ hnew_
      (first | rw [← Ny142.out] at ho21 | (simp only [Int.reduceToNat] at ho21; rw [← Ny142.out] at ho21))
      have n0_ := Aside0.mk (Kd.R_below (by (with_reducible repeat (first | apply Kd.R_alloc | apply Kd.R_drewN | apply Kd.R_drew)); exact HO141.out) hb)
      have n1_ := Aside0.mk (Kd.R_lower (Kd.R_newB ho21 (g := gb135) (o := .cells #[.int .i64 a5_0, .int .i64 a5_1, .int .i64 a5_2, .int .i64 a5_3, .int .i64 a5_4] 42 (0, 0)) (by (with_reducible repeat (first | refine blk_drewN ?_ _ | refine blk_drew ?_ | refine blk_alloc ?_ _)); exact BK135.out)) (below_size (by repeat (first | (with_reducible first | exact HB.out | apply below_alloc | apply pw_below_drewN | apply below_drew1 | refine below_set ?_ GE135.out) | exact HB.out))))
      have n2_ := Aside0.mk (blk_below (g := gb135) (o := .cells #[.int .i64 a5_0, .int .i64 a5_1, .int .i64 a5_2, .int .i64 a5_3, .int .i64 a5_4] 42 (0, 0)) (by (with_reducible repeat (first | refine blk_drewN ?_ _ | refine blk_drew ?_ | refine blk_alloc ?_ _)); exact BK135.out) hb)
      have n3_ := Aside0.mk (below_step (by repeat (first | (with_reducible first | exact HB.out | apply below_alloc | apply pw_below_drewN | apply below_drew1 | refine below_set ?_ GE135.out) | exact HB.out)) hb)
      clear HO141
      clear BK135
      clear HB
      have HO141 := n0_
      have HO144 := n1_
      have BK135 := n2_
      have HB := n3_
      clear n0_ n1_ n2_ n3_
      clear hb ho21
      refine hK.out _ _ ⟨(blk_cell BK135.out 0).trans rfl, (blk_cell BK135.out 1).trans rfl, (blk_cell BK135.out 2).trans rfl, (blk_cell BK135.out 3).trans rfl, (blk_cell BK135.out 4).trans rfl⟩ (fun hHeld => ?_)
      clear hK K
      refine norm_ (a' := ?_) ?_ ?_
      rotate_left
      ·
       show Act.put _ (some 43) _ = _
       simp only [Act.put, List.setIfInBounds_toArray, List.set_cons_zero, List.set_cons_succ, i64_w, i32_w]
       rfl
      refine two_ (i := 5) (j := 7) (Ni := some 45) (Nj := some 47) #[true, true, true, true, true, true, true, false, false, true, false, false, false, false, false, false] #[true, true, true, true, true, false, true, true, false, true, false, false, false, false, false, false] rfl rfl rfl rfl (two_of HT_.out (by kernel_rfl)) (by decide) (by decide) (fun K hK => ?_) (fun K hK => ?_)
      ·
       skip
       refine Kd.R_append_rows_step k42 (w0 := w) w.heap.size (by rfl) (.tmp 43) (.tmp 44) 23 42 (.agg #[(.int .i64 0), (.int .i64 0), (.int .i64 0), (.int .i64 0), (.int .i64 0)]) 40 rfl Try.underlying23 info42 rfl (by decide) (by omega) v143 y142 l3 _ _ _ (fun k_ => k_ ≠ gb135) (fun _ => False) rfl rfl ?aO ?aR (fun _ _ h => h) (fun _ h => h.elim) ?aF ?aB ?aS ?aL ?_
       (case aR => repeat (first | exact (Kd.C_below HR3.out HB.out) | (with_reducible refine Kd.C_alloc ?_ _) | (with_reducible refine Kd.C_drewN ?_ _) | (with_reducible refine Kd.C_drew ?_)))
       (case aB => exact (by repeat (first | (with_reducible first | exact HB.out | apply below_alloc | apply pw_below_drewN | apply below_drew1 | refine below_set ?_ GE135.out) | exact HB.out)))
       (case aF => exact (fun k_ hk => Kd.freshB (g := gb135) (o := .cells #[.int .i64 a5_0, .int .i64 a5_1, .int .i64 a5_2, .int .i64 a5_3, .int .i64 a5_4] 42 (0, 0)) (by (with_reducible repeat (first | refine blk_drewN ?_ _ | refine blk_drew ?_ | refine blk_alloc ?_ _)); exact BK135.out) k_ hk))
       (case aO => exact (by (with_reducible repeat (first | apply Kd.R_alloc | apply Kd.R_drewN | apply Kd.R_drew)); exact Kd.R_mono HO144.out (fun _ hk => hk.2)))
       (case aS => exact (below_size (by repeat (first | (with_reducible first | exact HB.out | apply below_alloc | apply pw_below_drewN | apply below_drew1 | refine below_set ?_ GE135.out) | exact HB.out))))
       (case aL => have := LMc11.out; omega)
       intro v146 w22 ho hb hg hat
       rw [← Ny145.out] at ho
       have n0_ := Aside0.mk (blk_grown (g := gb135) (o := .cells #[.int .i64 a5_0, .int .i64 a5_1, .int .i64 a5_2, .int .i64 a5_3, .int .i64 a5_4] 42 (0, 0)) (by (with_reducible repeat (first | refine blk_drewN ?_ _ | refine blk_drew ?_ | refine blk_alloc ?_ _)); exact BK135.out) hg (Kd.R_away HO144.out (fun _ hk => hk.2)))
       have n1_ := Aside0.mk (Kd.R_over' (by (with_reducible repeat (first | apply Kd.R_alloc | apply Kd.R_drewN | apply Kd.R_drew)); exact HO141.out) (Kd.R_typed (by (with_reducible repeat (first | apply Kd.R_alloc | apply Kd.R_drewN | apply Kd.R_drew)); exact HO144.out)) (by decide) hg)
       have n2_ := Aside0.mk (hb)
       have n3_ := Aside0.mk (ho)
       clear BK135
       clear HO141
       clear HB
       clear HO144
       have BK135 := n0_
       have HO141 := n1_
       have HB := n2_
       have HO147 := n3_
       clear n0_ n1_ n2_ n3_
       clear ho hb hg hat
       refine hK.out _ _ ⟨(blk_cell BK135.out 0).trans rfl, (blk_cell BK135.out 1).trans rfl, (blk_cell BK135.out 2).trans rfl, (blk_cell BK135.out 3).trans rfl, (blk_cell BK135.out 4).trans rfl⟩ (fun hHeld => ?_)
       clear hK K
       refine norm_ (a' := ?_) ?_ ?_
       rotate_left
       ·
        show Act.put _ (some 45) _ = _
        simp only [Act.put, List.setIfInBounds_toArray, List.set_cons_zero, List.set_cons_succ, i64_w, i32_w]
        rfl
       refine one_ (i := 7) (N := some 47) #[true, true, true, true, true, true, true, true, false, true, false, false, false, false, false, false] rfl rfl (one_of HT_.out (by kernel_rfl)) (by decide) (fun K hK => ?_)
       refine Kd.R_lit_step k42 _ 42 ?hg (N := 47) ?hd (xs := ([(⟨(⟨a5_0, a5_1⟩ : S25), a5_2, a5_3, a5_4⟩ : S42)] : List (S42))) (inner := [.int .i64 a5_0, .int .i64 a5_1, .int .i64 a5_2, .int .i64 a5_3, .int .i64 a5_4]) (ok := fun _ => True) (okp := fun _ => True) ?hr ?hp (fun _ hk => hk) trivial (Below.refl _ _) (Nat.le_refl _) (by simp) ?_; (case hd => rfl); (case hg => rfl); (case hr => first | (go_simp; done) | (go_simp; rfl)); (case hp => exact (Reps.c5 (show Kd.M k42 _ _ _ (⟨(⟨a5_0, a5_1⟩ : S25), a5_2, a5_3, a5_4⟩ : S42) [.int .i64 a5_0, .int .i64 a5_1, .int .i64 a5_2, .int .i64 a5_3, .int .i64 a5_4] from (k42_mkM _ _ _ (⟨(⟨a5_0, a5_1⟩ : S25), a5_2, a5_3, a5_4⟩ : S42) )) (Reps.none _ _)))
       intro v149 w23 ho24 hb hg_ hnew_
       clear hg_ hnew_
       (first | rw [← Ny148.out] at ho24 | (simp only [Int.reduceToNat] at ho24; rw [← Ny148.out] at ho24))
       have n0_ := Aside0.mk (Kd.R_below (by (with_reducible repeat (first | apply Kd.R_alloc | apply Kd.R_drewN | apply Kd.R_drew)); exact HO141.out) hb)
       have n1_ := Aside0.mk (Kd.R_elder' (by (with_reducible repeat (first | apply Kd.R_alloc | apply Kd.R_drewN | apply Kd.R_drew)); exact HO147.out) (Kd.R_base ho24) hb)
       have n2_ := Aside0.mk (Kd.R_lower (Kd.R_newB (Kd.R_new' ho24 (Kd.R_lt (by (with_reducible repeat (first | apply Kd.R_alloc | apply Kd.R_drewN | apply Kd.R_drew)); exact HO147.out))) (g := gb135) (o := .cells #[.int .i64 a5_0, .int .i64 a5_1, .int .i64 a5_2, .int .i64 a5_3, .int .i64 a5_4] 42 (0, 0)) (by (with_reducible repeat (first | refine blk_drewN ?_ _ | refine blk_drew ?_ | refine blk_alloc ?_ _)); exact BK135.out)) (below_size (by repeat (first | (with_reducible first | exact HB.out | apply below_alloc | apply pw_below_drewN | apply below_drew1 | refine below_set ?_ GE135.out) | exact HB.out))))
       have n3_ := Aside0.mk (blk_below (g := gb135) (o := .cells #[.int .i64 a5_0, .int .i64 a5_1, .int .i64 a5_2, .int .i64 a5_3, .int .i64 a5_4] 42 (0, 0)) (by (with_reducible repeat (first | refine blk_drewN ?_ _ | refine blk_drew ?_ | refine blk_alloc ?_ _)); exact BK135.out) hb)
       have n4_ := Aside0.mk (below_step (by repeat (first | (with_reducible first | exact HB.out | apply below_alloc | apply pw_below_drewN | apply below_drew1 | refine below_set ?_ GE135.out) | exact HB.out)) hb)
       clear HO141
       clear HO147
       clear BK135
       clear HB
       have HO141 := n0_
       have HO147 := n1_
       have HO150 := n2_
       have BK135 := n3_
       have HB := n4_
       clear n0_ n1_ n2_ n3_ n4_
       clear hb ho24
       refine hK.out _ _ ⟨(blk_cell BK135.out 0).trans rfl, (blk_cell BK135.out 1).trans rfl, (blk_cell BK135.out 2).trans rfl, (blk_cell BK135.out 3).trans rfl, (blk_cell BK135.out 4).trans rfl⟩ (fun hHeld => ?_)
       clear hK K
       refine norm_ (a' := ?_) ?_ ?_
       rotate_left
       ·
        show Act.put _ (some 47) _ = _
        simp only [Act.put, List.setIfInBounds_toArray, List.set_cons_zero, List.set_cons_succ, i64_w, i32_w]
        rfl
       exact norm_ (by simp only [putAll, Act.put, List.setIfInBounds_toArray, List.set_cons_zero, List.set_cons_succ]) (hCont (v143, v146, v149) _ ⟨hHeld, (by (with_reducible repeat (first | apply Kd.R_alloc | apply Kd.R_drewN | apply Kd.R_drew)); exact HO141.out), (by (with_reducible repeat (first | apply Kd.R_alloc | apply Kd.R_drewN | apply Kd.R_drew)); exact Kd.R_mono HO147.out (fun _ hk => ⟨hk.2, hk.1⟩)), (by (with_reducible repeat (first | apply Kd.R_alloc | apply Kd.R_drewN | apply Kd.R_drew)); exact Kd.R_mono HO150.out (fun _ hk => ⟨hk.1.2, hk.2⟩)), (by (with_reducible repeat (first | refine blk_drewN ?_ _ | refine blk_drew ?_ | refine blk_alloc ?_ _)); exact BK135.out), (by repeat (first | (with_reducible first | exact HB.out | apply below_alloc | apply pw_below_drewN | apply below_drew1 | refine below_set ?_ GE135.out) | exact HB.out))⟩)
      ·
       skip
       refine Kd.R_lit_step k42 _ 42 ?hg (N := 47) ?hd (xs := ([(⟨(⟨a5_0, a5_1⟩ : S25), a5_2, a5_3, a5_4⟩ : S42)] : List (S42))) (inner := [.int .i64 a5_0, .int .i64 a5_1, .int .i64 a5_2, .int .i64 a5_3, .int .i64 a5_4]) (ok := fun _ => True) (okp := fun _ => True) ?hr ?hp (fun _ hk => hk) trivial (Below.refl _ _) (Nat.le_refl _) (by simp) ?_; (case hd => rfl); (case hg => rfl); (case hr => first | (go_simp; done) | (go_simp; rfl)); (case hp => exact (Reps.c5 (show Kd.M k42 _ _ _ (⟨(⟨a5_0, a5_1⟩ : S25), a5_2, a5_3, a5_4⟩ : S42) [.int .i64 a5_0, .int .i64 a5_1, .int .i64 a5_2, .int .i64 a5_3, .int .i64 a5_4] from (k42_mkM _ _ _ (⟨(⟨a5_0, a5_1⟩ : S25), a5_2, a5_3, a5_4⟩ : S42) )) (Reps.none _ _)))
       intro v149 w22 ho23 hb hg_ hnew_
       clear hg_ hnew_
       (first | rw [← Ny148.out] at ho23 | (simp only [Int.reduceToNat] at ho23; rw [← Ny148.out] at ho23))
       have n0_ := Aside0.mk (Kd.R_below (by (with_reducible repeat (first | apply Kd.R_alloc | apply Kd.R_drewN | apply Kd.R_drew)); exact HO141.out) hb)
       have n1_ := Aside0.mk (Kd.R_elder' (by (with_reducible repeat (first | apply Kd.R_alloc | apply Kd.R_drewN | apply Kd.R_drew)); exact HO144.out) (Kd.R_base ho23) hb)
       have n2_ := Aside0.mk (Kd.R_lower (Kd.R_newB (Kd.R_new' ho23 (Kd.R_lt (by (with_reducible repeat (first | apply Kd.R_alloc | apply Kd.R_drewN | apply Kd.R_drew)); exact HO144.out))) (g := gb135) (o := .cells #[.int .i64 a5_0, .int .i64 a5_1, .int .i64 a5_2, .int .i64 a5_3, .int .i64 a5_4] 42 (0, 0)) (by (with_reducible repeat (first | refine blk_drewN ?_ _ | refine blk_drew ?_ | refine blk_alloc ?_ _)); exact BK135.out)) (below_size (by repeat (first | (with_reducible first | exact HB.out | apply below_alloc | apply pw_below_drewN | apply below_drew1 | refine below_set ?_ GE135.out) | exact HB.out))))
       have n3_ := Aside0.mk (blk_below (g := gb135) (o := .cells #[.int .i64 a5_0, .int .i64 a5_1, .int .i64 a5_2, .int .i64 a5_3, .int .i64 a5_4] 42 (0, 0)) (by (with_reducible repeat (first | refine blk_drewN ?_ _ | refine blk_drew ?_ | refine blk_alloc ?_ _)); exact BK135.out) hb)
       have n4_ := Aside0.mk (below_step (by repeat (first | (with_reducible first | exact HB.out | apply below_alloc | apply pw_below_drewN | apply below_drew1 | refine below_set ?_ GE135.out) | exact HB.out)) hb)
       clear HO141
       clear HO144
       clear BK135
       clear HB
       have HO141 := n0_
       have HO144 := n1_
       have HO150 := n2_
       have BK135 := n3_
       have HB := n4_
       clear n0_ n1_ n2_ n3_ n4_
       clear hb ho23
       refine hK.out _ _ ⟨(blk_cell BK135.out 0).trans rfl, (blk_cell BK135.out 1).trans rfl, (blk_cell BK135.out 2).trans rfl, (blk_cell BK135.out 3).trans rfl, (blk_cell BK135.out 4).trans rfl⟩ (fun hHeld => ?_)
       clear hK K
       refine norm_ (a' := ?_) ?_ ?_
       rotate_left
       ·
        show Act.put _ (some 47) _ = _
        simp only [Act.put, List.setIfInBounds_toArray, List.set_cons_zero, List.set_cons_succ, i64_w, i32_w]
        rfl
       refine one_ (i := 5) (N := some 45) #[true, true, true, true, true, true, true, true, false, true, false, false, false, false, false, false] rfl rfl (one_of HT_.out (by kernel_rfl)) (by decide) (fun K hK => ?_)
       refine Kd.R_append_rows_step k42 (w0 := w) w.heap.size (by rfl) (.tmp 43) (.tmp 44) 23 42 (.agg #[(.int .i64 0), (.int .i64 0), (.int .i64 0), (.int .i64 0), (.int .i64 0)]) 40 rfl Try.underlying23 info42 rfl (by decide) (by omega) v143 y142 l3 _ _ _ (fun k_ => some k_ ≠ (v149 : Value).ownBlock ∧ k_ ≠ gb135) (fun _ => False) rfl rfl ?aO ?aR (fun _ _ h => h) (fun _ h => h.elim) ?aF ?aB ?aS ?aL ?_
       (case aR => repeat (first | exact (Kd.C_below HR3.out HB.out) | (with_reducible refine Kd.C_alloc ?_ _) | (with_reducible refine Kd.C_drewN ?_ _) | (with_reducible refine Kd.C_drew ?_)))
       (case aB => exact (by repeat (first | (with_reducible first | exact HB.out | apply below_alloc | apply pw_below_drewN | apply below_drew1 | refine below_set ?_ GE135.out) | exact HB.out)))
       (case aF => exact (fun k_ hk => ⟨Kd.fresh' (Kd.R_lt (by (with_reducible repeat (first | apply Kd.R_alloc | apply Kd.R_drewN | apply Kd.R_drew)); exact HO150.out)) k_ hk, Kd.freshB (g := gb135) (o := .cells #[.int .i64 a5_0, .int .i64 a5_1, .int .i64 a5_2, .int .i64 a5_3, .int .i64 a5_4] 42 (0, 0)) (by (with_reducible repeat (first | refine blk_drewN ?_ _ | refine blk_drew ?_ | refine blk_alloc ?_ _)); exact BK135.out) k_ hk⟩))
       (case aO => exact (by (with_reducible repeat (first | apply Kd.R_alloc | apply Kd.R_drewN | apply Kd.R_drew)); exact Kd.R_mono HO144.out (fun _ hk => ⟨hk.2, hk.1.2⟩)))
       (case aS => exact (below_size (by repeat (first | (with_reducible first | exact HB.out | apply below_alloc | apply pw_below_drewN | apply below_drew1 | refine below_set ?_ GE135.out) | exact HB.out))))
       (case aL => have := LMc11.out; omega)
       intro v146 w24 ho hb hg hat
       rw [← Ny145.out] at ho
       have n0_ := Aside0.mk (blk_grown (g := gb135) (o := .cells #[.int .i64 a5_0, .int .i64 a5_1, .int .i64 a5_2, .int .i64 a5_3, .int .i64 a5_4] 42 (0, 0)) (by (with_reducible repeat (first | refine blk_drewN ?_ _ | refine blk_drew ?_ | refine blk_alloc ?_ _)); exact BK135.out) hg (Kd.R_away HO144.out (fun _ hk => hk.1.2)))
       have n1_ := Aside0.mk (Kd.R_over' (by (with_reducible repeat (first | apply Kd.R_alloc | apply Kd.R_drewN | apply Kd.R_drew)); exact HO141.out) (Kd.R_typed (by (with_reducible repeat (first | apply Kd.R_alloc | apply Kd.R_drewN | apply Kd.R_drew)); exact HO144.out)) (by decide) hg)
       have n2_ := Aside0.mk (Kd.R_after (ok := (fun k_ => k_ ≠ gb135)) (by (with_reducible repeat (first | apply Kd.R_alloc | apply Kd.R_drewN | apply Kd.R_drew)); exact Kd.R_mono HO150.out (fun _ hk => ⟨hk.2, hk.1.2⟩)) hg hat)
       have n3_ := Aside0.mk (hb)
       have n4_ := Aside0.mk (ho)
       clear BK135
       clear HO141
       clear HO150
       clear HB
       clear HO144
       have BK135 := n0_
       have HO141 := n1_
       have HO150 := n2_
       have HB := n3_
       have HO147 := n4_
       clear n0_ n1_ n2_ n3_ n4_
       clear ho hb hg hat
       refine hK.out _ _ ⟨(blk_cell BK135.out 0).trans rfl, (blk_cell BK135.out 1).trans rfl, (blk_cell BK135.out 2).trans rfl, (blk_cell BK135.out 3).trans rfl, (blk_cell BK135.out 4).trans rfl⟩ (fun hHeld => ?_)
       clear hK K
       refine norm_ (a' := ?_) ?_ ?_
       rotate_left
       ·
        show Act.put _ (some 45) _ = _
        simp only [Act.put, List.setIfInBounds_toArray, List.set_cons_zero, List.set_cons_succ, i64_w, i32_w]
        rfl
       exact norm_ (by simp only [putAll, Act.put, List.setIfInBounds_toArray, List.set_cons_zero, List.set_cons_succ]) (hCont (v143, v146, v149) _ ⟨hHeld, (by (with_reducible repeat (first | apply Kd.R_alloc | apply Kd.R_drewN | apply Kd.R_drew)); exact HO141.out), (by (with_reducible repeat (first | apply Kd.R_alloc | apply Kd.R_drewN | apply Kd.R_drew)); exact HO147.out), (by (with_reducible repeat (first | apply Kd.R_alloc | apply Kd.R_drewN | apply Kd.R_drew)); exact Kd.R_mono HO150.out (fun _ hk => ⟨hk.2, hk.1⟩)), (by (with_reducible repeat (first | refine blk_drewN ?_ _ | refine blk_drew ?_ | refine blk_alloc ?_ _)); exact BK135.out), (by repeat (first | (with_reducible first | exact HB.out | apply below_alloc | apply pw_below_drewN | apply below_drew1 | refine below_set ?_ GE135.out) | exact HB.out))⟩)
     ·
      skip
      refine Kd.R_lit_step k42 _ 42 ?hg (N := 47) ?hd (xs := ([(⟨(⟨a5_0, a5_1⟩ : S25), a5_2, a5_3, a5_4⟩ : S42)] : List (S42))) (inner := [.int .i64 a5_0, .int .i64 a5_1, .int .i64 a5_2, .int .i64 a5_3, .int .i64 a5_4]) (ok := fun _ => True) (okp := fun _ => True) ?hr ?hp (fun _ hk => hk) trivial (Below.refl _ _) (Nat.le_refl _) (by simp) ?_; (case hd => rfl); (case hg => rfl); (case hr => first | (go_simp; done) | (go_simp; rfl)); (case hp => exact (Reps.c5 (show Kd.M k42 _ _ _ (⟨(⟨a5_0, a5_1⟩ : S25), a5_2, a5_3, a5_4⟩ : S42) [.int .i64 a5_0, .int .i64 a5_1, .int .i64 a5_2, .int .i64 a5_3, .int .i64 a5_4] from (k42_mkM _ _ _ (⟨(⟨a5_0, a5_1⟩ : S25), a5_2, a5_3, a5_4⟩ : S42) )) (Reps.none _ _)))
      intro v149 w20 ho21 hb hg_ hnew_
      clear hg_ hnew_
      (first | rw [← Ny148.out] at ho21 | (simp only [Int.reduceToNat] at ho21; rw [← Ny148.out] at ho21))
      have n0_ := Aside0.mk (Kd.R_below (by (with_reducible repeat (first | apply Kd.R_alloc | apply Kd.R_drewN | apply Kd.R_drew)); exact HO141.out) hb)
      have n1_ := Aside0.mk (Kd.R_lower (Kd.R_newB ho21 (g := gb135) (o := .cells #[.int .i64 a5_0, .int .i64 a5_1, .int .i64 a5_2, .int .i64 a5_3, .int .i64 a5_4] 42 (0, 0)) (by (with_reducible repeat (first | refine blk_drewN ?_ _ | refine blk_drew ?_ | refine blk_alloc ?_ _)); exact BK135.out)) (below_size (by repeat (first | (with_reducible first | exact HB.out | apply below_alloc | apply pw_below_drewN | apply below_drew1 | refine below_set ?_ GE135.out) | exact HB.out))))
      have n2_ := Aside0.mk (blk_below (g := gb135) (o := .cells #[.int .i64 a5_0, .int .i64 a5_1, .int .i64 a5_2, .int .i64 a5_3, .int .i64 a5_4] 42 (0, 0)) (by (with_reducible repeat (first | refine blk_drewN ?_ _ | refine blk_drew ?_ | refine blk_alloc ?_ _)); exact BK135.out) hb)
      have n3_ := Aside0.mk (below_step (by repeat (first | (with_reducible first | exact HB.out | apply below_alloc | apply pw_below_drewN | apply below_drew1 | refine below_set ?_ GE135.out) | exact HB.out)) hb)
      clear HO141
      clear BK135
      clear HB
      have HO141 := n0_
      have HO150 := n1_
      have BK135 := n2_
      have HB := n3_
      clear n0_ n1_ n2_ n3_
      clear hb ho21
      refine hK.out _ _ ⟨(blk_cell BK135.out 0).trans rfl, (blk_cell BK135.out 1).trans rfl, (blk_cell BK135.out 2).trans rfl, (blk_cell BK135.out 3).trans rfl, (blk_cell BK135.out 4).trans rfl⟩ (fun hHeld => ?_)
      clear hK K
      refine norm_ (a' := ?_) ?_ ?_
      rotate_left
      ·
       show Act.put _ (some 47) _ = _
       simp only [Act.put, List.setIfInBounds_toArray, List.set_cons_zero, List.set_cons_succ, i64_w, i32_w]
       rfl
      refine one_ (i := 3) (N := some 43) #[true, true, true, true, true, false, true, true, false, true, false, false, false, false, false, false] rfl rfl (one_of HT_.out (by kernel_rfl)) (by decide) (fun K hK => ?_)
      refine Kd.R_lit_step k42 _ 42 ?hg (N := 43) ?hd (xs := ([] : List (S42))) (inner := []) (ok := fun _ => True) (okp := fun _ => True) ?hr ?hp (fun _ hk => hk) trivial (Below.refl _ _) (Nat.le_refl _) (by simp) ?_; (case hd => rfl); (case hg => rfl); (case hr => first | (go_simp; done) | (go_simp; rfl)); (case hp => exact (Reps.none _ _))
      intro v143 w22 ho23 hb hg_ hnew_
      clear hg_ hnew_
      (first | rw [← Ny142.out] at ho23 | (simp only [Int.reduceToNat] at ho23; rw [← Ny142.out] at ho23))
      have n0_ := Aside0.mk (Kd.R_below (by (with_reducible repeat (first | apply Kd.R_alloc | apply Kd.R_drewN | apply Kd.R_drew)); exact HO141.out) hb)
      have n1_ := Aside0.mk (Kd.R_elder' (by (with_reducible repeat (first | apply Kd.R_alloc | apply Kd.R_drewN | apply Kd.R_drew)); exact HO150.out) (Kd.R_base ho23) hb)
      have n2_ := Aside0.mk (Kd.R_lower (Kd.R_newB (Kd.R_new' ho23 (Kd.R_lt (by (with_reducible repeat (first | apply Kd.R_alloc | apply Kd.R_drewN | apply Kd.R_drew)); exact HO150.out))) (g := gb135) (o := .cells #[.int .i64 a5_0, .int .i64 a5_1, .int .i64 a5_2, .int .i64 a5_3, .int .i64 a5_4] 42 (0, 0)) (by (with_reducible repeat (first | refine blk_drewN ?_ _ | refine blk_drew ?_ | refine blk_alloc ?_ _)); exact BK135.out)) (below_size (by repeat (first | (with_reducible first | exact HB.out | apply below_alloc | apply pw_below_drewN | apply below_drew1 | refine below_set ?_ GE135.out) | exact HB.out))))
      have n3_ := Aside0.mk (blk_below (g := gb135) (o := .cells #[.int .i64 a5_0, .int .i64 a5_1, .int .i64 a5_2, .int .i64 a5_3, .int .i64 a5_4] 42 (0, 0)) (by (with_reducible repeat (first | refine blk_drewN ?_ _ | refine blk_drew ?_ | refine blk_alloc ?_ _)); exact BK135.out) hb)
      have n4_ := Aside0.mk (below_step (by repeat (first | (with_reducible first | exact HB.out | apply below_alloc | apply pw_below_drewN | apply below_drew1 | refine below_set ?_ GE135.out) | exact HB.out)) hb)
      clear HO141
      clear HO150
      clear BK135
      clear HB
      have HO141 := n0_
      have HO150 := n1_
      have HO144 := n2_
      have BK135 := n3_
      have HB := n4_
      clear n0_ n1_ n2_ n3_ n4_
      clear hb ho23
      refine hK.out _ _ ⟨(blk_cell BK135.out 0).trans rfl, (blk_cell BK135.out 1).trans rfl, (blk_cell BK135.out 2).trans rfl, (blk_cell BK135.out 3).trans rfl, (blk_cell BK135.out 4).trans rfl⟩ (fun hHeld => ?_)
      clear hK K
      refine norm_ (a' := ?_) ?_ ?_
      rotate_left
      ·
       show Act.put _ (some 43) _ = _
       simp only [Act.put, List.setIfInBounds_toArray, List.set_cons_zero, List.set_cons_succ, i64_w, i32_w]
       rfl
      refine one_ (i := 5) (N := some 45) #[true, true, true, true, true, true, true, true, false, true, false, false, false, false, false, false] rfl rfl (one_of HT_.out (by kernel_rfl)) (by decide) (fun K hK => ?_)
      refine Kd.R_append_rows_step k42 (w0 := w) w.heap.size (by rfl) (.tmp 43) (.tmp 44) 23 42 (.agg #[(.int .i64 0), (.int .i64 0), (.int .i64 0), (.int .i64 0), (.int .i64 0)]) 40 rfl Try.underlying23 info42 rfl (by decide) (by omega) v143 y142 l3 _ _ _ (fun k_ => some k_ ≠ (v149 : Value).ownBlock ∧ k_ ≠ gb135) (fun _ => False) rfl rfl ?aO ?aR (fun _ _ h => h) (fun _ h => h.elim) ?aF ?aB ?aS ?aL ?_
      (case aR => repeat (first | exact (Kd.C_below HR3.out HB.out) | (with_reducible refine Kd.C_alloc ?_ _) | (with_reducible refine Kd.C_drewN ?_ _) | (with_reducible refine Kd.C_drew ?_)))
      (case aB => exact (by repeat (first | (with_reducible first | exact HB.out | apply below_alloc | apply pw_below_drewN | apply below_drew1 | refine below_set ?_ GE135.out) | exact HB.out)))
      (case aF => exact (fun k_ hk => ⟨Kd.fresh' (Kd.R_lt (by (with_reducible repeat (first | apply Kd.R_alloc | apply Kd.R_drewN | apply Kd.R_drew)); exact HO150.out)) k_ hk, Kd.freshB (g := gb135) (o := .cells #[.int .i64 a5_0, .int .i64 a5_1, .int .i64 a5_2, .int .i64 a5_3, .int .i64 a5_4] 42 (0, 0)) (by (with_reducible repeat (first | refine blk_drewN ?_ _ | refine blk_drew ?_ | refine blk_alloc ?_ _)); exact BK135.out) k_ hk⟩))
      (case aO => exact (by (with_reducible repeat (first | apply Kd.R_alloc | apply Kd.R_drewN | apply Kd.R_drew)); exact Kd.R_mono HO144.out (fun _ hk => ⟨hk.1.2, hk.2⟩)))
      (case aS => exact (below_size (by repeat (first | (with_reducible first | exact HB.out | apply below_alloc | apply pw_below_drewN | apply below_drew1 | refine below_set ?_ GE135.out) | exact HB.out))))
      (case aL => have := LMc11.out; omega)
      intro v146 w24 ho hb hg hat
      rw [← Ny145.out] at ho
      have n0_ := Aside0.mk (blk_grown (g := gb135) (o := .cells #[.int .i64 a5_0, .int .i64 a5_1, .int .i64 a5_2, .int .i64 a5_3, .int .i64 a5_4] 42 (0, 0)) (by (with_reducible repeat (first | refine blk_drewN ?_ _ | refine blk_drew ?_ | refine blk_alloc ?_ _)); exact BK135.out) hg (Kd.R_away HO144.out (fun _ hk => hk.2)))
      have n1_ := Aside0.mk (Kd.R_over' (by (with_reducible repeat (first | apply Kd.R_alloc | apply Kd.R_drewN | apply Kd.R_drew)); exact HO141.out) (Kd.R_typed (by (with_reducible repeat (first | apply Kd.R_alloc | apply Kd.R_drewN | apply Kd.R_drew)); exact HO144.out)) (by decide) hg)
      have n2_ := Aside0.mk (Kd.R_after (ok := (fun k_ => k_ ≠ gb135)) (by (with_reducible repeat (first | apply Kd.R_alloc | apply Kd.R_drewN | apply Kd.R_drew)); exact Kd.R_mono HO150.out (fun _ hk => ⟨hk.1.2, hk.2⟩)) hg hat)
      have n3_ := Aside0.mk (hb)
      have n4_ := Aside0.mk (ho)
      clear BK135
      clear HO141
      clear HO150
      clear HB
      clear HO144
      have BK135 := n0_
      have HO141 := n1_
      have HO150 := n2_
      have HB := n3_
      have HO147 := n4_
      clear n0_ n1_ n2_ n3_ n4_
      clear ho hb hg hat
      refine hK.out _ _ ⟨(blk_cell BK135.out 0).trans rfl, (blk_cell BK135.out 1).trans rfl, (blk_cell BK135.out 2).trans rfl, (blk_cell BK135.out 3).trans rfl, (blk_cell BK135.out 4).trans rfl⟩ (fun hHeld => ?_)
      clear hK K
      refine norm_ (a' := ?_) ?_ ?_
      rotate_left
      ·
       show Act.put _ (some 45) _ = _
       simp only [Act.put, List.setIfInBounds_toArray, List.set_cons_zero, List.set_cons_succ, i64_w, i32_w]
       rfl
      exact norm_ (by simp only [putAll, Act.put, List.setIfInBounds_toArray, List.set_cons_zero, List.set_cons_succ]) (hCont (v143, v146, v149) _ ⟨hHeld, (by (with_reducible repeat (first | apply Kd.R_alloc | apply Kd.R_drewN | apply Kd.R_drew)); exact HO141.out), (by (with_reducible repeat (first | apply Kd.R_alloc | apply Kd.R_drewN | apply Kd.R_drew)); exact HO147.out), (by (with_reducible repeat (first | apply Kd.R_alloc | apply Kd.R_drewN | apply Kd.R_drew)); exact Kd.R_mono HO150.out (fun _ hk => ⟨hk.2, hk.1⟩)), (by (with_reducible repeat (first | refine blk_drewN ?_ _ | refine blk_drew ?_ | refine blk_alloc ?_ _)); exact BK135.out), (by repeat (first | (with_reducible first | exact HB.out | apply below_alloc | apply pw_below_drewN | apply below_drew1 | refine below_set ?_ GE135.out) | exact HB.out))⟩)
    rintro ⟨v143, v146, v149⟩ w25 ⟨hS_, h0_, h1_, h2_, h3_, h4_⟩
    have n0_ : Aside0 (Kd.R (Kd.int .i64) 3 w25 w.heap.size (fun _ => True) v140 t138) := ⟨h0_⟩
    have n1_ : Aside0 (Kd.R k42 42 w25 w.heap.size (fun k_ => some k_ ≠ (v149 : Value).ownBlock ∧ k_ ≠ gb135) v146 y145) := ⟨h1_⟩
    have n2_ : Aside0 (Kd.R k42 42 w25 w.heap.size (fun k_ => some k_ ≠ (v146 : Value).ownBlock ∧ k_ ≠ gb135) v149 y148) := ⟨h2_⟩
    have n3_ : Aside0 (w25.heap[gb135]? = some (.cells #[.int .i64 a5_0, .int .i64 a5_1, .int .i64 a5_2, .int .i64 a5_3, .int .i64 a5_4] 42 (0, 0))) := ⟨h3_⟩
    have n4_ : Aside0 (Below w.heap.size w w25) := ⟨h4_⟩
    clear HO141
    clear BK135
    clear HB
    clear h0_ h1_ h2_ h3_ h4_
    have HO141 := n0_
    have HO147 := n1_
    have HO150 := n2_
    have BK135 := n3_
    have HB := n4_
    clear n0_ n1_ n2_ n3_ n4_
    have hHeld : w25.cell? ⟨gb135, 0, none⟩ = some (.int .i64 a5_0) ∧ w25.cell? ⟨gb135, 1, none⟩ = some (.int .i64 a5_1) ∧ w25.cell? ⟨gb135, 2, none⟩ = some (.int .i64 a5_2) ∧ w25.cell? ⟨gb135, 3, none⟩ = some (.int .i64 a5_3) ∧ w25.cell? ⟨gb135, 4, none⟩ = some (.int .i64 a5_4) := hS_
    obtain ⟨Ao27, co27, eo27⟩ := Kd.R_slice HO150.out
    (first | subst eo27 | (injection eo27 with f1_ f2_ f3_; have f4_ := f1_.symm; have f5_ := f3_.symm; clear f1_ f2_ f3_; subst f4_; subst f5_))
    refine norm_ (a' := ?_) ?_ ?_
    rotate_left
    ·
     simp only [putAll, Act.put, List.setIfInBounds_toArray, List.set_cons_zero, List.set_cons_succ]
     rfl
    refine one_ (i := 8) (N := some 48) #[true, true, true, true, true, true, true, true, true, true, false, false, false, false, false, false] rfl rfl (one_of HT_.out (by kernel_rfl)) (by decide) (fun K hK => ?_)
    refine Kd.R_append_rows_step k42 (w0 := w) w.heap.size (by rfl) (.tmp 45) (.tmp 47) 23 42 (.agg #[(.int .i64 0), (.int .i64 0), (.int .i64 0), (.int .i64 0), (.int .i64 0)]) 40 rfl Try.underlying23 info42 rfl (by decide) (by omega) v146 y145 y148 _ _ _ (fun k_ => some k_ ≠ (.slice Ao27 y148.length co27 : Value).ownBlock ∧ k_ ≠ gb135) (fun _ => False) rfl rfl ?aO ?aR (fun _ _ h => h) (fun _ h => h.elim) ?aF ?aB ?aS ?aL ?_
    (case aR => repeat (first | exact (Kd.R_reads' HO150.out).2.2 | (with_reducible refine Kd.C_alloc ?_ _) | (with_reducible refine Kd.C_drewN ?_ _) | (with_reducible refine Kd.C_drew ?_)))
    (case aB => exact (by repeat (first | (with_reducible first | exact HB.out | apply below_alloc | apply pw_below_drewN | apply below_drew1 | refine below_set ?_ GE135.out) | exact HB.out)))
    (case aF => exact (fun k_ hk => ⟨Kd.fresh' (Kd.R_lt (by (with_reducible repeat (first | apply Kd.R_alloc | apply Kd.R_drewN | apply Kd.R_drew)); exact HO150.out)) k_ hk, Kd.freshB (g := gb135) (o := .cells #[.int .i64 a5_0, .int .i64 a5_1, .int .i64 a5_2, .int .i64 a5_3, .int .i64 a5_4] 42 (0, 0)) (by (with_reducible repeat (first | refine blk_drewN ?_ _ | refine blk_drew ?_ | refine blk_alloc ?_ _)); exact BK135.out) k_ hk⟩))
    (case aO => exact (by (with_reducible repeat (first | apply Kd.R_alloc | apply Kd.R_drewN | apply Kd.R_drew)); exact HO147.out))
    (case aS => exact (below_size (by repeat (first | (with_reducible first | exact HB.out | apply below_alloc | apply pw_below_drewN | apply below_drew1 | refine below_set ?_ GE135.out) | exact HB.out))))
    (case aL => have := LMc12.out; omega)
    intro v152 w26 ho hb hg hat
    rw [← Ny151.out] at ho
    have n0_ := Aside0.mk (blk_grown (g := gb135) (o := .cells #[.int .i64 a5_0, .int .i64 a5_1, .int .i64 a5_2, .int .i64 a5_3, .int .i64 a5_4] 42 (0, 0)) (by (with_reducible repeat (first | refine blk_drewN ?_ _ | refine blk_drew ?_ | refine blk_alloc ?_ _)); exact BK135.out) hg (Kd.R_away HO147.out (fun _ hk => hk.2)))
    have n1_ := Aside0.mk (Kd.R_over' (by (with_reducible repeat (first | apply Kd.R_alloc | apply Kd.R_drewN | apply Kd.R_drew)); exact HO141.out) (Kd.R_typed (by (with_reducible repeat (first | apply Kd.R_alloc | apply Kd.R_drewN | apply Kd.R_drew)); exact HO147.out)) (by decide) hg)
    have n2_ := Aside0.mk (Kd.R_after (ok := (fun k_ => k_ ≠ gb135)) (by (with_reducible repeat (first | apply Kd.R_alloc | apply Kd.R_drewN | apply Kd.R_drew)); exact Kd.R_mono HO150.out (fun _ hk => ⟨hk.2, hk.1⟩)) hg hat)
    have n3_ := Aside0.mk (hb)
    have n4_ := Aside0.mk (ho)
    clear BK135
    clear HO141
    clear HO150
    clear HB
    clear HO147
    have BK135 := n0_
    have HO141 := n1_
    have HO150 := n2_
    have HB := n3_
    have HO153 := n4_
    clear n0_ n1_ n2_ n3_ n4_
    clear ho hb hg hat
    obtain ⟨Ao28, co28, eo28⟩ := Kd.R_slice HO153.out
    (first | subst eo28 | (injection eo28 with f1_ f2_ f3_; have f4_ := f1_.symm; have f5_ := f3_.symm; clear f1_ f2_ f3_; subst f4_; subst f5_))
    refine hK.out _ _ ⟨(blk_cell BK135.out 0).trans rfl, (blk_cell BK135.out 1).trans rfl, (blk_cell BK135.out 2).trans rfl, (blk_cell BK135.out 3).trans rfl, (blk_cell BK135.out 4).trans rfl⟩ (fun hHeld => ?_)
    clear hK K
    refine norm_ (a' := ?_) ?_ ?_
    rotate_left
    ·
     show Act.put _ (some 48) _ = _
     simp only [Act.put, List.setIfInBounds_toArray, List.set_cons_zero, List.set_cons_succ, i64_w, i32_w]
     rfl
    refine one_ (i := 10) (N := some 50) #[true, true, true, true, true, true, true, true, true, true, true, false, false, false, false, false] rfl rfl (one_of HT_.out (by kernel_rfl)) (by decide) (fun K hK => ?_)
    refine goes_ Try.func29 (by kernel_rfl) rfl #[.slice A0 l0.length c0, .slice A1 l1.length c1, .int .i64 a2, .slice Ao28 y151.length co28, .int .i64 a4] (by rfl) rfl rfl (by (try simp only [List.map_toArray, List.map_cons, List.map_nil]); first | done | rfl | (simp only [List.length_drop, List.length_take]; rfl)) ?_
    with_reducible refine (medium_Catch.calls k _ _ l0 _ _ l1 a2 _ _ y151 a4 t154 t155 _ ?side1 ?side2 ?side3 ?side4 ?side5 ?side6 A13.out).mono ?_
    (case side1 => repeat (first | exact (Kd.C_below HR0.out HB.out) | (with_reducible refine Kd.C_alloc ?_ _) | (with_reducible refine Kd.C_drewN ?_ _) | (with_reducible refine Kd.C_drew ?_)))
    (case side2 => exact HC0.out)
    (case side3 => repeat (first | exact (Kd.C_below HR1.out HB.out) | (with_reducible refine Kd.C_alloc ?_ _) | (with_reducible refine Kd.C_drewN ?_ _) | (with_reducible refine Kd.C_drew ?_)))
    (case side4 => exact HC1.out)
    (case side5 => repeat (first | exact (Kd.R_reads' HO153.out).2.2 | (with_reducible refine Kd.C_alloc ?_ _) | (with_reducible refine Kd.C_drewN ?_ _) | (with_reducible refine Kd.C_drew ?_)))
    (case side6 => exact (Kd.R_reads' HO153.out).2.1)
    rintro e w29 ⟨v156, rfl, ho0, hb⟩
    refine ⟨_, rfl, ?_⟩
    have n0_ := Aside0.mk (Kd.R_elder' (by (with_reducible repeat (first | apply Kd.R_alloc | apply Kd.R_drewN | apply Kd.R_drew)); exact HO141.out) (Kd.R_base ho0) hb)
    have n1_ := Aside0.mk (Kd.R_below (by (with_reducible repeat (first | apply Kd.R_alloc | apply Kd.R_drewN | apply Kd.R_drew)); exact HO150.out) hb)
    have n2_ := Aside0.mk (Kd.R_below (by (with_reducible repeat (first | apply Kd.R_alloc | apply Kd.R_drewN | apply Kd.R_drew)); exact HO153.out) hb)
    have n3_ := Aside0.mk (Kd.R_lower (Kd.R_new' ho0 (Kd.R_lt (by (with_reducible repeat (first | apply Kd.R_alloc | apply Kd.R_drewN | apply Kd.R_drew)); exact HO141.out))) (below_size (by repeat (first | (with_reducible first | exact HB.out | apply below_alloc | apply pw_below_drewN | apply below_drew1 | refine below_set ?_ GE135.out) | exact HB.out))))
    have n4_ := Aside0.mk (blk_below (g := gb135) (o := .cells #[.int .i64 a5_0, .int .i64 a5_1, .int .i64 a5_2, .int .i64 a5_3, .int .i64 a5_4] 42 (0, 0)) (by (with_reducible repeat (first | refine blk_drewN ?_ _ | refine blk_drew ?_ | refine blk_alloc ?_ _)); exact BK135.out) hb)
    have n5_ := Aside0.mk (below_step (by repeat (first | (with_reducible first | exact HB.out | apply below_alloc | apply pw_below_drewN | apply below_drew1 | refine below_set ?_ GE135.out) | exact HB.out)) hb)
    clear HO141
    clear HO150
    clear HO153
    clear BK135
    clear HB
    have HO141 := n0_
    have HO150 := n1_
    have HO153 := n2_
    have HO157 := n3_
    have BK135 := n4_
    have HB := n5_
    clear n0_ n1_ n2_ n3_ n4_ n5_
    (try clear hb)
    (try clear hb2)
    (try clear hk)
    (try clear hi)
    (try clear ho0)
    refine hK.out _ _ ⟨(blk_cell BK135.out 0).trans rfl, (blk_cell BK135.out 1).trans rfl, (blk_cell BK135.out 2).trans rfl, (blk_cell BK135.out 3).trans rfl, (blk_cell BK135.out 4).trans rfl⟩ (fun hHeld => ?_)
    clear hK K
    refine norm_ (a' := ?_) ?_ ?_
    rotate_left
    ·
     show Act.put _ (some 50) _ = _
     simp only [Act.put, List.setIfInBounds_toArray, List.set_cons_zero, List.set_cons_succ, i64_w, i32_w]
     rfl
    refine pure_ (i := 11) (N := some 39) (v := ?_) (a' := ?_) #[true, true, true, true, true, true, true, true, true, true, true, true, false, false, false, false] rfl rfl (any_of HT_.out (by kernel_rfl)) (fun _ _ _ h => h) (Or.inl ⟨by rfl, ?_⟩) ?_ ?_
    rotate_left
    ·
     intro w'
     go_simp
     with_reducible rfl
    rotate_left
    ·
     simp only [Act.put, List.setIfInBounds_toArray, List.set_cons_zero, List.set_cons_succ, i64_w, i32_w]
     rfl
    refine pure_ (i := 12) (N := some 51) (v := ?_) (a' := ?_) #[true, true, true, true, true, true, true, true, true, true, true, true, true, false, false, false] rfl rfl (any_of HT_.out (by kernel_rfl)) (fun _ _ _ h => h) (Or.inl ⟨by rfl, ?_⟩) ?_ ?_
    rotate_left
    ·
     intro w'
     go_simp
     with_reducible rfl
    rotate_left
    ·
     simp only [Act.put, List.setIfInBounds_toArray, List.set_cons_zero, List.set_cons_succ, i64_w, i32_w]
     rfl
    refine pure_ (i := 13) (N := some 52) (v := ?_) (a' := ?_) #[true, true, true, true, true, true, true, true, true, true, true, true, true, true, false, false] rfl rfl (any_of HT_.out (by kernel_rfl)) (fun _ _ _ h => h) (Or.inl ⟨by rfl, ?_⟩) ?_ ?_
    rotate_left
    ·
     intro w'
     go_simp
     with_reducible rfl
    rotate_left
    ·
     simp only [Act.put, List.setIfInBounds_toArray, List.set_cons_zero, List.set_cons_succ, i64_w, i32_w]
     rfl
    refine pure_ (i := 14) (N := some 16) (v := ?_) (a' := ?_) #[true, true, true, true, true, true, true, true, true, true, true, true, true, true, true, false] rfl rfl (any_of HT_.out (by kernel_rfl)) (fun _ _ _ h => h) (Or.inl ⟨by rfl, ?_⟩) ?_ ?_
    rotate_left
    ·
     intro w'
     go_simp
     with_reducible rfl
    rotate_left
    ·
     simp only [Act.put, List.setIfInBounds_toArray, List.set_cons_zero, List.set_cons_succ, i64_w, i32_w]
     rfl
    refine pure_ (i := 15) (N := some 17) (v := ?_) (a' := ?_) #[true, true, true, true, true, true, true, true, true, true, true, true, true, true, true, true] rfl rfl (any_of HT_.out (by kernel_rfl)) (fun _ _ _ h => h) (Or.inl ⟨by rfl, ?_⟩) ?_ ?_
    rotate_left
    ·
     intro w'
     go_simp
     with_reducible rfl
    rotate_left
    ·
     simp only [Act.put, List.setIfInBounds_toArray, List.set_cons_zero, List.set_cons_succ, i64_w, i32_w]
     rfl
    refine done_ (done_of HT_.out (by kernel_rfl)) ?_
    go_upto_region 6 with (fail)
    go_cut [72] (fun v72 wc => ∃ (kq : Nat) (x72_13 : Bool), v72 = .bool x72_13 ∧ Aside0 (slotmeshlaw17_MediumJams.j0 kq l0 l1 a4 t136 t138 t154 x72_13 a5_0 a5_1 a5_2 a5_3 a5_4 = some r) ∧ Aside0 (kq ≤ k) ∧ Aside0 (Kd.R (Kd.int .i64) 3 wc w.heap.size (fun k_ => some k_ ≠ (v156 : Value).ownBlock) v140 t138) ∧ Aside0 (Kd.R (Kd.int .i64) 3 wc w.heap.size (fun k_ => some k_ ≠ (v140 : Value).ownBlock) v156 t154) ∧ Aside0 (wc.heap[gb135]? = some (.cells #[.int .i64 a5_0, .int .i64 a5_1, .int .i64 a5_2, .int .i64 a5_3, .int .i64 a5_4] 42 (0, 0))) ∧ Aside0 (Below w.heap.size w wc))
    case first =>
     have H := HC14.out
     clear HC14
     by_cases c30 : t139 = 0
     ·
      rw [if_pos c30] at H
      have c30b0 : (t139 == 0) = true := beq_iff_eq.mpr c30
      have c30b1 : (t139 != 0) = false := bne_eq_false_iff_eq.mpr c30
      clear c30
      (first | rw [c30b0] | (simp only [i64_w, i32_w]; rw [c30b0]) | skip)
      by_cases c31 : t155 = 0
      ·
       rw [if_pos c31] at H
       have c31b0 : (t155 == 0) = true := beq_iff_eq.mpr c31
       have c31b1 : (t155 != 0) = false := bne_eq_false_iff_eq.mpr c31
       clear c31
       by_cases c32 : (t138.length : Int) = (l0.length : Int)
       ·
        rw [if_pos c32] at H
        have c32b0 : ((t138.length : Int) == (l0.length : Int)) = true := beq_iff_eq.mpr c32
        have c32b1 : ((t138.length : Int) != (l0.length : Int)) = false := bne_eq_false_iff_eq.mpr c32
        have c32b2 : (t138.length == l0.length) = true := by first | simpa using c32 | (simp at c32 ⊢; omega)
        clear c32
        have H' := Aside0.mk H
        clear H
        obtain ⟨Ao33, co33, eo33⟩ := Kd.R_slice HO141.out
        subst eo33
        obtain ⟨Ao34, co34, eo34⟩ := Kd.R_slice HO157.out
        subst eo34
        go_wp2
        go_meet
        case rel => exact ⟨_, (((t154.length : Int) != (t138.length : Int))), (by first | rfl | (simp; done) | (simp [*]; done)), H', ⟨by first | omega | exact Nat.le_refl _⟩, ⟨by (with_reducible repeat (first | apply Kd.R_alloc | apply Kd.R_drewN | apply Kd.R_drew)); exact Kd.R_mono HO141.out (fun _ hk => hk.2)⟩, ⟨by (with_reducible repeat (first | apply Kd.R_alloc | apply Kd.R_drewN | apply Kd.R_drew)); exact Kd.R_mono HO157.out (fun _ hk => hk.2)⟩, ⟨by (with_reducible repeat (first | refine blk_drewN ?_ _ | refine blk_drew ?_ | refine blk_alloc ?_ _)); exact BK135.out⟩, ⟨by repeat (first | (with_reducible first | exact HB.out | apply below_alloc | apply pw_below_drewN | apply below_drew1 | refine below_set ?_ GE135.out) | exact HB.out)⟩⟩
       ·
        rw [if_neg c32] at H
        have c32b0 : ((t138.length : Int) == (l0.length : Int)) = false := beq_eq_false_iff_ne.mpr c32
        have c32b1 : ((t138.length : Int) != (l0.length : Int)) = true := bne_iff_ne.mpr c32
        have c32b2 : (t138.length == l0.length) = false := by first | simpa using c32 | (simp at c32 ⊢; omega)
        have H' := Aside0.mk H
        clear H
        obtain ⟨Ao35, co35, eo35⟩ := Kd.R_slice HO141.out
        subst eo35
        go_wp2
        go_meet
        case rel => exact ⟨_, (true), (by first | rfl | (simp; done) | (simp [*]; done)), H', ⟨by first | omega | exact Nat.le_refl _⟩, ⟨by (with_reducible repeat (first | apply Kd.R_alloc | apply Kd.R_drewN | apply Kd.R_drew)); exact Kd.R_mono HO141.out (fun _ hk => hk.2)⟩, ⟨by (with_reducible repeat (first | apply Kd.R_alloc | apply Kd.R_drewN | apply Kd.R_drew)); exact Kd.R_mono HO157.out (fun _ hk => hk.2)⟩, ⟨by (with_reducible repeat (first | refine blk_drewN ?_ _ | refine blk_drew ?_ | refine blk_alloc ?_ _)); exact BK135.out⟩, ⟨by repeat (first | (with_reducible first | exact HB.out | apply below_alloc | apply pw_below_drewN | apply below_drew1 | refine below_set ?_ GE135.out) | exact HB.out)⟩⟩
      ·
       rw [if_neg c31] at H
       have c31b0 : (t155 == 0) = false := beq_eq_false_iff_ne.mpr c31
       have c31b1 : (t155 != 0) = true := bne_iff_ne.mpr c31
       have H' := Aside0.mk H
       clear H
       go_wp2
       go_meet
       case rel => exact ⟨_, (true), (by first | rfl | (simp; done) | (simp [*]; done)), H', ⟨by first | omega | exact Nat.le_refl _⟩, ⟨by (with_reducible repeat (first | apply Kd.R_alloc | apply Kd.R_drewN | apply Kd.R_drew)); exact Kd.R_mono HO141.out (fun _ hk => hk.2)⟩, ⟨by (with_reducible repeat (first | apply Kd.R_alloc | apply Kd.R_drewN | apply Kd.R_drew)); exact Kd.R_mono HO157.out (fun _ hk => hk.2)⟩, ⟨by (with_reducible repeat (first | refine blk_drewN ?_ _ | refine blk_drew ?_ | refine blk_alloc ?_ _)); exact BK135.out⟩, ⟨by repeat (first | (with_reducible first | exact HB.out | apply below_alloc | apply pw_below_drewN | apply below_drew1 | refine below_set ?_ GE135.out) | exact HB.out)⟩⟩
     ·
      rw [if_neg c30] at H
      have c30b0 : (t139 == 0) = false := beq_eq_false_iff_ne.mpr c30
      have c30b1 : (t139 != 0) = true := bne_iff_ne.mpr c30
      (first | rw [c30b0] | (simp only [i64_w, i32_w]; rw [c30b0]) | skip)
      have H' := Aside0.mk H
      clear H
      go_wp2
      go_meet
      case rel => exact ⟨_, (true), (by first | rfl | (simp; done) | (simp [*]; done)), H', ⟨by first | omega | exact Nat.le_refl _⟩, ⟨by (with_reducible repeat (first | apply Kd.R_alloc | apply Kd.R_drewN | apply Kd.R_drew)); exact Kd.R_mono HO141.out (fun _ hk => hk.2)⟩, ⟨by (with_reducible repeat (first | apply Kd.R_alloc | apply Kd.R_drewN | apply Kd.R_drew)); exact Kd.R_mono HO157.out (fun _ hk => hk.2)⟩, ⟨by (with_reducible repeat (first | refine blk_drewN ?_ _ | refine blk_drew ?_ | refine blk_alloc ?_ _)); exact BK135.out⟩, ⟨by repeat (first | (with_reducible first | exact HB.out | apply below_alloc | apply pw_below_drewN | apply below_drew1 | refine below_set ?_ GE135.out) | exact HB.out)⟩⟩
    case rest =>
     clear HC14
     try clear c1
     try clear c2
     try clear p2
     try clear c3
     try clear c5
     try clear c6
     try clear c9
     try clear c11
     try clear c12
     try clear c27
     try clear c28
     try clear c29
     try clear c30
     try clear c30b0
     try clear c30b1
     try clear c31
     try clear c31b0
     try clear c31b1
     try clear c32
     try clear c32b0
     try clear c32b1
     try clear c32b2
     obtain ⟨kq, x72_13, rfl, HA, HJ13, HO_14, HO_16, BK135, HB⟩ := hcut
     cases kq with
     | zero => exact absurd HA.out (by simp [slotmeshlaw17_MediumJams.j0])
     | succ kj13 =>
      have H := HA.out
      clear HA
      simp only [slotmeshlaw17_MediumJams.j0] at H
      by_cases c36 : x72_13 = true
      ·
       subst c36
       rw [if_pos rfl] at H
       exact absurd (Option.some.inj H) (by rw [HRT.out]; decide)
      ·
       replace c36 := Bool.eq_false_iff.mpr c36
       subst c36
       rw [if_neg (show ¬ (false = true) by decide)] at H
       have H' := Aside0.mk H
       clear H
       go_wp2
       go_loopg [75] kj13 (fun kq v75 w' => ∃ (x75_2 : Int), v75 = .int .i64 x75_2 ∧ Aside0 (slotmeshlaw17_MediumJams.l0 kq l1 a4 t136 t138 t154 l0 (l0.length : Int) x75_2 a5_0 a5_1 a5_2 a5_3 a5_4 = some r) ∧ Aside0 (kq ≤ kj13) ∧ Aside0 (Kd.R (Kd.int .i64) 3 w' w.heap.size (fun k_ => some k_ ≠ (v156 : Value).ownBlock) v140 t138) ∧ Aside0 (Kd.R (Kd.int .i64) 3 w' w.heap.size (fun k_ => some k_ ≠ (v140 : Value).ownBlock) v156 t154) ∧ Aside0 (w'.heap[gb135]? = some (.cells #[.int .i64 a5_0, .int .i64 a5_1, .int .i64 a5_2, .int .i64 a5_3, .int .i64 a5_4] 42 (0, 0))) ∧ Aside0 (Below w.heap.size w w'))
       case atStart => exact ⟨(0), (by first | rfl | (simp; done) | (simp [*]; done)), H', ⟨Nat.le_refl _⟩, ⟨by (with_reducible repeat (first | apply Kd.R_alloc | apply Kd.R_drewN | apply Kd.R_drew)); exact HO_14.out⟩, ⟨by (with_reducible repeat (first | apply Kd.R_alloc | apply Kd.R_drewN | apply Kd.R_drew)); exact HO_16.out⟩, ⟨by (with_reducible repeat (first | refine blk_drewN ?_ _ | refine blk_drew ?_ | refine blk_alloc ?_ _)); exact BK135.out⟩, ⟨by repeat (first | (with_reducible first | exact HB.out | apply below_alloc | apply pw_below_drewN | apply below_drew1 | refine below_set ?_ GE135.out) | exact HB.out)⟩⟩
       case round =>
        clear H'
        try clear c1
        try clear c2
        try clear p2
        try clear c3
        try clear c5
        try clear c6
        try clear c9
        try clear c11
        try clear c12
        try clear c27
        try clear c28
        try clear c29
        try clear c30
        try clear c30b0
        try clear c30b1
        try clear c31
        try clear c31b0
        try clear c31b1
        try clear c32
        try clear c32b0
        try clear c32b1
        try clear c32b2
        try clear c36
        try clear p2
        obtain ⟨x75_2, rfl, HA, HK2, HO_14, HO_16, BK135, HB⟩ := hrel
        cases gk with
        | zero => exact absurd HA.out (by simp [slotmeshlaw17_MediumJams.l0])
        | succ k2 =>
         have H := HA.out
         clear HA
         simp only [slotmeshlaw17_MediumJams.l0] at H
         by_cases c37 : x75_2 < (l0.length : Int)
         ·
          rw [if_pos c37] at H
          have c37b0 : decide (x75_2 < (l0.length : Int)) = true := decide_eq_true c37
          clear c37
          by_cases c38 : 0 ≤ x75_2
          ·
           rw [if_pos c38] at H
           have c38b0 : decide (0 ≤ x75_2) = true := decide_eq_true c38
           clear c38
           by_cases c39 : x75_2 < (l0.length : Int)
           ·
            rw [if_pos c39] at H
            have c39b0 : decide (x75_2 < (l0.length : Int)) = true := decide_eq_true c39
            clear c39
            by_cases c40 : ((rd_T50 l0 x75_2).f0) = 1
            ·
             rw [if_pos c40] at H
             have c40b0 : (((rd_T50 l0 x75_2).f0) == 1) = true := beq_iff_eq.mpr c40
             have c40b1 : (((rd_T50 l0 x75_2).f0) != 1) = false := bne_eq_false_iff_eq.mpr c40
             clear c40
             obtain ⟨y160, hy160⟩ : ∃ y_ : List (S42), y_ = (([(⟨(⟨a5_0, a5_1⟩ : S25), a5_2, a5_3, a5_4⟩ : S42)] : List (S42))) := ⟨_, rfl⟩
             rw [← hy160] at H
             have Ny160 := Aside0.mk hy160
             clear hy160
             by_cases c41 : x75_2 < (l1.length : Int)
             ·
              rw [if_pos c41] at H
              have c41b0 : decide (x75_2 < (l1.length : Int)) = true := decide_eq_true c41
              clear c41
              replace H := Option.bind_eq_some_iff.mp H
              obtain ⟨t164, A420, H⟩ := H
              try dsimp only at H
              have A42 := Aside0.mk A420
              clear A420
              by_cases c43 : t164 = true
              ·
               subst c43
               rw [if_pos rfl] at H
               by_cases c44 : x75_2 < (t154.length : Int)
               ·
                rw [if_pos c44] at H
                have c44b0 : decide (x75_2 < (t154.length : Int)) = true := decide_eq_true c44
                clear c44
                by_cases c45 : (rd t154 x75_2) = (-2)
                ·
                 rw [if_pos c45] at H
                 have c45b0 : ((rd t154 x75_2) == (-2)) = true := beq_iff_eq.mpr c45
                 have c45b1 : ((rd t154 x75_2) != (-2)) = false := bne_eq_false_iff_eq.mpr c45
                 clear c45
                 have H' := Aside0.mk H
                 clear H
                 have p158 : 0 ≤ (x75_2 : Int) := of_decide_eq_true (by first | (with_reducible assumption) | assumption)
                 have q158 : x75_2 < (l0.length : Int) := of_decide_eq_true (by first | (with_reducible assumption) | assumption)
                 obtain ⟨ad158, e158, hx158_0, hx158_1, hx158_2, hx158_3, hx158_4⟩ := at_T50 HR0.out x75_2 p158 q158
                 cases e158
                 replace hx158_0 := (HB.out.cell (World.block_lt_of_cell? w _ hx158_0)).trans hx158_0
                 replace hx158_1 := (HB.out.cell (World.block_lt_of_cell? w _ hx158_1)).trans hx158_1
                 replace hx158_2 := (HB.out.cell (World.block_lt_of_cell? w _ hx158_2)).trans hx158_2
                 replace hx158_3 := (HB.out.cell (World.block_lt_of_cell? w _ hx158_3)).trans hx158_3
                 replace hx158_4 := (HB.out.cell (World.block_lt_of_cell? w _ hx158_4)).trans hx158_4
                 replace p158 := eq_true p158
                 replace q158 := eq_true q158
                 try go_wp2_with (first | ((with_reducible refine gate_dst (N := 19) rfl ?_); (try (refine gate_guard (by rfl) ?_; dsimp only)); refine box_event ?hg (N := 19) ?hd (cs := #[.int .i64 0, .int .i64 0, .int .i64 0, .int .i64 0, .int .i64 0]) (t := 50) ?hr ?_; (case hd => rfl); (case hg => rfl); (case hr => first | (go_simp; done) | (go_simp; rfl)); intro gb159 hg w46 hbox hb; have n0_ := Aside0.mk (Kd.R_below (by (with_reducible repeat (first | apply Kd.R_alloc | apply Kd.R_drewN | apply Kd.R_drew)); exact HO_14.out) hb); have n1_ := Aside0.mk (Kd.R_below (by (with_reducible repeat (first | apply Kd.R_alloc | apply Kd.R_drewN | apply Kd.R_drew)); exact HO_16.out) hb); have n2_ := Aside0.mk (blk_below (g := gb135) (o := .cells #[.int .i64 a5_0, .int .i64 a5_1, .int .i64 a5_2, .int .i64 a5_3, .int .i64 a5_4] 42 (0, 0)) (by (with_reducible repeat (first | refine blk_drewN ?_ _ | refine blk_drew ?_ | refine blk_alloc ?_ _)); exact BK135.out) hb); have n3_ := Aside0.mk (below_step (by repeat (first | (with_reducible first | exact HB.out | apply below_alloc | apply pw_below_drewN | apply below_drew1 | refine below_set ?_ GE135.out) | exact HB.out)) hb); have n4_ := Aside0.mk (hbox); have n5_ := Aside0.mk ((by rw [hg]; exact (below_size (by repeat (first | (with_reducible first | exact HB.out | apply below_alloc | apply pw_below_drewN | apply below_drew1 | refine below_set ?_ GE135.out) | exact HB.out))) : w.heap.size ≤ gb159)); have n6_ := Aside0.mk ((by rw [hg]; exact (below_size (by repeat (first | (with_reducible first | exact HB.out | apply below_alloc | apply pw_below_drewN | apply below_drew1 | refine below_set ?_ GE135.out) | exact HB.out))) : w.heap.size ≤ gb159)); have n7_ := Aside0.mk ((by rw [hg]; exact Nat.ne_of_lt (blk_lt (g := gb135) (o := .cells #[.int .i64 a5_0, .int .i64 a5_1, .int .i64 a5_2, .int .i64 a5_3, .int .i64 a5_4] 42 (0, 0)) (by (with_reducible repeat (first | refine blk_drewN ?_ _ | refine blk_drew ?_ | refine blk_alloc ?_ _)); exact BK135.out)) : gb135 ≠ gb159)); have n8_ := Aside0.mk ((by rw [hg]; exact Nat.ne_of_gt (blk_lt (g := gb135) (o := .cells #[.int .i64 a5_0, .int .i64 a5_1, .int .i64 a5_2, .int .i64 a5_3, .int .i64 a5_4] 42 (0, 0)) (by (with_reducible repeat (first | refine blk_drewN ?_ _ | refine blk_drew ?_ | refine blk_alloc ?_ _)); exact BK135.out)) : gb159 ≠ gb135)); clear HO_14; clear HO_16; clear BK135; clear HB; have HO_14 := n0_; have HO_16 := n1_; have BK135 := n2_; have HB := n3_; have BK159 := n4_; have GW159 := n5_; have GE159 := n6_; have NB135_159 := n7_; have NB159_135 := n8_; clear n0_ n1_ n2_ n3_ n4_ n5_ n6_ n7_ n8_; clear hb hbox hg; have hnb47 := NB159_135.out; have hnc47 := NB135_159.out; have hcz48_0 : w46.cell? ⟨gb159, 0, none⟩ = some (.int .i64 0) := (blk_cell BK159.out 0).trans rfl; have hcz48_1 : w46.cell? ⟨gb159, 1, none⟩ = some (.int .i64 0) := (blk_cell BK159.out 1).trans rfl; have hcz48_2 : w46.cell? ⟨gb159, 2, none⟩ = some (.int .i64 0) := (blk_cell BK159.out 2).trans rfl; have hcz48_3 : w46.cell? ⟨gb159, 3, none⟩ = some (.int .i64 0) := (blk_cell BK159.out 3).trans rfl; have hcz48_4 : w46.cell? ⟨gb159, 4, none⟩ = some (.int .i64 0) := (blk_cell BK159.out 4).trans rfl; have hfz48_0 := blk_frozen BK159.out 0; have hfz48_1 := blk_frozen BK159.out 1; have hfz48_2 := blk_frozen BK159.out 2; have hfz48_3 := blk_frozen BK159.out 3; have hfz48_4 := blk_frozen BK159.out 4))
                 have n0_ : Aside0 (Kd.R (Kd.int .i64) 3 (((((w46.setCell ⟨gb159, 0, none⟩ (.int .i64 ((rd_T50 l0 x75_2).f0))).setCell ⟨gb159, 1, none⟩ (.int .i64 ((rd_T50 l0 x75_2).f1))).setCell ⟨gb159, 2, none⟩ (.int .i64 ((rd_T50 l0 x75_2).f2))).setCell ⟨gb159, 3, none⟩ (.int .i64 ((rd_T50 l0 x75_2).f3.f0))).setCell ⟨gb159, 4, none⟩ (.int .i64 ((rd_T50 l0 x75_2).f3.f1))) w.heap.size (fun k_ => some k_ ≠ (v156 : Value).ownBlock) v140 t138) := ⟨by (with_reducible repeat (first | apply Kd.R_alloc | apply Kd.R_drewN | apply Kd.R_drew)); exact Kd.R_mono (Kd.R_far (p := ⟨gb159, 4, none⟩) (Kd.R_far (p := ⟨gb159, 3, none⟩) (Kd.R_far (p := ⟨gb159, 2, none⟩) (Kd.R_far (p := ⟨gb159, 1, none⟩) (Kd.R_far (p := ⟨gb159, 0, none⟩) (Kd.R_types HO_14.out BK159.out (by decide)) (fun _ hk => hk.2) (.int .i64 ((rd_T50 l0 x75_2).f0))) (fun _ hk => hk.2) (.int .i64 ((rd_T50 l0 x75_2).f1))) (fun _ hk => hk.2) (.int .i64 ((rd_T50 l0 x75_2).f2))) (fun _ hk => hk.2) (.int .i64 ((rd_T50 l0 x75_2).f3.f0))) (fun _ hk => hk.2) (.int .i64 ((rd_T50 l0 x75_2).f3.f1))) (fun _ hk => hk.1)⟩
                 have n1_ : Aside0 (Kd.R (Kd.int .i64) 3 (((((w46.setCell ⟨gb159, 0, none⟩ (.int .i64 ((rd_T50 l0 x75_2).f0))).setCell ⟨gb159, 1, none⟩ (.int .i64 ((rd_T50 l0 x75_2).f1))).setCell ⟨gb159, 2, none⟩ (.int .i64 ((rd_T50 l0 x75_2).f2))).setCell ⟨gb159, 3, none⟩ (.int .i64 ((rd_T50 l0 x75_2).f3.f0))).setCell ⟨gb159, 4, none⟩ (.int .i64 ((rd_T50 l0 x75_2).f3.f1))) w.heap.size (fun k_ => some k_ ≠ (v140 : Value).ownBlock) v156 t154) := ⟨by (with_reducible repeat (first | apply Kd.R_alloc | apply Kd.R_drewN | apply Kd.R_drew)); exact Kd.R_mono (Kd.R_far (p := ⟨gb159, 4, none⟩) (Kd.R_far (p := ⟨gb159, 3, none⟩) (Kd.R_far (p := ⟨gb159, 2, none⟩) (Kd.R_far (p := ⟨gb159, 1, none⟩) (Kd.R_far (p := ⟨gb159, 0, none⟩) (Kd.R_types HO_16.out BK159.out (by decide)) (fun _ hk => hk.2) (.int .i64 ((rd_T50 l0 x75_2).f0))) (fun _ hk => hk.2) (.int .i64 ((rd_T50 l0 x75_2).f1))) (fun _ hk => hk.2) (.int .i64 ((rd_T50 l0 x75_2).f2))) (fun _ hk => hk.2) (.int .i64 ((rd_T50 l0 x75_2).f3.f0))) (fun _ hk => hk.2) (.int .i64 ((rd_T50 l0 x75_2).f3.f1))) (fun _ hk => hk.1)⟩
                 have n2_ : Aside0 ((((((w46.setCell ⟨gb159, 0, none⟩ (.int .i64 ((rd_T50 l0 x75_2).f0))).setCell ⟨gb159, 1, none⟩ (.int .i64 ((rd_T50 l0 x75_2).f1))).setCell ⟨gb159, 2, none⟩ (.int .i64 ((rd_T50 l0 x75_2).f2))).setCell ⟨gb159, 3, none⟩ (.int .i64 ((rd_T50 l0 x75_2).f3.f0))).setCell ⟨gb159, 4, none⟩ (.int .i64 ((rd_T50 l0 x75_2).f3.f1))).heap[gb135]? = some (.cells #[.int .i64 a5_0, .int .i64 a5_1, .int .i64 a5_2, .int .i64 a5_3, .int .i64 a5_4] 42 (0, 0))) := ⟨by (with_reducible repeat (first | refine blk_drewN ?_ _ | refine blk_drew ?_ | refine blk_alloc ?_ _)); refine blk_far ?_ NB135_159.out _; (with_reducible repeat (first | refine blk_drewN ?_ _ | refine blk_drew ?_ | refine blk_alloc ?_ _)); refine blk_far ?_ NB135_159.out _; (with_reducible repeat (first | refine blk_drewN ?_ _ | refine blk_drew ?_ | refine blk_alloc ?_ _)); refine blk_far ?_ NB135_159.out _; (with_reducible repeat (first | refine blk_drewN ?_ _ | refine blk_drew ?_ | refine blk_alloc ?_ _)); refine blk_far ?_ NB135_159.out _; (with_reducible repeat (first | refine blk_drewN ?_ _ | refine blk_drew ?_ | refine blk_alloc ?_ _)); refine blk_far ?_ NB135_159.out _; (with_reducible repeat (first | refine blk_drewN ?_ _ | refine blk_drew ?_ | refine blk_alloc ?_ _)); exact BK135.out⟩
                 have n3_ : Aside0 ((((((w46.setCell ⟨gb159, 0, none⟩ (.int .i64 ((rd_T50 l0 x75_2).f0))).setCell ⟨gb159, 1, none⟩ (.int .i64 ((rd_T50 l0 x75_2).f1))).setCell ⟨gb159, 2, none⟩ (.int .i64 ((rd_T50 l0 x75_2).f2))).setCell ⟨gb159, 3, none⟩ (.int .i64 ((rd_T50 l0 x75_2).f3.f0))).setCell ⟨gb159, 4, none⟩ (.int .i64 ((rd_T50 l0 x75_2).f3.f1))).heap[gb159]? = some (.cells #[.int .i64 ((rd_T50 l0 x75_2).f0), .int .i64 ((rd_T50 l0 x75_2).f1), .int .i64 ((rd_T50 l0 x75_2).f2), .int .i64 ((rd_T50 l0 x75_2).f3.f0), .int .i64 ((rd_T50 l0 x75_2).f3.f1)] 50 (0, 0))) := ⟨by (with_reducible repeat (first | refine blk_drewN ?_ _ | refine blk_drew ?_ | refine blk_alloc ?_ _)); refine blk_put (cs := #[.int .i64 ((rd_T50 l0 x75_2).f0), .int .i64 ((rd_T50 l0 x75_2).f1), .int .i64 ((rd_T50 l0 x75_2).f2), .int .i64 ((rd_T50 l0 x75_2).f3.f0), .int .i64 0]) ?_ 4 _ rfl; (with_reducible repeat (first | refine blk_drewN ?_ _ | refine blk_drew ?_ | refine blk_alloc ?_ _)); refine blk_put (cs := #[.int .i64 ((rd_T50 l0 x75_2).f0), .int .i64 ((rd_T50 l0 x75_2).f1), .int .i64 ((rd_T50 l0 x75_2).f2), .int .i64 0, .int .i64 0]) ?_ 3 _ rfl; (with_reducible repeat (first | refine blk_drewN ?_ _ | refine blk_drew ?_ | refine blk_alloc ?_ _)); refine blk_put (cs := #[.int .i64 ((rd_T50 l0 x75_2).f0), .int .i64 ((rd_T50 l0 x75_2).f1), .int .i64 0, .int .i64 0, .int .i64 0]) ?_ 2 _ rfl; (with_reducible repeat (first | refine blk_drewN ?_ _ | refine blk_drew ?_ | refine blk_alloc ?_ _)); refine blk_put (cs := #[.int .i64 ((rd_T50 l0 x75_2).f0), .int .i64 0, .int .i64 0, .int .i64 0, .int .i64 0]) ?_ 1 _ rfl; (with_reducible repeat (first | refine blk_drewN ?_ _ | refine blk_drew ?_ | refine blk_alloc ?_ _)); refine blk_put (cs := #[.int .i64 0, .int .i64 0, .int .i64 0, .int .i64 0, .int .i64 0]) ?_ 0 _ rfl; (with_reducible repeat (first | refine blk_drewN ?_ _ | refine blk_drew ?_ | refine blk_alloc ?_ _)); exact BK159.out⟩
                 have n4_ : Aside0 (Below w.heap.size w (((((w46.setCell ⟨gb159, 0, none⟩ (.int .i64 ((rd_T50 l0 x75_2).f0))).setCell ⟨gb159, 1, none⟩ (.int .i64 ((rd_T50 l0 x75_2).f1))).setCell ⟨gb159, 2, none⟩ (.int .i64 ((rd_T50 l0 x75_2).f2))).setCell ⟨gb159, 3, none⟩ (.int .i64 ((rd_T50 l0 x75_2).f3.f0))).setCell ⟨gb159, 4, none⟩ (.int .i64 ((rd_T50 l0 x75_2).f3.f1)))) := ⟨by repeat (first | (with_reducible first | exact HB.out | apply below_alloc | apply pw_below_drewN | apply below_drew1 | refine below_set ?_ GE135.out | refine below_set ?_ GE159.out) | exact HB.out)⟩
                 (try clear HO_14)
                 (try clear HO_16)
                 (try clear BK135)
                 (try clear BK159)
                 (try clear HB)
                 generalize (((((w46.setCell ⟨gb159, 0, none⟩ (.int .i64 ((rd_T50 l0 x75_2).f0))).setCell ⟨gb159, 1, none⟩ (.int .i64 ((rd_T50 l0 x75_2).f1))).setCell ⟨gb159, 2, none⟩ (.int .i64 ((rd_T50 l0 x75_2).f2))).setCell ⟨gb159, 3, none⟩ (.int .i64 ((rd_T50 l0 x75_2).f3.f0))).setCell ⟨gb159, 4, none⟩ (.int .i64 ((rd_T50 l0 x75_2).f3.f1))) = w49 at n0_ n1_ n2_ n3_ n4_ ⊢
                 have HO_14 := n0_
                 have HO_16 := n1_
                 have BK135 := n2_
                 have BK159 := n3_
                 have HB := n4_
                 clear n0_ n1_ n2_ n3_ n4_
                 have n0_ := Aside0.mk (Kd.R_drew HO_14.out)
                 have n1_ := Aside0.mk (Kd.R_drew HO_16.out)
                 have n2_ := Aside0.mk (blk_drew BK135.out)
                 have n3_ := Aside0.mk (blk_drew BK159.out)
                 have n4_ := Aside0.mk (below_drew1 HB.out)
                 clear HO_14
                 clear HO_16
                 clear BK135
                 clear BK159
                 clear HB
                 have HO_14 := n0_
                 have HO_16 := n1_
                 have BK135 := n2_
                 have BK159 := n3_
                 have HB := n4_
                 clear n0_ n1_ n2_ n3_ n4_
                 have p163 : 0 ≤ (x75_2 : Int) := of_decide_eq_true (by first | (with_reducible assumption) | assumption)
                 have q163 : x75_2 < (l1.length : Int) := of_decide_eq_true (by first | (with_reducible assumption) | assumption)
                 obtain ⟨ad163, e163, hx163_0, hx163_1⟩ := at_T25 HR1.out x75_2 p163 q163
                 have hw163_1 := hx163_1
                 have hw163_0 := hx163_0
                 cases e163
                 replace hx163_0 := (HB.out.cell (World.block_lt_of_cell? w _ hx163_0)).trans hx163_0
                 replace hx163_1 := (HB.out.cell (World.block_lt_of_cell? w _ hx163_1)).trans hx163_1
                 replace p163 := eq_true p163
                 replace q163 := eq_true q163
                 refine start_ (n := 16) (S := fun w' => w'.cell? ⟨gb159, 0, none⟩ = some (.int .i64 ((rd_T50 l0 x75_2).f0)) ∧ w'.cell? ⟨gb159, 1, none⟩ = some (.int .i64 ((rd_T50 l0 x75_2).f1)) ∧ w'.cell? ⟨gb159, 2, none⟩ = some (.int .i64 ((rd_T50 l0 x75_2).f2)) ∧ w'.cell? ⟨gb159, 3, none⟩ = some (.int .i64 ((rd_T50 l0 x75_2).f3.f0)) ∧ w'.cell? ⟨gb159, 4, none⟩ = some (.int .i64 ((rd_T50 l0 x75_2).f3.f1)) ∧ w'.cell? ⟨gb135, 0, none⟩ = some (.int .i64 a5_0) ∧ w'.cell? ⟨gb135, 1, none⟩ = some (.int .i64 a5_1) ∧ w'.cell? ⟨gb135, 2, none⟩ = some (.int .i64 a5_2) ∧ w'.cell? ⟨gb135, 3, none⟩ = some (.int .i64 a5_3) ∧ w'.cell? ⟨gb135, 4, none⟩ = some (.int .i64 a5_4) ∧ w'.cell? (ad163.add ((x75_2).toNat * 2)) = some (.int .i64 ((rd_T25 l1 x75_2).f0)) ∧ w'.cell? ⟨(ad163.add ((x75_2).toNat * 2)).block, (ad163.add ((x75_2).toNat * 2)).off + 1, none⟩ = some (.int .i64 ((rd_T25 l1 x75_2).f1))) (ds := []) #[false, false, false, false, false, false, false, false, false, false, false, false, false, false, false, false] (by kernel_rfl) rfl rfl ⟨(blk_cell BK159.out 0).trans rfl, (blk_cell BK159.out 1).trans rfl, (blk_cell BK159.out 2).trans rfl, (blk_cell BK159.out 3).trans rfl, (blk_cell BK159.out 4).trans rfl, (blk_cell BK135.out 0).trans rfl, (blk_cell BK135.out 1).trans rfl, (blk_cell BK135.out 2).trans rfl, (blk_cell BK135.out 3).trans rfl, (blk_cell BK135.out 4).trans rfl, ((HB.out.cell (World.block_lt_of_cell? w _ hw163_0)).trans hw163_0), ((HB.out.cell (World.block_lt_of_cell? w _ hw163_1)).trans hw163_1)⟩ (fun hHeld => ?_); refine with_tabW slotmeshlaw17_MediumJams.tab11 slotmeshlaw17_MediumJams.bits11 (fun HT_ HW_ => ?_)
                 generalize w49.drew = w50 at HO_14 HO_16 BK135 BK159 HB hx163_0 hx163_1 hHeld ⊢
                 refine pure_ (i := 0) (N := some 80) (v := ?_) (a' := ?_) #[true, false, false, false, false, false, false, false, false, false, false, false, false, false, false, false] rfl rfl (any_of HT_.out (by kernel_rfl)) (fun _ _ _ h => h) (Or.inl ⟨by rfl, ?_⟩) ?_ ?_
                 rotate_left
                 ·
                  intro w'
                  go_simp
                  with_reducible rfl
                 rotate_left
                 ·
                  simp only [Act.put, List.setIfInBounds_toArray, List.set_cons_zero, List.set_cons_succ, i64_w, i32_w]
                  rfl
                 refine take_ (i := 1) (N := some 81) (v := ?_) (a' := ?_) #[true, true, false, false, false, false, false, false, false, false, false, false, false, false, false, false] rfl rfl (take_ofW HT_.out HW_.out (by kernel_rfl)) (fun _ _ _ h => h) (Or.inl ⟨by rfl, ?_⟩) hHeld ?_ ?_
                 rotate_left
                 ·
                  rintro w' ⟨s0, s1, s2, s3, s4, s5, s6, s7, s8, s9, s10, s11⟩
                  go_simp
                  with_reducible rfl
                 rotate_left
                 ·
                  simp only [Act.put, List.setIfInBounds_toArray, List.set_cons_zero, List.set_cons_succ, i64_w, i32_w]
                  rfl
                 refine pure_ (i := 2) (N := some 82) (v := ?_) (a' := ?_) #[true, true, true, false, false, false, false, false, false, false, false, false, false, false, false, false] rfl rfl (any_of HT_.out (by kernel_rfl)) (fun _ _ _ h => h) (Or.inl ⟨by rfl, ?_⟩) ?_ ?_
                 rotate_left
                 ·
                  intro w'
                  go_simp
                  with_reducible rfl
                 rotate_left
                 ·
                  simp only [Act.put, List.setIfInBounds_toArray, List.set_cons_zero, List.set_cons_succ, i64_w, i32_w]
                  rfl
                 refine pure_ (i := 3) (N := some 83) (v := ?_) (a' := ?_) #[true, true, true, true, false, false, false, false, false, false, false, false, false, false, false, false] rfl rfl (any_of HT_.out (by kernel_rfl)) (fun _ _ _ h => h) (Or.inl ⟨by rfl, ?_⟩) ?_ ?_
                 rotate_left
                 ·
                  intro w'
                  go_simp
                  with_reducible rfl
                 rotate_left
                 ·
                  simp only [Act.put, List.setIfInBounds_toArray, List.set_cons_zero, List.set_cons_succ, i64_w, i32_w]
                  rfl
                 refine pure_ (i := 6) (N := some 86) (v := ?_) (a' := ?_) #[true, true, true, true, false, false, true, false, false, false, false, false, false, false, false, false] rfl rfl (any_of HT_.out (by kernel_rfl)) (fun _ _ _ h => h) (Or.inl ⟨by rfl, ?_⟩) ?_ ?_
                 rotate_left
                 ·
                  intro w'
                  go_simp
                  with_reducible rfl
                 rotate_left
                 ·
                  simp only [Act.put, List.setIfInBounds_toArray, List.set_cons_zero, List.set_cons_succ, i64_w, i32_w]
                  rfl
                 refine pure_ (i := 7) (N := some 87) (v := ?_) (a' := ?_) #[true, true, true, true, false, false, true, true, false, false, false, false, false, false, false, false] rfl rfl (any_of HT_.out (by kernel_rfl)) (fun _ _ _ h => h) (Or.inl ⟨by rfl, ?_⟩) ?_ ?_
                 rotate_left
                 ·
                  intro w'
                  go_simp
                  with_reducible rfl
                 rotate_left
                 ·
                  simp only [Act.put, List.setIfInBounds_toArray, List.set_cons_zero, List.set_cons_succ, i64_w, i32_w]
                  rfl
                 refine pure_ (i := 8) (N := some 88) (v := ?_) (a' := ?_) #[true, true, true, true, false, false, true, true, true, false, false, false, false, false, false, false] rfl rfl (any_of HT_.out (by kernel_rfl)) (fun _ _ _ h => h) (Or.inl ⟨by rfl, ?_⟩) ?_ ?_
                 rotate_left
                 ·
                  intro w'
                  go_simp
                  with_reducible rfl
                 rotate_left
                 ·
                  simp only [Act.put, List.setIfInBounds_toArray, List.set_cons_zero, List.set_cons_succ, i64_w, i32_w]
                  rfl
                 refine pure_ (i := 10) (N := some 90) (v := ?_) (a' := ?_) #[true, true, true, true, false, false, true, true, true, false, true, false, false, false, false, false] rfl rfl (any_of HT_.out (by kernel_rfl)) (fun _ _ _ h => h) (Or.inl ⟨by rfl, ?_⟩) ?_ ?_
                 rotate_left
                 ·
                  intro w'
                  go_simp
                  with_reducible rfl
                 rotate_left
                 ·
                  simp only [Act.put, List.setIfInBounds_toArray, List.set_cons_zero, List.set_cons_succ, i64_w, i32_w]
                  rfl
                 refine pure_ (i := 12) (N := some 92) (v := ?_) (a' := ?_) #[true, true, true, true, false, false, true, true, true, false, true, false, true, false, false, false] rfl rfl (any_of HT_.out (by kernel_rfl)) (fun _ _ _ h => h) (Or.inl ⟨by rfl, ?_⟩) ?_ ?_
                 rotate_left
                 ·
                  intro w'
                  go_simp
                  with_reducible rfl
                 rotate_left
                 ·
                  simp only [Act.put, List.setIfInBounds_toArray, List.set_cons_zero, List.set_cons_succ, i64_w, i32_w]
                  rfl
                 refine take_ (i := 4) (N := some 84) (v := ?_) (a' := ?_) #[true, true, true, true, true, false, true, true, true, false, true, false, true, false, false, false] rfl rfl (take_ofW HT_.out HW_.out (by kernel_rfl)) (fun _ _ _ h => h) (Or.inl ⟨by rfl, ?_⟩) hHeld ?_ ?_
                 rotate_left
                 ·
                  rintro w' ⟨s0, s1, s2, s3, s4, s5, s6, s7, s8, s9, s10, s11⟩
                  go_simp
                  with_reducible rfl
                 rotate_left
                 ·
                  simp only [Act.put, List.setIfInBounds_toArray, List.set_cons_zero, List.set_cons_succ, i64_w, i32_w]
                  rfl
                 refine take_ (i := 9) (N := some 89) (v := ?_) (a' := ?_) #[true, true, true, true, true, false, true, true, true, true, true, false, true, false, false, false] rfl rfl (take_ofW HT_.out HW_.out (by kernel_rfl)) (fun _ _ _ h => h) (Or.inl ⟨by rfl, ?_⟩) hHeld ?_ ?_
                 rotate_left
                 ·
                  rintro w' ⟨s0, s1, s2, s3, s4, s5, s6, s7, s8, s9, s10, s11⟩
                  go_simp
                  with_reducible rfl
                 rotate_left
                 ·
                  simp only [Act.put, List.setIfInBounds_toArray, List.set_cons_zero, List.set_cons_succ, i64_w, i32_w]
                  rfl
                 refine take_ (i := 11) (N := some 91) (v := ?_) (a' := ?_) #[true, true, true, true, true, false, true, true, true, true, true, true, true, false, false, false] rfl rfl (take_ofW HT_.out HW_.out (by kernel_rfl)) (fun _ _ _ h => h) (Or.inl ⟨by rfl, ?_⟩) hHeld ?_ ?_
                 rotate_left
                 ·
                  rintro w' ⟨s0, s1, s2, s3, s4, s5, s6, s7, s8, s9, s10, s11⟩
                  go_simp
                  with_reducible rfl
                 rotate_left
                 ·
                  simp only [Act.put, List.setIfInBounds_toArray, List.set_cons_zero, List.set_cons_succ, i64_w, i32_w]
                  rfl
                 refine one_ (i := 5) (N := some 85) #[true, true, true, true, true, true, true, true, true, true, true, true, true, false, false, false] rfl rfl (one_of HT_.out (by kernel_rfl)) (by decide) (fun K hK => ?_)
                 refine Kd.R_lit_step k42 _ 42 ?hg (N := 85) ?hd (xs := ([(⟨(⟨a5_0, a5_1⟩ : S25), a5_2, a5_3, a5_4⟩ : S42)] : List (S42))) (inner := [.int .i64 a5_0, .int .i64 a5_1, .int .i64 a5_2, .int .i64 a5_3, .int .i64 a5_4]) (ok := fun _ => True) (okp := fun _ => True) ?hr ?hp (fun _ hk => hk) trivial (Below.refl _ _) (Nat.le_refl _) (by simp) ?_; (case hd => rfl); (case hg => rfl); (case hr => first | (go_simp; done) | (go_simp; rfl)); (case hp => exact (Reps.c5 (show Kd.M k42 _ _ _ (⟨(⟨a5_0, a5_1⟩ : S25), a5_2, a5_3, a5_4⟩ : S42) [.int .i64 a5_0, .int .i64 a5_1, .int .i64 a5_2, .int .i64 a5_3, .int .i64 a5_4] from (k42_mkM _ _ _ (⟨(⟨a5_0, a5_1⟩ : S25), a5_2, a5_3, a5_4⟩ : S42) )) (Reps.none _ _)))
                 intro v161 w51 ho52 hb hg_ hnew_
                 clear hg_ hnew_
                 (first | rw [← Ny160.out] at ho52 | (simp only [Int.reduceToNat] at ho52; rw [← Ny160.out] at ho52))
                 have n0_ := Aside0.mk (Kd.R_below (by (with_reducible repeat (first | apply Kd.R_alloc | apply Kd.R_drewN | apply Kd.R_drew)); exact HO_14.out) hb)
                 have n1_ := Aside0.mk (Kd.R_below (by (with_reducible repeat (first | apply Kd.R_alloc | apply Kd.R_drewN | apply Kd.R_drew)); exact HO_16.out) hb)
                 have n2_ := Aside0.mk (Kd.R_lower (Kd.R_newB ho52 (g := gb135) (o := .cells #[.int .i64 a5_0, .int .i64 a5_1, .int .i64 a5_2, .int .i64 a5_3, .int .i64 a5_4] 42 (0, 0)) (by (with_reducible repeat (first | refine blk_drewN ?_ _ | refine blk_drew ?_ | refine blk_alloc ?_ _)); exact BK135.out)) (below_size (by repeat (first | (with_reducible first | exact HB.out | apply below_alloc | apply pw_below_drewN | apply below_drew1 | refine below_set ?_ GE135.out | refine below_set ?_ GE159.out) | exact HB.out))))
                 have n3_ := Aside0.mk (blk_below (g := gb135) (o := .cells #[.int .i64 a5_0, .int .i64 a5_1, .int .i64 a5_2, .int .i64 a5_3, .int .i64 a5_4] 42 (0, 0)) (by (with_reducible repeat (first | refine blk_drewN ?_ _ | refine blk_drew ?_ | refine blk_alloc ?_ _)); exact BK135.out) hb)
                 have n4_ := Aside0.mk (blk_below (g := gb159) (o := .cells #[.int .i64 ((rd_T50 l0 x75_2).f0), .int .i64 ((rd_T50 l0 x75_2).f1), .int .i64 ((rd_T50 l0 x75_2).f2), .int .i64 ((rd_T50 l0 x75_2).f3.f0), .int .i64 ((rd_T50 l0 x75_2).f3.f1)] 50 (0, 0)) (by (with_reducible repeat (first | refine blk_drewN ?_ _ | refine blk_drew ?_ | refine blk_alloc ?_ _)); exact BK159.out) hb)
                 have n5_ := Aside0.mk (below_step (by repeat (first | (with_reducible first | exact HB.out | apply below_alloc | apply pw_below_drewN | apply below_drew1 | refine below_set ?_ GE135.out | refine below_set ?_ GE159.out) | exact HB.out)) hb)
                 clear HO_14
                 clear HO_16
                 clear BK135
                 clear BK159
                 clear HB
                 have HO_14 := n0_
                 have HO_16 := n1_
                 have HO162 := n2_
                 have BK135 := n3_
                 have BK159 := n4_
                 have HB := n5_
                 clear n0_ n1_ n2_ n3_ n4_ n5_
                 clear hb ho52
                 obtain ⟨Ao53, co53, eo53⟩ := Kd.R_slice HO162.out
                 (first | subst eo53 | (injection eo53 with f1_ f2_ f3_; have f4_ := f1_.symm; have f5_ := f3_.symm; clear f1_ f2_ f3_; subst f4_; subst f5_))
                 refine hK.out _ _ ⟨(blk_cell BK159.out 0).trans rfl, (blk_cell BK159.out 1).trans rfl, (blk_cell BK159.out 2).trans rfl, (blk_cell BK159.out 3).trans rfl, (blk_cell BK159.out 4).trans rfl, (blk_cell BK135.out 0).trans rfl, (blk_cell BK135.out 1).trans rfl, (blk_cell BK135.out 2).trans rfl, (blk_cell BK135.out 3).trans rfl, (blk_cell BK135.out 4).trans rfl, ((HB.out.cell (World.block_lt_of_cell? w _ hw163_0)).trans hw163_0), ((HB.out.cell (World.block_lt_of_cell? w _ hw163_1)).trans hw163_1)⟩ (fun hHeld => ?_)
                 clear hK K
                 refine norm_ (a' := ?_) ?_ ?_
                 rotate_left
                 ·
                  show Act.put _ (some 85) _ = _
                  simp only [Act.put, List.setIfInBounds_toArray, List.set_cons_zero, List.set_cons_succ, i64_w, i32_w]
                  rfl
                 refine one_ (i := 13) (N := some 93) #[true, true, true, true, true, true, true, true, true, true, true, true, true, true, false, false] rfl rfl (one_of HT_.out (by kernel_rfl)) (by decide) (fun K hK => ?_)
                 refine goes_ Try.func23 (by kernel_rfl) rfl #[.slice Ao53 y160.length co53, .agg #[.int .i64 ((rd_T25 l1 x75_2).f0), .int .i64 ((rd_T25 l1 x75_2).f1)], .int .i64 ((rd_T50 l0 x75_2).f1), .int .i64 a4] (by rfl) rfl rfl (by (try simp only [List.map_toArray, List.map_cons, List.map_nil]); first | done | rfl | (simp only [List.length_drop, List.length_take]; rfl)) ?_
                 with_reducible refine (plane_Jammed.calls _ _ y160 ((rd_T25 l1 x75_2).f0) ((rd_T25 l1 x75_2).f1) ((rd_T50 l0 x75_2).f1) a4 true _ ?side1 ?side2 A42.out).mono ?_
                 (case side1 => repeat (first | exact (Kd.R_reads' HO162.out).2.2 | (with_reducible refine Kd.C_alloc ?_ _) | (with_reducible refine Kd.C_drewN ?_ _) | (with_reducible refine Kd.C_drew ?_)))
                 (case side2 => exact (Kd.R_reads' HO162.out).2.1)
                 rintro e w54 ⟨rfl, hb⟩
                 refine ⟨_, rfl, ?_⟩
                 have n0_ := Aside0.mk (Kd.R_below (by (with_reducible repeat (first | apply Kd.R_alloc | apply Kd.R_drewN | apply Kd.R_drew)); exact HO_14.out) hb)
                 have n1_ := Aside0.mk (Kd.R_below (by (with_reducible repeat (first | apply Kd.R_alloc | apply Kd.R_drewN | apply Kd.R_drew)); exact HO_16.out) hb)
                 have n2_ := Aside0.mk (Kd.R_below (by (with_reducible repeat (first | apply Kd.R_alloc | apply Kd.R_drewN | apply Kd.R_drew)); exact HO162.out) hb)
                 have n3_ := Aside0.mk (blk_below (g := gb135) (o := .cells #[.int .i64 a5_0, .int .i64 a5_1, .int .i64 a5_2, .int .i64 a5_3, .int .i64 a5_4] 42 (0, 0)) (by (with_reducible repeat (first | refine blk_drewN ?_ _ | refine blk_drew ?_ | refine blk_alloc ?_ _)); exact BK135.out) hb)
                 have n4_ := Aside0.mk (blk_below (g := gb159) (o := .cells #[.int .i64 ((rd_T50 l0 x75_2).f0), .int .i64 ((rd_T50 l0 x75_2).f1), .int .i64 ((rd_T50 l0 x75_2).f2), .int .i64 ((rd_T50 l0 x75_2).f3.f0), .int .i64 ((rd_T50 l0 x75_2).f3.f1)] 50 (0, 0)) (by (with_reducible repeat (first | refine blk_drewN ?_ _ | refine blk_drew ?_ | refine blk_alloc ?_ _)); exact BK159.out) hb)
                 have n5_ := Aside0.mk (below_step (by repeat (first | (with_reducible first | exact HB.out | apply below_alloc | apply pw_below_drewN | apply below_drew1 | refine below_set ?_ GE135.out | refine below_set ?_ GE159.out) | exact HB.out)) hb)
                 clear HO_14
                 clear HO_16
                 clear HO162
                 clear BK135
                 clear BK159
                 clear HB
                 have HO_14 := n0_
                 have HO_16 := n1_
                 have HO162 := n2_
                 have BK135 := n3_
                 have BK159 := n4_
                 have HB := n5_
                 clear n0_ n1_ n2_ n3_ n4_ n5_
                 (try clear hb)
                 (try clear hb2)
                 (try clear hk)
                 (try clear hi)
                 refine hK.out _ _ ⟨(blk_cell BK159.out 0).trans rfl, (blk_cell BK159.out 1).trans rfl, (blk_cell BK159.out 2).trans rfl, (blk_cell BK159.out 3).trans rfl, (blk_cell BK159.out 4).trans rfl, (blk_cell BK135.out 0).trans rfl, (blk_cell BK135.out 1).trans rfl, (blk_cell BK135.out 2).trans rfl, (blk_cell BK135.out 3).trans rfl, (blk_cell BK135.out 4).trans rfl, ((HB.out.cell (World.block_lt_of_cell? w _ hw163_0)).trans hw163_0), ((HB.out.cell (World.block_lt_of_cell? w _ hw163_1)).trans hw163_1)⟩ (fun hHeld => ?_)
                 clear hK K
                 refine norm_ (a' := ?_) ?_ ?_
                 rotate_left
                 ·
                  show Act.put _ (some 93) _ = _
                  simp only [Act.put, List.setIfInBounds_toArray, List.set_cons_zero, List.set_cons_succ, i64_w, i32_w]
                  rfl
                 refine pure_ (i := 14) (N := some 94) (v := ?_) (a' := ?_) #[true, true, true, true, true, true, true, true, true, true, true, true, true, true, true, false] rfl rfl (any_of HT_.out (by kernel_rfl)) (fun _ _ _ h => h) (Or.inl ⟨by rfl, ?_⟩) ?_ ?_
                 rotate_left
                 ·
                  intro w'
                  go_simp
                  with_reducible rfl
                 rotate_left
                 ·
                  simp only [Act.put, List.setIfInBounds_toArray, List.set_cons_zero, List.set_cons_succ, i64_w, i32_w]
                  rfl
                 refine pure_ (i := 15) (N := some 20) (v := ?_) (a' := ?_) #[true, true, true, true, true, true, true, true, true, true, true, true, true, true, true, true] rfl rfl (any_of HT_.out (by kernel_rfl)) (fun _ _ _ h => h) (Or.inl ⟨by rfl, ?_⟩) ?_ ?_
                 rotate_left
                 ·
                  intro w'
                  go_simp
                  with_reducible rfl
                 rotate_left
                 ·
                  simp only [Act.put, List.setIfInBounds_toArray, List.set_cons_zero, List.set_cons_succ, i64_w, i32_w]
                  rfl
                 refine done_ (done_of HT_.out (by kernel_rfl)) ?_
                 try go_wp2
                 have n0_ := Aside0.mk (Kd.R_drew HO_14.out)
                 have n1_ := Aside0.mk (Kd.R_drew HO_16.out)
                 have n2_ := Aside0.mk (Kd.R_drew HO162.out)
                 have n3_ := Aside0.mk (blk_drew BK135.out)
                 have n4_ := Aside0.mk (blk_drew BK159.out)
                 have n5_ := Aside0.mk (below_drew1 HB.out)
                 clear HO_14
                 clear HO_16
                 clear HO162
                 clear BK135
                 clear BK159
                 clear HB
                 have HO_14 := n0_
                 have HO_16 := n1_
                 have HO162 := n2_
                 have BK135 := n3_
                 have BK159 := n4_
                 have HB := n5_
                 clear n0_ n1_ n2_ n3_ n4_ n5_
                 obtain ⟨Ao56, co56, eo56⟩ := Kd.R_slice HO_16.out
                 (first | subst eo56 | (injection eo56 with f1_ f2_ f3_; have f4_ := f1_.symm; have f5_ := f3_.symm; clear f1_ f2_ f3_; subst f4_; subst f5_))
                 have p165 : 0 ≤ (x75_2 : Int) := of_decide_eq_true (by first | (with_reducible assumption) | assumption)
                 have q165 : x75_2 < (t154.length : Int) := of_decide_eq_true (by first | (with_reducible assumption) | assumption)
                 obtain ⟨ad165, e165, hx165_0⟩ := Kd.at_int (Kd.R_reads' HO_16.out).2.2 x75_2 p165 q165
                 cases e165
                 replace p165 := eq_true p165
                 replace q165 := eq_true q165
                 refine start_ (n := 23) (S := fun w' => w'.cell? (ad165.add (x75_2).toNat) = some (.int .i64 (rd t154 x75_2))) (ds := []) #[false, false, false, false, false, false, false, false, false, false, false, false, false, false, false, false, false, false, false, false, false, false, false] (by kernel_rfl) rfl rfl (hx165_0) (fun hHeld => ?_); refine with_tabW slotmeshlaw17_MediumJams.tab12 slotmeshlaw17_MediumJams.bits12 (fun HT_ HW_ => ?_)
                 generalize w54.drew = w55 at HO_14 HO_16 HO162 BK135 BK159 HB hx165_0 hHeld ⊢
                 refine pure_ (i := 0) (N := some 95) (v := ?_) (a' := ?_) #[true, false, false, false, false, false, false, false, false, false, false, false, false, false, false, false, false, false, false, false, false, false, false] rfl rfl (any_of HT_.out (by kernel_rfl)) (fun _ _ _ h => h) (Or.inl ⟨by rfl, ?_⟩) ?_ ?_
                 rotate_left
                 ·
                  intro w'
                  go_simp
                  with_reducible rfl
                 rotate_left
                 ·
                  simp only [Act.put, List.setIfInBounds_toArray, List.set_cons_zero, List.set_cons_succ, i64_w, i32_w]
                  rfl
                 refine pure_ (i := 1) (N := some 96) (v := ?_) (a' := ?_) #[true, true, false, false, false, false, false, false, false, false, false, false, false, false, false, false, false, false, false, false, false, false, false] rfl rfl (any_of HT_.out (by kernel_rfl)) (fun _ _ _ h => h) (Or.inl ⟨by rfl, ?_⟩) ?_ ?_
                 rotate_left
                 ·
                  intro w'
                  go_simp
                  with_reducible rfl
                 rotate_left
                 ·
                  simp only [Act.put, List.setIfInBounds_toArray, List.set_cons_zero, List.set_cons_succ, i64_w, i32_w]
                  rfl
                 refine pure_ (i := 2) (N := some 97) (v := ?_) (a' := ?_) #[true, true, true, false, false, false, false, false, false, false, false, false, false, false, false, false, false, false, false, false, false, false, false] rfl rfl (any_of HT_.out (by kernel_rfl)) (fun _ _ _ h => h) (Or.inl ⟨by rfl, ?_⟩) ?_ ?_
                 rotate_left
                 ·
                  intro w'
                  go_simp
                  with_reducible rfl
                 rotate_left
                 ·
                  simp only [Act.put, List.setIfInBounds_toArray, List.set_cons_zero, List.set_cons_succ, i64_w, i32_w]
                  rfl
                 refine pure_ (i := 3) (N := some 98) (v := ?_) (a' := ?_) #[true, true, true, true, false, false, false, false, false, false, false, false, false, false, false, false, false, false, false, false, false, false, false] rfl rfl (any_of HT_.out (by kernel_rfl)) (fun _ _ _ h => h) (Or.inl ⟨by rfl, ?_⟩) ?_ ?_
                 rotate_left
                 ·
                  intro w'
                  go_simp
                  with_reducible rfl
                 rotate_left
                 ·
                  simp only [Act.put, List.setIfInBounds_toArray, List.set_cons_zero, List.set_cons_succ, i64_w, i32_w]
                  rfl
                 refine pure_ (i := 4) (N := some 99) (v := ?_) (a' := ?_) #[true, true, true, true, true, false, false, false, false, false, false, false, false, false, false, false, false, false, false, false, false, false, false] rfl rfl (any_of HT_.out (by kernel_rfl)) (fun _ _ _ h => h) (Or.inl ⟨by rfl, ?_⟩) ?_ ?_
                 rotate_left
                 ·
                  intro w'
                  go_simp
                  with_reducible rfl
                 rotate_left
                 ·
                  simp only [Act.put, List.setIfInBounds_toArray, List.set_cons_zero, List.set_cons_succ, i64_w, i32_w]
                  rfl
                 refine take_ (i := 5) (N := some 100) (v := ?_) (a' := ?_) #[true, true, true, true, true, true, false, false, false, false, false, false, false, false, false, false, false, false, false, false, false, false, false] rfl rfl (take_ofW HT_.out HW_.out (by kernel_rfl)) (fun _ _ _ h => h) (Or.inl ⟨by rfl, ?_⟩) hHeld ?_ ?_
                 rotate_left
                 ·
                  intro w' s0
                  go_simp
                  with_reducible rfl
                 rotate_left
                 ·
                  simp only [Act.put, List.setIfInBounds_toArray, List.set_cons_zero, List.set_cons_succ, i64_w, i32_w]
                  rfl
                 refine pure_ (i := 6) (N := some 101) (v := ?_) (a' := ?_) #[true, true, true, true, true, true, true, false, false, false, false, false, false, false, false, false, false, false, false, false, false, false, false] rfl rfl (any_of HT_.out (by kernel_rfl)) (fun _ _ _ h => h) (Or.inl ⟨by rfl, ?_⟩) ?_ ?_
                 rotate_left
                 ·
                  intro w'
                  go_simp
                  with_reducible rfl
                 rotate_left
                 ·
                  simp only [Act.put, List.setIfInBounds_toArray, List.set_cons_zero, List.set_cons_succ, i64_w, i32_w]
                  rfl
                 refine pure_ (i := 7) (N := some 102) (v := ?_) (a' := ?_) #[true, true, true, true, true, true, true, true, false, false, false, false, false, false, false, false, false, false, false, false, false, false, false] rfl rfl (any_of HT_.out (by kernel_rfl)) (fun _ _ _ h => h) (Or.inl ⟨by rfl, ?_⟩) ?_ ?_
                 rotate_left
                 ·
                  intro w'
                  go_simp
                  with_reducible rfl
                 rotate_left
                 ·
                  simp only [Act.put, List.setIfInBounds_toArray, List.set_cons_zero, List.set_cons_succ, i64_w, i32_w]
                  rfl
                 refine pure_ (i := 8) (N := some 103) (v := ?_) (a' := ?_) #[true, true, true, true, true, true, true, true, true, false, false, false, false, false, false, false, false, false, false, false, false, false, false] rfl rfl (any_of HT_.out (by kernel_rfl)) (fun _ _ _ h => h) (Or.inl ⟨by rfl, ?_⟩) ?_ ?_
                 rotate_left
                 ·
                  intro w'
                  go_simp
                  with_reducible rfl
                 rotate_left
                 ·
                  simp only [Act.put, List.setIfInBounds_toArray, List.set_cons_zero, List.set_cons_succ, i64_w, i32_w]
                  rfl
                 refine pure_ (i := 9) (N := some 104) (v := ?_) (a' := ?_) #[true, true, true, true, true, true, true, true, true, true, false, false, false, false, false, false, false, false, false, false, false, false, false] rfl rfl (any_of HT_.out (by kernel_rfl)) (fun _ _ _ h => h) (Or.inl ⟨by rfl, ?_⟩) ?_ ?_
                 rotate_left
                 ·
                  intro w'
                  go_simp
                  with_reducible rfl
                 rotate_left
                 ·
                  simp only [Act.put, List.setIfInBounds_toArray, List.set_cons_zero, List.set_cons_succ, i64_w, i32_w]
                  rfl
                 refine pure_ (i := 10) (N := some 105) (v := ?_) (a' := ?_) #[true, true, true, true, true, true, true, true, true, true, true, false, false, false, false, false, false, false, false, false, false, false, false] rfl rfl (any_of HT_.out (by kernel_rfl)) (fun _ _ _ h => h) (Or.inl ⟨by rfl, ?_⟩) ?_ ?_
                 rotate_left
                 ·
                  intro w'
                  go_simp
                  with_reducible rfl
                 rotate_left
                 ·
                  simp only [Act.put, List.setIfInBounds_toArray, List.set_cons_zero, List.set_cons_succ, i64_w, i32_w]
                  rfl
                 refine pure_ (i := 11) (N := some 106) (v := ?_) (a' := ?_) #[true, true, true, true, true, true, true, true, true, true, true, true, false, false, false, false, false, false, false, false, false, false, false] rfl rfl (any_of HT_.out (by kernel_rfl)) (fun _ _ _ h => h) (Or.inl ⟨by rfl, ?_⟩) ?_ ?_
                 rotate_left
                 ·
                  intro w'
                  go_simp
                  with_reducible rfl
                 rotate_left
                 ·
                  simp only [Act.put, List.setIfInBounds_toArray, List.set_cons_zero, List.set_cons_succ, i64_w, i32_w]
                  rfl
                 refine pure_ (i := 12) (N := some 107) (v := undef) (a' := ?_) #[true, true, true, true, true, true, true, true, true, true, true, true, true, false, false, false, false, false, false, false, false, false, false] rfl rfl (any_of HT_.out (by kernel_rfl)) (fun _ _ _ h => h) (Or.inr ⟨by rfl, rfl⟩) ?_ ?_
                 rotate_left
                 ·
                  simp only [Act.put, List.setIfInBounds_toArray, List.set_cons_zero, List.set_cons_succ, i64_w, i32_w]
                  rfl
                 refine pure_ (i := 13) (N := some 108) (v := undef) (a' := ?_) #[true, true, true, true, true, true, true, true, true, true, true, true, true, true, false, false, false, false, false, false, false, false, false] rfl rfl (any_of HT_.out (by kernel_rfl)) (fun _ _ _ h => h) (Or.inr ⟨by rfl, rfl⟩) ?_ ?_
                 rotate_left
                 ·
                  simp only [Act.put, List.setIfInBounds_toArray, List.set_cons_zero, List.set_cons_succ, i64_w, i32_w]
                  rfl
                 refine pure_ (i := 14) (N := some 109) (v := undef) (a' := ?_) #[true, true, true, true, true, true, true, true, true, true, true, true, true, true, true, false, false, false, false, false, false, false, false] rfl rfl (any_of HT_.out (by kernel_rfl)) (fun _ _ _ h => h) (Or.inr ⟨by rfl, rfl⟩) ?_ ?_
                 rotate_left
                 ·
                  simp only [Act.put, List.setIfInBounds_toArray, List.set_cons_zero, List.set_cons_succ, i64_w, i32_w]
                  rfl
                 refine pure_ (i := 15) (N := some 110) (v := undef) (a' := ?_) #[true, true, true, true, true, true, true, true, true, true, true, true, true, true, true, true, false, false, false, false, false, false, false] rfl rfl (any_of HT_.out (by kernel_rfl)) (fun _ _ _ h => h) (Or.inr ⟨by rfl, rfl⟩) ?_ ?_
                 rotate_left
                 ·
                  simp only [Act.put, List.setIfInBounds_toArray, List.set_cons_zero, List.set_cons_succ, i64_w, i32_w]
                  rfl
                 refine pure_ (i := 16) (N := some 111) (v := undef) (a' := ?_) #[true, true, true, true, true, true, true, true, true, true, true, true, true, true, true, true, true, false, false, false, false, false, false] rfl rfl (any_of HT_.out (by kernel_rfl)) (fun _ _ _ h => h) (Or.inr ⟨by rfl, rfl⟩) ?_ ?_
                 rotate_left
                 ·
                  simp only [Act.put, List.setIfInBounds_toArray, List.set_cons_zero, List.set_cons_succ, i64_w, i32_w]
                  rfl
                 refine pure_ (i := 17) (N := some 112) (v := undef) (a' := ?_) #[true, true, true, true, true, true, true, true, true, true, true, true, true, true, true, true, true, true, false, false, false, false, false] rfl rfl (any_of HT_.out (by kernel_rfl)) (fun _ _ _ h => h) (Or.inr ⟨by rfl, rfl⟩) ?_ ?_
                 rotate_left
                 ·
                  simp only [Act.put, List.setIfInBounds_toArray, List.set_cons_zero, List.set_cons_succ, i64_w, i32_w]
                  rfl
                 refine pure_ (i := 18) (N := some 113) (v := undef) (a' := ?_) #[true, true, true, true, true, true, true, true, true, true, true, true, true, true, true, true, true, true, true, false, false, false, false] rfl rfl (any_of HT_.out (by kernel_rfl)) (fun _ _ _ h => h) (Or.inr ⟨by rfl, rfl⟩) ?_ ?_
                 rotate_left
                 ·
                  simp only [Act.put, List.setIfInBounds_toArray, List.set_cons_zero, List.set_cons_succ, i64_w, i32_w]
                  rfl
                 refine pure_ (i := 19) (N := some 114) (v := undef) (a' := ?_) #[true, true, true, true, true, true, true, true, true, true, true, true, true, true, true, true, true, true, true, true, false, false, false] rfl rfl (any_of HT_.out (by kernel_rfl)) (fun _ _ _ h => h) (Or.inr ⟨by rfl, rfl⟩) ?_ ?_
                 rotate_left
                 ·
                  simp only [Act.put, List.setIfInBounds_toArray, List.set_cons_zero, List.set_cons_succ, i64_w, i32_w]
                  rfl
                 refine pure_ (i := 20) (N := some 115) (v := undef) (a' := ?_) #[true, true, true, true, true, true, true, true, true, true, true, true, true, true, true, true, true, true, true, true, true, false, false] rfl rfl (any_of HT_.out (by kernel_rfl)) (fun _ _ _ h => h) (Or.inr ⟨by rfl, rfl⟩) ?_ ?_
                 rotate_left
                 ·
                  simp only [Act.put, List.setIfInBounds_toArray, List.set_cons_zero, List.set_cons_succ, i64_w, i32_w]
                  rfl
                 refine pure_ (i := 21) (N := some 116) (v := ?_) (a' := ?_) #[true, true, true, true, true, true, true, true, true, true, true, true, true, true, true, true, true, true, true, true, true, true, false] rfl rfl (any_of HT_.out (by kernel_rfl)) (fun _ _ _ h => h) (Or.inl ⟨by rfl, ?_⟩) ?_ ?_
                 rotate_left
                 ·
                  intro w'
                  go_simp
                  with_reducible rfl
                 rotate_left
                 ·
                  simp only [Act.put, List.setIfInBounds_toArray, List.set_cons_zero, List.set_cons_succ, i64_w, i32_w]
                  rfl
                 refine pure_ (i := 22) (N := some 117) (v := ?_) (a' := ?_) #[true, true, true, true, true, true, true, true, true, true, true, true, true, true, true, true, true, true, true, true, true, true, true] rfl rfl (any_of HT_.out (by kernel_rfl)) (fun _ _ _ h => h) (Or.inl ⟨by rfl, ?_⟩) ?_ ?_
                 rotate_left
                 ·
                  intro w'
                  go_simp
                  with_reducible rfl
                 rotate_left
                 ·
                  simp only [Act.put, List.setIfInBounds_toArray, List.set_cons_zero, List.set_cons_succ, i64_w, i32_w]
                  rfl
                 refine done_ (done_of HT_.out (by kernel_rfl)) ?_
                 try go_wp2
                 go_roundg k2
                 case measure => have := HJ13.out; have := HK2.out; omega
                 case rel => exact ⟨(wrap64 (x75_2 + 1)), (by first | rfl | (simp; done) | (simp [*]; done)), H', ⟨by have := HJ13.out; have := HK2.out; omega⟩, ⟨by (with_reducible repeat (first | apply Kd.R_alloc | apply Kd.R_drewN | apply Kd.R_drew)); exact HO_14.out⟩, ⟨by (with_reducible repeat (first | apply Kd.R_alloc | apply Kd.R_drewN | apply Kd.R_drew)); exact HO_16.out⟩, ⟨by (with_reducible repeat (first | refine blk_drewN ?_ _ | refine blk_drew ?_ | refine blk_alloc ?_ _)); exact BK135.out⟩, ⟨by repeat (first | (with_reducible first | exact HB.out | apply below_alloc | apply pw_below_drewN | apply below_drew1 | refine below_set ?_ GE135.out | refine below_set ?_ GE159.out) | exact HB.out)⟩⟩
                ·
                 rw [if_neg c45] at H
                 exact absurd (Option.some.inj H) (by rw [HRT.out]; decide)
               ·
                rw [if_neg c44] at H
                exact absurd H (by simp)
              ·
               replace c43 := Bool.eq_false_iff.mpr c43
               subst c43
               rw [if_neg (show ¬ (false = true) by decide)] at H
               by_cases c68 : x75_2 < (t138.length : Int)
               ·
                rw [if_pos c68] at H
                have c68b0 : decide (x75_2 < (t138.length : Int)) = true := decide_eq_true c68
                clear c68
                by_cases c69 : x75_2 < (t154.length : Int)
                ·
                 rw [if_pos c69] at H
                 have c69b0 : decide (x75_2 < (t154.length : Int)) = true := decide_eq_true c69
                 clear c69
                 by_cases c70 : (rd t138 x75_2) = (rd t154 x75_2)
                 ·
                  rw [if_pos c70] at H
                  have c70b0 : ((rd t138 x75_2) == (rd t154 x75_2)) = true := beq_iff_eq.mpr c70
                  have c70b1 : ((rd t138 x75_2) != (rd t154 x75_2)) = false := bne_eq_false_iff_eq.mpr c70
                  clear c70
                  have H' := Aside0.mk H
                  clear H
                  have p158 : 0 ≤ (x75_2 : Int) := of_decide_eq_true (by first | (with_reducible assumption) | assumption)
                  have q158 : x75_2 < (l0.length : Int) := of_decide_eq_true (by first | (with_reducible assumption) | assumption)
                  obtain ⟨ad158, e158, hx158_0, hx158_1, hx158_2, hx158_3, hx158_4⟩ := at_T50 HR0.out x75_2 p158 q158
                  cases e158
                  replace hx158_0 := (HB.out.cell (World.block_lt_of_cell? w _ hx158_0)).trans hx158_0
                  replace hx158_1 := (HB.out.cell (World.block_lt_of_cell? w _ hx158_1)).trans hx158_1
                  replace hx158_2 := (HB.out.cell (World.block_lt_of_cell? w _ hx158_2)).trans hx158_2
                  replace hx158_3 := (HB.out.cell (World.block_lt_of_cell? w _ hx158_3)).trans hx158_3
                  replace hx158_4 := (HB.out.cell (World.block_lt_of_cell? w _ hx158_4)).trans hx158_4
                  replace p158 := eq_true p158
                  replace q158 := eq_true q158
                  try go_wp2_with (first | ((with_reducible refine gate_dst (N := 19) rfl ?_); (try (refine gate_guard (by rfl) ?_; dsimp only)); refine box_event ?hg (N := 19) ?hd (cs := #[.int .i64 0, .int .i64 0, .int .i64 0, .int .i64 0, .int .i64 0]) (t := 50) ?hr ?_; (case hd => rfl); (case hg => rfl); (case hr => first | (go_simp; done) | (go_simp; rfl)); intro gb159 hg w71 hbox hb; have n0_ := Aside0.mk (Kd.R_below (by (with_reducible repeat (first | apply Kd.R_alloc | apply Kd.R_drewN | apply Kd.R_drew)); exact HO_14.out) hb); have n1_ := Aside0.mk (Kd.R_below (by (with_reducible repeat (first | apply Kd.R_alloc | apply Kd.R_drewN | apply Kd.R_drew)); exact HO_16.out) hb); have n2_ := Aside0.mk (blk_below (g := gb135) (o := .cells #[.int .i64 a5_0, .int .i64 a5_1, .int .i64 a5_2, .int .i64 a5_3, .int .i64 a5_4] 42 (0, 0)) (by (with_reducible repeat (first | refine blk_drewN ?_ _ | refine blk_drew ?_ | refine blk_alloc ?_ _)); exact BK135.out) hb); have n3_ := Aside0.mk (below_step (by repeat (first | (with_reducible first | exact HB.out | apply below_alloc | apply pw_below_drewN | apply below_drew1 | refine below_set ?_ GE135.out) | exact HB.out)) hb); have n4_ := Aside0.mk (hbox); have n5_ := Aside0.mk ((by rw [hg]; exact (below_size (by repeat (first | (with_reducible first | exact HB.out | apply below_alloc | apply pw_below_drewN | apply below_drew1 | refine below_set ?_ GE135.out) | exact HB.out))) : w.heap.size ≤ gb159)); have n6_ := Aside0.mk ((by rw [hg]; exact (below_size (by repeat (first | (with_reducible first | exact HB.out | apply below_alloc | apply pw_below_drewN | apply below_drew1 | refine below_set ?_ GE135.out) | exact HB.out))) : w.heap.size ≤ gb159)); have n7_ := Aside0.mk ((by rw [hg]; exact Nat.ne_of_lt (blk_lt (g := gb135) (o := .cells #[.int .i64 a5_0, .int .i64 a5_1, .int .i64 a5_2, .int .i64 a5_3, .int .i64 a5_4] 42 (0, 0)) (by (with_reducible repeat (first | refine blk_drewN ?_ _ | refine blk_drew ?_ | refine blk_alloc ?_ _)); exact BK135.out)) : gb135 ≠ gb159)); have n8_ := Aside0.mk ((by rw [hg]; exact Nat.ne_of_gt (blk_lt (g := gb135) (o := .cells #[.int .i64 a5_0, .int .i64 a5_1, .int .i64 a5_2, .int .i64 a5_3, .int .i64 a5_4] 42 (0, 0)) (by (with_reducible repeat (first | refine blk_drewN ?_ _ | refine blk_drew ?_ | refine blk_alloc ?_ _)); exact BK135.out)) : gb159 ≠ gb135)); clear HO_14; clear HO_16; clear BK135; clear HB; have HO_14 := n0_; have HO_16 := n1_; have BK135 := n2_; have HB := n3_; have BK159 := n4_; have GW159 := n5_; have GE159 := n6_; have NB135_159 := n7_; have NB159_135 := n8_; clear n0_ n1_ n2_ n3_ n4_ n5_ n6_ n7_ n8_; clear hb hbox hg; have hnb72 := NB159_135.out; have hnc72 := NB135_159.out; have hcz73_0 : w71.cell? ⟨gb159, 0, none⟩ = some (.int .i64 0) := (blk_cell BK159.out 0).trans rfl; have hcz73_1 : w71.cell? ⟨gb159, 1, none⟩ = some (.int .i64 0) := (blk_cell BK159.out 1).trans rfl; have hcz73_2 : w71.cell? ⟨gb159, 2, none⟩ = some (.int .i64 0) := (blk_cell BK159.out 2).trans rfl; have hcz73_3 : w71.cell? ⟨gb159, 3, none⟩ = some (.int .i64 0) := (blk_cell BK159.out 3).trans rfl; have hcz73_4 : w71.cell? ⟨gb159, 4, none⟩ = some (.int .i64 0) := (blk_cell BK159.out 4).trans rfl; have hfz73_0 := blk_frozen BK159.out 0; have hfz73_1 := blk_frozen BK159.out 1; have hfz73_2 := blk_frozen BK159.out 2; have hfz73_3 := blk_frozen BK159.out 3; have hfz73_4 := blk_frozen BK159.out 4))
                  have n0_ : Aside0 (Kd.R (Kd.int .i64) 3 (((((w71.setCell ⟨gb159, 0, none⟩ (.int .i64 ((rd_T50 l0 x75_2).f0))).setCell ⟨gb159, 1, none⟩ (.int .i64 ((rd_T50 l0 x75_2).f1))).setCell ⟨gb159, 2, none⟩ (.int .i64 ((rd_T50 l0 x75_2).f2))).setCell ⟨gb159, 3, none⟩ (.int .i64 ((rd_T50 l0 x75_2).f3.f0))).setCell ⟨gb159, 4, none⟩ (.int .i64 ((rd_T50 l0 x75_2).f3.f1))) w.heap.size (fun k_ => some k_ ≠ (v156 : Value).ownBlock) v140 t138) := ⟨by (with_reducible repeat (first | apply Kd.R_alloc | apply Kd.R_drewN | apply Kd.R_drew)); exact Kd.R_mono (Kd.R_far (p := ⟨gb159, 4, none⟩) (Kd.R_far (p := ⟨gb159, 3, none⟩) (Kd.R_far (p := ⟨gb159, 2, none⟩) (Kd.R_far (p := ⟨gb159, 1, none⟩) (Kd.R_far (p := ⟨gb159, 0, none⟩) (Kd.R_types HO_14.out BK159.out (by decide)) (fun _ hk => hk.2) (.int .i64 ((rd_T50 l0 x75_2).f0))) (fun _ hk => hk.2) (.int .i64 ((rd_T50 l0 x75_2).f1))) (fun _ hk => hk.2) (.int .i64 ((rd_T50 l0 x75_2).f2))) (fun _ hk => hk.2) (.int .i64 ((rd_T50 l0 x75_2).f3.f0))) (fun _ hk => hk.2) (.int .i64 ((rd_T50 l0 x75_2).f3.f1))) (fun _ hk => hk.1)⟩
                  have n1_ : Aside0 (Kd.R (Kd.int .i64) 3 (((((w71.setCell ⟨gb159, 0, none⟩ (.int .i64 ((rd_T50 l0 x75_2).f0))).setCell ⟨gb159, 1, none⟩ (.int .i64 ((rd_T50 l0 x75_2).f1))).setCell ⟨gb159, 2, none⟩ (.int .i64 ((rd_T50 l0 x75_2).f2))).setCell ⟨gb159, 3, none⟩ (.int .i64 ((rd_T50 l0 x75_2).f3.f0))).setCell ⟨gb159, 4, none⟩ (.int .i64 ((rd_T50 l0 x75_2).f3.f1))) w.heap.size (fun k_ => some k_ ≠ (v140 : Value).ownBlock) v156 t154) := ⟨by (with_reducible repeat (first | apply Kd.R_alloc | apply Kd.R_drewN | apply Kd.R_drew)); exact Kd.R_mono (Kd.R_far (p := ⟨gb159, 4, none⟩) (Kd.R_far (p := ⟨gb159, 3, none⟩) (Kd.R_far (p := ⟨gb159, 2, none⟩) (Kd.R_far (p := ⟨gb159, 1, none⟩) (Kd.R_far (p := ⟨gb159, 0, none⟩) (Kd.R_types HO_16.out BK159.out (by decide)) (fun _ hk => hk.2) (.int .i64 ((rd_T50 l0 x75_2).f0))) (fun _ hk => hk.2) (.int .i64 ((rd_T50 l0 x75_2).f1))) (fun _ hk => hk.2) (.int .i64 ((rd_T50 l0 x75_2).f2))) (fun _ hk => hk.2) (.int .i64 ((rd_T50 l0 x75_2).f3.f0))) (fun _ hk => hk.2) (.int .i64 ((rd_T50 l0 x75_2).f3.f1))) (fun _ hk => hk.1)⟩
                  have n2_ : Aside0 ((((((w71.setCell ⟨gb159, 0, none⟩ (.int .i64 ((rd_T50 l0 x75_2).f0))).setCell ⟨gb159, 1, none⟩ (.int .i64 ((rd_T50 l0 x75_2).f1))).setCell ⟨gb159, 2, none⟩ (.int .i64 ((rd_T50 l0 x75_2).f2))).setCell ⟨gb159, 3, none⟩ (.int .i64 ((rd_T50 l0 x75_2).f3.f0))).setCell ⟨gb159, 4, none⟩ (.int .i64 ((rd_T50 l0 x75_2).f3.f1))).heap[gb135]? = some (.cells #[.int .i64 a5_0, .int .i64 a5_1, .int .i64 a5_2, .int .i64 a5_3, .int .i64 a5_4] 42 (0, 0))) := ⟨by (with_reducible repeat (first | refine blk_drewN ?_ _ | refine blk_drew ?_ | refine blk_alloc ?_ _)); refine blk_far ?_ NB135_159.out _; (with_reducible repeat (first | refine blk_drewN ?_ _ | refine blk_drew ?_ | refine blk_alloc ?_ _)); refine blk_far ?_ NB135_159.out _; (with_reducible repeat (first | refine blk_drewN ?_ _ | refine blk_drew ?_ | refine blk_alloc ?_ _)); refine blk_far ?_ NB135_159.out _; (with_reducible repeat (first | refine blk_drewN ?_ _ | refine blk_drew ?_ | refine blk_alloc ?_ _)); refine blk_far ?_ NB135_159.out _; (with_reducible repeat (first | refine blk_drewN ?_ _ | refine blk_drew ?_ | refine blk_alloc ?_ _)); refine blk_far ?_ NB135_159.out _; (with_reducible repeat (first | refine blk_drewN ?_ _ | refine blk_drew ?_ | refine blk_alloc ?_ _)); exact BK135.out⟩
                  have n3_ : Aside0 ((((((w71.setCell ⟨gb159, 0, none⟩ (.int .i64 ((rd_T50 l0 x75_2).f0))).setCell ⟨gb159, 1, none⟩ (.int .i64 ((rd_T50 l0 x75_2).f1))).setCell ⟨gb159, 2, none⟩ (.int .i64 ((rd_T50 l0 x75_2).f2))).setCell ⟨gb159, 3, none⟩ (.int .i64 ((rd_T50 l0 x75_2).f3.f0))).setCell ⟨gb159, 4, none⟩ (.int .i64 ((rd_T50 l0 x75_2).f3.f1))).heap[gb159]? = some (.cells #[.int .i64 ((rd_T50 l0 x75_2).f0), .int .i64 ((rd_T50 l0 x75_2).f1), .int .i64 ((rd_T50 l0 x75_2).f2), .int .i64 ((rd_T50 l0 x75_2).f3.f0), .int .i64 ((rd_T50 l0 x75_2).f3.f1)] 50 (0, 0))) := ⟨by (with_reducible repeat (first | refine blk_drewN ?_ _ | refine blk_drew ?_ | refine blk_alloc ?_ _)); refine blk_put (cs := #[.int .i64 ((rd_T50 l0 x75_2).f0), .int .i64 ((rd_T50 l0 x75_2).f1), .int .i64 ((rd_T50 l0 x75_2).f2), .int .i64 ((rd_T50 l0 x75_2).f3.f0), .int .i64 0]) ?_ 4 _ rfl; (with_reducible repeat (first | refine blk_drewN ?_ _ | refine blk_drew ?_ | refine blk_alloc ?_ _)); refine blk_put (cs := #[.int .i64 ((rd_T50 l0 x75_2).f0), .int .i64 ((rd_T50 l0 x75_2).f1), .int .i64 ((rd_T50 l0 x75_2).f2), .int .i64 0, .int .i64 0]) ?_ 3 _ rfl; (with_reducible repeat (first | refine blk_drewN ?_ _ | refine blk_drew ?_ | refine blk_alloc ?_ _)); refine blk_put (cs := #[.int .i64 ((rd_T50 l0 x75_2).f0), .int .i64 ((rd_T50 l0 x75_2).f1), .int .i64 0, .int .i64 0, .int .i64 0]) ?_ 2 _ rfl; (with_reducible repeat (first | refine blk_drewN ?_ _ | refine blk_drew ?_ | refine blk_alloc ?_ _)); refine blk_put (cs := #[.int .i64 ((rd_T50 l0 x75_2).f0), .int .i64 0, .int .i64 0, .int .i64 0, .int .i64 0]) ?_ 1 _ rfl; (with_reducible repeat (first | refine blk_drewN ?_ _ | refine blk_drew ?_ | refine blk_alloc ?_ _)); refine blk_put (cs := #[.int .i64 0, .int .i64 0, .int .i64 0, .int .i64 0, .int .i64 0]) ?_ 0 _ rfl; (with_reducible repeat (first | refine blk_drewN ?_ _ | refine blk_drew ?_ | refine blk_alloc ?_ _)); exact BK159.out⟩
                  have n4_ : Aside0 (Below w.heap.size w (((((w71.setCell ⟨gb159, 0, none⟩ (.int .i64 ((rd_T50 l0 x75_2).f0))).setCell ⟨gb159, 1, none⟩ (.int .i64 ((rd_T50 l0 x75_2).f1))).setCell ⟨gb159, 2, none⟩ (.int .i64 ((rd_T50 l0 x75_2).f2))).setCell ⟨gb159, 3, none⟩ (.int .i64 ((rd_T50 l0 x75_2).f3.f0))).setCell ⟨gb159, 4, none⟩ (.int .i64 ((rd_T50 l0 x75_2).f3.f1)))) := ⟨by repeat (first | (with_reducible first | exact HB.out | apply below_alloc | apply pw_below_drewN | apply below_drew1 | refine below_set ?_ GE135.out | refine below_set ?_ GE159.out) | exact HB.out)⟩
                  (try clear HO_14)
                  (try clear HO_16)
                  (try clear BK135)
                  (try clear BK159)
                  (try clear HB)
                  generalize (((((w71.setCell ⟨gb159, 0, none⟩ (.int .i64 ((rd_T50 l0 x75_2).f0))).setCell ⟨gb159, 1, none⟩ (.int .i64 ((rd_T50 l0 x75_2).f1))).setCell ⟨gb159, 2, none⟩ (.int .i64 ((rd_T50 l0 x75_2).f2))).setCell ⟨gb159, 3, none⟩ (.int .i64 ((rd_T50 l0 x75_2).f3.f0))).setCell ⟨gb159, 4, none⟩ (.int .i64 ((rd_T50 l0 x75_2).f3.f1))) = w74 at n0_ n1_ n2_ n3_ n4_ ⊢
                  have HO_14 := n0_
                  have HO_16 := n1_
                  have BK135 := n2_
                  have BK159 := n3_
                  have HB := n4_
                  clear n0_ n1_ n2_ n3_ n4_
                  have n0_ := Aside0.mk (Kd.R_drew HO_14.out)
                  have n1_ := Aside0.mk (Kd.R_drew HO_16.out)
                  have n2_ := Aside0.mk (blk_drew BK135.out)
                  have n3_ := Aside0.mk (blk_drew BK159.out)
                  have n4_ := Aside0.mk (below_drew1 HB.out)
                  clear HO_14
                  clear HO_16
                  clear BK135
                  clear BK159
                  clear HB
                  have HO_14 := n0_
                  have HO_16 := n1_
                  have BK135 := n2_
                  have BK159 := n3_
                  have HB := n4_
                  clear n0_ n1_ n2_ n3_ n4_
                  have p163 : 0 ≤ (x75_2 : Int) := of_decide_eq_true (by first | (with_reducible assumption) | assumption)
                  have q163 : x75_2 < (l1.length : Int) := of_decide_eq_true (by first | (with_reducible assumption) | assumption)
                  obtain ⟨ad163, e163, hx163_0, hx163_1⟩ := at_T25 HR1.out x75_2 p163 q163
                  have hw163_1 := hx163_1
                  have hw163_0 := hx163_0
                  cases e163
                  replace hx163_0 := (HB.out.cell (World.block_lt_of_cell? w _ hx163_0)).trans hx163_0
                  replace hx163_1 := (HB.out.cell (World.block_lt_of_cell? w _ hx163_1)).trans hx163_1
                  replace p163 := eq_true p163
                  replace q163 := eq_true q163
                  refine start_ (n := 16) (S := fun w' => w'.cell? ⟨gb159, 0, none⟩ = some (.int .i64 ((rd_T50 l0 x75_2).f0)) ∧ w'.cell? ⟨gb159, 1, none⟩ = some (.int .i64 ((rd_T50 l0 x75_2).f1)) ∧ w'.cell? ⟨gb159, 2, none⟩ = some (.int .i64 ((rd_T50 l0 x75_2).f2)) ∧ w'.cell? ⟨gb159, 3, none⟩ = some (.int .i64 ((rd_T50 l0 x75_2).f3.f0)) ∧ w'.cell? ⟨gb159, 4, none⟩ = some (.int .i64 ((rd_T50 l0 x75_2).f3.f1)) ∧ w'.cell? ⟨gb135, 0, none⟩ = some (.int .i64 a5_0) ∧ w'.cell? ⟨gb135, 1, none⟩ = some (.int .i64 a5_1) ∧ w'.cell? ⟨gb135, 2, none⟩ = some (.int .i64 a5_2) ∧ w'.cell? ⟨gb135, 3, none⟩ = some (.int .i64 a5_3) ∧ w'.cell? ⟨gb135, 4, none⟩ = some (.int .i64 a5_4) ∧ w'.cell? (ad163.add ((x75_2).toNat * 2)) = some (.int .i64 ((rd_T25 l1 x75_2).f0)) ∧ w'.cell? ⟨(ad163.add ((x75_2).toNat * 2)).block, (ad163.add ((x75_2).toNat * 2)).off + 1, none⟩ = some (.int .i64 ((rd_T25 l1 x75_2).f1))) (ds := []) #[false, false, false, false, false, false, false, false, false, false, false, false, false, false, false, false] (by kernel_rfl) rfl rfl ⟨(blk_cell BK159.out 0).trans rfl, (blk_cell BK159.out 1).trans rfl, (blk_cell BK159.out 2).trans rfl, (blk_cell BK159.out 3).trans rfl, (blk_cell BK159.out 4).trans rfl, (blk_cell BK135.out 0).trans rfl, (blk_cell BK135.out 1).trans rfl, (blk_cell BK135.out 2).trans rfl, (blk_cell BK135.out 3).trans rfl, (blk_cell BK135.out 4).trans rfl, ((HB.out.cell (World.block_lt_of_cell? w _ hw163_0)).trans hw163_0), ((HB.out.cell (World.block_lt_of_cell? w _ hw163_1)).trans hw163_1)⟩ (fun hHeld => ?_); refine with_tabW slotmeshlaw17_MediumJams.tab11 slotmeshlaw17_MediumJams.bits11 (fun HT_ HW_ => ?_)
                  generalize w74.drew = w75 at HO_14 HO_16 BK135 BK159 HB hx163_0 hx163_1 hHeld ⊢
                  refine pure_ (i := 0) (N := some 80) (v := ?_) (a' := ?_) #[true, false, false, false, false, false, false, false, false, false, false, false, false, false, false, false] rfl rfl (any_of HT_.out (by kernel_rfl)) (fun _ _ _ h => h) (Or.inl ⟨by rfl, ?_⟩) ?_ ?_
                  rotate_left
                  ·
                   intro w'
                   go_simp
                   with_reducible rfl
                  rotate_left
                  ·
                   simp only [Act.put, List.setIfInBounds_toArray, List.set_cons_zero, List.set_cons_succ, i64_w, i32_w]
                   rfl
                  refine take_ (i := 1) (N := some 81) (v := ?_) (a' := ?_) #[true, true, false, false, false, false, false, false, false, false, false, false, false, false, false, false] rfl rfl (take_ofW HT_.out HW_.out (by kernel_rfl)) (fun _ _ _ h => h) (Or.inl ⟨by rfl, ?_⟩) hHeld ?_ ?_
                  rotate_left
                  ·
                   rintro w' ⟨s0, s1, s2, s3, s4, s5, s6, s7, s8, s9, s10, s11⟩
                   go_simp
                   with_reducible rfl
                  rotate_left
                  ·
                   simp only [Act.put, List.setIfInBounds_toArray, List.set_cons_zero, List.set_cons_succ, i64_w, i32_w]
                   rfl
                  refine pure_ (i := 2) (N := some 82) (v := ?_) (a' := ?_) #[true, true, true, false, false, false, false, false, false, false, false, false, false, false, false, false] rfl rfl (any_of HT_.out (by kernel_rfl)) (fun _ _ _ h => h) (Or.inl ⟨by rfl, ?_⟩) ?_ ?_
                  rotate_left
                  ·
                   intro w'
                   go_simp
                   with_reducible rfl
                  rotate_left
                  ·
                   simp only [Act.put, List.setIfInBounds_toArray, List.set_cons_zero, List.set_cons_succ, i64_w, i32_w]
                   rfl
                  refine pure_ (i := 3) (N := some 83) (v := ?_) (a' := ?_) #[true, true, true, true, false, false, false, false, false, false, false, false, false, false, false, false] rfl rfl (any_of HT_.out (by kernel_rfl)) (fun _ _ _ h => h) (Or.inl ⟨by rfl, ?_⟩) ?_ ?_
                  rotate_left
                  ·
                   intro w'
                   go_simp
                   with_reducible rfl
                  rotate_left
                  ·
                   simp only [Act.put, List.setIfInBounds_toArray, List.set_cons_zero, List.set_cons_succ, i64_w, i32_w]
                   rfl
                  refine pure_ (i := 6) (N := some 86) (v := ?_) (a' := ?_) #[true, true, true, true, false, false, true, false, false, false, false, false, false, false, false, false] rfl rfl (any_of HT_.out (by kernel_rfl)) (fun _ _ _ h => h) (Or.inl ⟨by rfl, ?_⟩) ?_ ?_
                  rotate_left
                  ·
                   intro w'
                   go_simp
                   with_reducible rfl
                  rotate_left
                  ·
                   simp only [Act.put, List.setIfInBounds_toArray, List.set_cons_zero, List.set_cons_succ, i64_w, i32_w]
                   rfl
                  refine pure_ (i := 7) (N := some 87) (v := ?_) (a' := ?_) #[true, true, true, true, false, false, true, true, false, false, false, false, false, false, false, false] rfl rfl (any_of HT_.out (by kernel_rfl)) (fun _ _ _ h => h) (Or.inl ⟨by rfl, ?_⟩) ?_ ?_
                  rotate_left
                  ·
                   intro w'
                   go_simp
                   with_reducible rfl
                  rotate_left
                  ·
                   simp only [Act.put, List.setIfInBounds_toArray, List.set_cons_zero, List.set_cons_succ, i64_w, i32_w]
                   rfl
                  refine pure_ (i := 8) (N := some 88) (v := ?_) (a' := ?_) #[true, true, true, true, false, false, true, true, true, false, false, false, false, false, false, false] rfl rfl (any_of HT_.out (by kernel_rfl)) (fun _ _ _ h => h) (Or.inl ⟨by rfl, ?_⟩) ?_ ?_
                  rotate_left
                  ·
                   intro w'
                   go_simp
                   with_reducible rfl
                  rotate_left
                  ·
                   simp only [Act.put, List.setIfInBounds_toArray, List.set_cons_zero, List.set_cons_succ, i64_w, i32_w]
                   rfl
                  refine pure_ (i := 10) (N := some 90) (v := ?_) (a' := ?_) #[true, true, true, true, false, false, true, true, true, false, true, false, false, false, false, false] rfl rfl (any_of HT_.out (by kernel_rfl)) (fun _ _ _ h => h) (Or.inl ⟨by rfl, ?_⟩) ?_ ?_
                  rotate_left
                  ·
                   intro w'
                   go_simp
                   with_reducible rfl
                  rotate_left
                  ·
                   simp only [Act.put, List.setIfInBounds_toArray, List.set_cons_zero, List.set_cons_succ, i64_w, i32_w]
                   rfl
                  refine pure_ (i := 12) (N := some 92) (v := ?_) (a' := ?_) #[true, true, true, true, false, false, true, true, true, false, true, false, true, false, false, false] rfl rfl (any_of HT_.out (by kernel_rfl)) (fun _ _ _ h => h) (Or.inl ⟨by rfl, ?_⟩) ?_ ?_
                  rotate_left
                  ·
                   intro w'
                   go_simp
                   with_reducible rfl
                  rotate_left
                  ·
                   simp only [Act.put, List.setIfInBounds_toArray, List.set_cons_zero, List.set_cons_succ, i64_w, i32_w]
                   rfl
                  refine take_ (i := 4) (N := some 84) (v := ?_) (a' := ?_) #[true, true, true, true, true, false, true, true, true, false, true, false, true, false, false, false] rfl rfl (take_ofW HT_.out HW_.out (by kernel_rfl)) (fun _ _ _ h => h) (Or.inl ⟨by rfl, ?_⟩) hHeld ?_ ?_
                  rotate_left
                  ·
                   rintro w' ⟨s0, s1, s2, s3, s4, s5, s6, s7, s8, s9, s10, s11⟩
                   go_simp
                   with_reducible rfl
                  rotate_left
                  ·
                   simp only [Act.put, List.setIfInBounds_toArray, List.set_cons_zero, List.set_cons_succ, i64_w, i32_w]
                   rfl
                  refine take_ (i := 9) (N := some 89) (v := ?_) (a' := ?_) #[true, true, true, true, true, false, true, true, true, true, true, false, true, false, false, false] rfl rfl (take_ofW HT_.out HW_.out (by kernel_rfl)) (fun _ _ _ h => h) (Or.inl ⟨by rfl, ?_⟩) hHeld ?_ ?_
                  rotate_left
                  ·
                   rintro w' ⟨s0, s1, s2, s3, s4, s5, s6, s7, s8, s9, s10, s11⟩
                   go_simp
                   with_reducible rfl
                  rotate_left
                  ·
                   simp only [Act.put, List.setIfInBounds_toArray, List.set_cons_zero, List.set_cons_succ, i64_w, i32_w]
                   rfl
                  refine take_ (i := 11) (N := some 91) (v := ?_) (a' := ?_) #[true, true, true, true, true, false, true, true, true, true, true, true, true, false, false, false] rfl rfl (take_ofW HT_.out HW_.out (by kernel_rfl)) (fun _ _ _ h => h) (Or.inl ⟨by rfl, ?_⟩) hHeld ?_ ?_
                  rotate_left
                  ·
                   rintro w' ⟨s0, s1, s2, s3, s4, s5, s6, s7, s8, s9, s10, s11⟩
                   go_simp
                   with_reducible rfl
                  rotate_left
                  ·
                   simp only [Act.put, List.setIfInBounds_toArray, List.set_cons_zero, List.set_cons_succ, i64_w, i32_w]
                   rfl
                  refine one_ (i := 5) (N := some 85) #[true, true, true, true, true, true, true, true, true, true, true, true, true, false, false, false] rfl rfl (one_of HT_.out (by kernel_rfl)) (by decide) (fun K hK => ?_)
                  refine Kd.R_lit_step k42 _ 42 ?hg (N := 85) ?hd (xs := ([(⟨(⟨a5_0, a5_1⟩ : S25), a5_2, a5_3, a5_4⟩ : S42)] : List (S42))) (inner := [.int .i64 a5_0, .int .i64 a5_1, .int .i64 a5_2, .int .i64 a5_3, .int .i64 a5_4]) (ok := fun _ => True) (okp := fun _ => True) ?hr ?hp (fun _ hk => hk) trivial (Below.refl _ _) (Nat.le_refl _) (by simp) ?_; (case hd => rfl); (case hg => rfl); (case hr => first | (go_simp; done) | (go_simp; rfl)); (case hp => exact (Reps.c5 (show Kd.M k42 _ _ _ (⟨(⟨a5_0, a5_1⟩ : S25), a5_2, a5_3, a5_4⟩ : S42) [.int .i64 a5_0, .int .i64 a5_1, .int .i64 a5_2, .int .i64 a5_3, .int .i64 a5_4] from (k42_mkM _ _ _ (⟨(⟨a5_0, a5_1⟩ : S25), a5_2, a5_3, a5_4⟩ : S42) )) (Reps.none _ _)))
                  intro v161 w76 ho77 hb hg_ hnew_
                  clear hg_ hnew_
                  (first | rw [← Ny160.out] at ho77 | (simp only [Int.reduceToNat] at ho77; rw [← Ny160.out] at ho77))
                  have n0_ := Aside0.mk (Kd.R_below (by (with_reducible repeat (first | apply Kd.R_alloc | apply Kd.R_drewN | apply Kd.R_drew)); exact HO_14.out) hb)
                  have n1_ := Aside0.mk (Kd.R_below (by (with_reducible repeat (first | apply Kd.R_alloc | apply Kd.R_drewN | apply Kd.R_drew)); exact HO_16.out) hb)
                  have n2_ := Aside0.mk (Kd.R_lower (Kd.R_newB ho77 (g := gb135) (o := .cells #[.int .i64 a5_0, .int .i64 a5_1, .int .i64 a5_2, .int .i64 a5_3, .int .i64 a5_4] 42 (0, 0)) (by (with_reducible repeat (first | refine blk_drewN ?_ _ | refine blk_drew ?_ | refine blk_alloc ?_ _)); exact BK135.out)) (below_size (by repeat (first | (with_reducible first | exact HB.out | apply below_alloc | apply pw_below_drewN | apply below_drew1 | refine below_set ?_ GE135.out | refine below_set ?_ GE159.out) | exact HB.out))))
                  have n3_ := Aside0.mk (blk_below (g := gb135) (o := .cells #[.int .i64 a5_0, .int .i64 a5_1, .int .i64 a5_2, .int .i64 a5_3, .int .i64 a5_4] 42 (0, 0)) (by (with_reducible repeat (first | refine blk_drewN ?_ _ | refine blk_drew ?_ | refine blk_alloc ?_ _)); exact BK135.out) hb)
                  have n4_ := Aside0.mk (blk_below (g := gb159) (o := .cells #[.int .i64 ((rd_T50 l0 x75_2).f0), .int .i64 ((rd_T50 l0 x75_2).f1), .int .i64 ((rd_T50 l0 x75_2).f2), .int .i64 ((rd_T50 l0 x75_2).f3.f0), .int .i64 ((rd_T50 l0 x75_2).f3.f1)] 50 (0, 0)) (by (with_reducible repeat (first | refine blk_drewN ?_ _ | refine blk_drew ?_ | refine blk_alloc ?_ _)); exact BK159.out) hb)
                  have n5_ := Aside0.mk (below_step (by repeat (first | (with_reducible first | exact HB.out | apply below_alloc | apply pw_below_drewN | apply below_drew1 | refine below_set ?_ GE135.out | refine below_set ?_ GE159.out) | exact HB.out)) hb)
                  clear HO_14
                  clear HO_16
                  clear BK135
                  clear BK159
                  clear HB
                  have HO_14 := n0_
                  have HO_16 := n1_
                  have HO162 := n2_
                  have BK135 := n3_
                  have BK159 := n4_
                  have HB := n5_
                  clear n0_ n1_ n2_ n3_ n4_ n5_
                  clear hb ho77
                  obtain ⟨Ao78, co78, eo78⟩ := Kd.R_slice HO162.out
                  (first | subst eo78 | (injection eo78 with f1_ f2_ f3_; have f4_ := f1_.symm; have f5_ := f3_.symm; clear f1_ f2_ f3_; subst f4_; subst f5_))
                  refine hK.out _ _ ⟨(blk_cell BK159.out 0).trans rfl, (blk_cell BK159.out 1).trans rfl, (blk_cell BK159.out 2).trans rfl, (blk_cell BK159.out 3).trans rfl, (blk_cell BK159.out 4).trans rfl, (blk_cell BK135.out 0).trans rfl, (blk_cell BK135.out 1).trans rfl, (blk_cell BK135.out 2).trans rfl, (blk_cell BK135.out 3).trans rfl, (blk_cell BK135.out 4).trans rfl, ((HB.out.cell (World.block_lt_of_cell? w _ hw163_0)).trans hw163_0), ((HB.out.cell (World.block_lt_of_cell? w _ hw163_1)).trans hw163_1)⟩ (fun hHeld => ?_)
                  clear hK K
                  refine norm_ (a' := ?_) ?_ ?_
                  rotate_left
                  ·
                   show Act.put _ (some 85) _ = _
                   simp only [Act.put, List.setIfInBounds_toArray, List.set_cons_zero, List.set_cons_succ, i64_w, i32_w]
                   rfl
                  refine one_ (i := 13) (N := some 93) #[true, true, true, true, true, true, true, true, true, true, true, true, true, true, false, false] rfl rfl (one_of HT_.out (by kernel_rfl)) (by decide) (fun K hK => ?_)
                  refine goes_ Try.func23 (by kernel_rfl) rfl #[.slice Ao78 y160.length co78, .agg #[.int .i64 ((rd_T25 l1 x75_2).f0), .int .i64 ((rd_T25 l1 x75_2).f1)], .int .i64 ((rd_T50 l0 x75_2).f1), .int .i64 a4] (by rfl) rfl rfl (by (try simp only [List.map_toArray, List.map_cons, List.map_nil]); first | done | rfl | (simp only [List.length_drop, List.length_take]; rfl)) ?_
                  with_reducible refine (plane_Jammed.calls _ _ y160 ((rd_T25 l1 x75_2).f0) ((rd_T25 l1 x75_2).f1) ((rd_T50 l0 x75_2).f1) a4 false _ ?side1 ?side2 A42.out).mono ?_
                  (case side1 => repeat (first | exact (Kd.R_reads' HO162.out).2.2 | (with_reducible refine Kd.C_alloc ?_ _) | (with_reducible refine Kd.C_drewN ?_ _) | (with_reducible refine Kd.C_drew ?_)))
                  (case side2 => exact (Kd.R_reads' HO162.out).2.1)
                  rintro e w79 ⟨rfl, hb⟩
                  refine ⟨_, rfl, ?_⟩
                  have n0_ := Aside0.mk (Kd.R_below (by (with_reducible repeat (first | apply Kd.R_alloc | apply Kd.R_drewN | apply Kd.R_drew)); exact HO_14.out) hb)
                  have n1_ := Aside0.mk (Kd.R_below (by (with_reducible repeat (first | apply Kd.R_alloc | apply Kd.R_drewN | apply Kd.R_drew)); exact HO_16.out) hb)
                  have n2_ := Aside0.mk (Kd.R_below (by (with_reducible repeat (first | apply Kd.R_alloc | apply Kd.R_drewN | apply Kd.R_drew)); exact HO162.out) hb)
                  have n3_ := Aside0.mk (blk_below (g := gb135) (o := .cells #[.int .i64 a5_0, .int .i64 a5_1, .int .i64 a5_2, .int .i64 a5_3, .int .i64 a5_4] 42 (0, 0)) (by (with_reducible repeat (first | refine blk_drewN ?_ _ | refine blk_drew ?_ | refine blk_alloc ?_ _)); exact BK135.out) hb)
                  have n4_ := Aside0.mk (blk_below (g := gb159) (o := .cells #[.int .i64 ((rd_T50 l0 x75_2).f0), .int .i64 ((rd_T50 l0 x75_2).f1), .int .i64 ((rd_T50 l0 x75_2).f2), .int .i64 ((rd_T50 l0 x75_2).f3.f0), .int .i64 ((rd_T50 l0 x75_2).f3.f1)] 50 (0, 0)) (by (with_reducible repeat (first | refine blk_drewN ?_ _ | refine blk_drew ?_ | refine blk_alloc ?_ _)); exact BK159.out) hb)
                  have n5_ := Aside0.mk (below_step (by repeat (first | (with_reducible first | exact HB.out | apply below_alloc | apply pw_below_drewN | apply below_drew1 | refine below_set ?_ GE135.out | refine below_set ?_ GE159.out) | exact HB.out)) hb)
                  clear HO_14
                  clear HO_16
                  clear HO162
                  clear BK135
                  clear BK159
                  clear HB
                  have HO_14 := n0_
                  have HO_16 := n1_
                  have HO162 := n2_
                  have BK135 := n3_
                  have BK159 := n4_
                  have HB := n5_
                  clear n0_ n1_ n2_ n3_ n4_ n5_
                  (try clear hb)
                  (try clear hb2)
                  (try clear hk)
                  (try clear hi)
                  refine hK.out _ _ ⟨(blk_cell BK159.out 0).trans rfl, (blk_cell BK159.out 1).trans rfl, (blk_cell BK159.out 2).trans rfl, (blk_cell BK159.out 3).trans rfl, (blk_cell BK159.out 4).trans rfl, (blk_cell BK135.out 0).trans rfl, (blk_cell BK135.out 1).trans rfl, (blk_cell BK135.out 2).trans rfl, (blk_cell BK135.out 3).trans rfl, (blk_cell BK135.out 4).trans rfl, ((HB.out.cell (World.block_lt_of_cell? w _ hw163_0)).trans hw163_0), ((HB.out.cell (World.block_lt_of_cell? w _ hw163_1)).trans hw163_1)⟩ (fun hHeld => ?_)
                  clear hK K
                  refine norm_ (a' := ?_) ?_ ?_
                  rotate_left
                  ·
                   show Act.put _ (some 93) _ = _
                   simp only [Act.put, List.setIfInBounds_toArray, List.set_cons_zero, List.set_cons_succ, i64_w, i32_w]
                   rfl
                  refine pure_ (i := 14) (N := some 94) (v := ?_) (a' := ?_) #[true, true, true, true, true, true, true, true, true, true, true, true, true, true, true, false] rfl rfl (any_of HT_.out (by kernel_rfl)) (fun _ _ _ h => h) (Or.inl ⟨by rfl, ?_⟩) ?_ ?_
                  rotate_left
                  ·
                   intro w'
                   go_simp
                   with_reducible rfl
                  rotate_left
                  ·
                   simp only [Act.put, List.setIfInBounds_toArray, List.set_cons_zero, List.set_cons_succ, i64_w, i32_w]
                   rfl
                  refine pure_ (i := 15) (N := some 20) (v := ?_) (a' := ?_) #[true, true, true, true, true, true, true, true, true, true, true, true, true, true, true, true] rfl rfl (any_of HT_.out (by kernel_rfl)) (fun _ _ _ h => h) (Or.inl ⟨by rfl, ?_⟩) ?_ ?_
                  rotate_left
                  ·
                   intro w'
                   go_simp
                   with_reducible rfl
                  rotate_left
                  ·
                   simp only [Act.put, List.setIfInBounds_toArray, List.set_cons_zero, List.set_cons_succ, i64_w, i32_w]
                   rfl
                  refine done_ (done_of HT_.out (by kernel_rfl)) ?_
                  try go_wp2
                  have n0_ := Aside0.mk (Kd.R_drew HO_14.out)
                  have n1_ := Aside0.mk (Kd.R_drew HO_16.out)
                  have n2_ := Aside0.mk (Kd.R_drew HO162.out)
                  have n3_ := Aside0.mk (blk_drew BK135.out)
                  have n4_ := Aside0.mk (blk_drew BK159.out)
                  have n5_ := Aside0.mk (below_drew1 HB.out)
                  clear HO_14
                  clear HO_16
                  clear HO162
                  clear BK135
                  clear BK159
                  clear HB
                  have HO_14 := n0_
                  have HO_16 := n1_
                  have HO162 := n2_
                  have BK135 := n3_
                  have BK159 := n4_
                  have HB := n5_
                  clear n0_ n1_ n2_ n3_ n4_ n5_
                  obtain ⟨Ao81, co81, eo81⟩ := Kd.R_slice HO_14.out
                  (first | subst eo81 | (injection eo81 with f1_ f2_ f3_; have f4_ := f1_.symm; have f5_ := f3_.symm; clear f1_ f2_ f3_; subst f4_; subst f5_))
                  have p166 : 0 ≤ (x75_2 : Int) := of_decide_eq_true (by first | (with_reducible assumption) | assumption)
                  have q166 : x75_2 < (t138.length : Int) := of_decide_eq_true (by first | (with_reducible assumption) | assumption)
                  obtain ⟨ad166, e166, hx166_0⟩ := Kd.at_int (Kd.R_reads' HO_14.out).2.2 x75_2 p166 q166
                  cases e166
                  replace p166 := eq_true p166
                  replace q166 := eq_true q166
                  obtain ⟨Ao82, co82, eo82⟩ := Kd.R_slice HO_16.out
                  (first | subst eo82 | (injection eo82 with f1_ f2_ f3_; have f4_ := f1_.symm; have f5_ := f3_.symm; clear f1_ f2_ f3_; subst f4_; subst f5_))
                  have p167 : 0 ≤ (x75_2 : Int) := of_decide_eq_true (by first | (with_reducible assumption) | assumption)
                  have q167 : x75_2 < (t154.length : Int) := of_decide_eq_true (by first | (with_reducible assumption) | assumption)
                  obtain ⟨ad167, e167, hx167_0⟩ := Kd.at_int (Kd.R_reads' HO_16.out).2.2 x75_2 p167 q167
                  cases e167
                  replace p167 := eq_true p167
                  replace q167 := eq_true q167
                  refine start_ (n := 23) (S := fun w' => w'.cell? (ad166.add (x75_2).toNat) = some (.int .i64 (rd t138 x75_2)) ∧ w'.cell? (ad167.add (x75_2).toNat) = some (.int .i64 (rd t154 x75_2))) (ds := []) #[false, false, false, false, false, false, false, false, false, false, false, false, false, false, false, false, false, false, false, false, false, false, false] (by kernel_rfl) rfl rfl ⟨hx166_0, hx167_0⟩ (fun hHeld => ?_); refine with_tabW slotmeshlaw17_MediumJams.tab12 slotmeshlaw17_MediumJams.bits12 (fun HT_ HW_ => ?_)
                  generalize w79.drew = w80 at HO_14 HO_16 HO162 BK135 BK159 HB hx166_0 hx167_0 hHeld ⊢
                  refine pure_ (i := 0) (N := some 95) (v := ?_) (a' := ?_) #[true, false, false, false, false, false, false, false, false, false, false, false, false, false, false, false, false, false, false, false, false, false, false] rfl rfl (any_of HT_.out (by kernel_rfl)) (fun _ _ _ h => h) (Or.inl ⟨by rfl, ?_⟩) ?_ ?_
                  rotate_left
                  ·
                   intro w'
                   go_simp
                   with_reducible rfl
                  rotate_left
                  ·
                   simp only [Act.put, List.setIfInBounds_toArray, List.set_cons_zero, List.set_cons_succ, i64_w, i32_w]
                   rfl
                  refine pure_ (i := 1) (N := some 96) (v := ?_) (a' := ?_) #[true, true, false, false, false, false, false, false, false, false, false, false, false, false, false, false, false, false, false, false, false, false, false] rfl rfl (any_of HT_.out (by kernel_rfl)) (fun _ _ _ h => h) (Or.inl ⟨by rfl, ?_⟩) ?_ ?_
                  rotate_left
                  ·
                   intro w'
                   go_simp
                   with_reducible rfl
                  rotate_left
                  ·
                   simp only [Act.put, List.setIfInBounds_toArray, List.set_cons_zero, List.set_cons_succ, i64_w, i32_w]
                   rfl
                  refine pure_ (i := 2) (N := some 97) (v := undef) (a' := ?_) #[true, true, true, false, false, false, false, false, false, false, false, false, false, false, false, false, false, false, false, false, false, false, false] rfl rfl (any_of HT_.out (by kernel_rfl)) (fun _ _ _ h => h) (Or.inr ⟨by rfl, rfl⟩) ?_ ?_
                  rotate_left
                  ·
                   simp only [Act.put, List.setIfInBounds_toArray, List.set_cons_zero, List.set_cons_succ, i64_w, i32_w]
                   rfl
                  refine pure_ (i := 3) (N := some 98) (v := undef) (a' := ?_) #[true, true, true, true, false, false, false, false, false, false, false, false, false, false, false, false, false, false, false, false, false, false, false] rfl rfl (any_of HT_.out (by kernel_rfl)) (fun _ _ _ h => h) (Or.inr ⟨by rfl, rfl⟩) ?_ ?_
                  rotate_left
                  ·
                   simp only [Act.put, List.setIfInBounds_toArray, List.set_cons_zero, List.set_cons_succ, i64_w, i32_w]
                   rfl
                  refine pure_ (i := 4) (N := some 99) (v := undef) (a' := ?_) #[true, true, true, true, true, false, false, false, false, false, false, false, false, false, false, false, false, false, false, false, false, false, false] rfl rfl (any_of HT_.out (by kernel_rfl)) (fun _ _ _ h => h) (Or.inr ⟨by rfl, rfl⟩) ?_ ?_
                  rotate_left
                  ·
                   simp only [Act.put, List.setIfInBounds_toArray, List.set_cons_zero, List.set_cons_succ, i64_w, i32_w]
                   rfl
                  refine pure_ (i := 5) (N := some 100) (v := undef) (a' := ?_) #[true, true, true, true, true, true, false, false, false, false, false, false, false, false, false, false, false, false, false, false, false, false, false] rfl rfl (any_of HT_.out (by kernel_rfl)) (fun _ _ _ h => h) (Or.inr ⟨by rfl, rfl⟩) ?_ ?_
                  rotate_left
                  ·
                   simp only [Act.put, List.setIfInBounds_toArray, List.set_cons_zero, List.set_cons_succ, i64_w, i32_w]
                   rfl
                  refine pure_ (i := 6) (N := some 101) (v := undef) (a' := ?_) #[true, true, true, true, true, true, true, false, false, false, false, false, false, false, false, false, false, false, false, false, false, false, false] rfl rfl (any_of HT_.out (by kernel_rfl)) (fun _ _ _ h => h) (Or.inr ⟨by rfl, rfl⟩) ?_ ?_
                  rotate_left
                  ·
                   simp only [Act.put, List.setIfInBounds_toArray, List.set_cons_zero, List.set_cons_succ, i64_w, i32_w]
                   rfl
                  refine pure_ (i := 7) (N := some 102) (v := ?_) (a' := ?_) #[true, true, true, true, true, true, true, true, false, false, false, false, false, false, false, false, false, false, false, false, false, false, false] rfl rfl (any_of HT_.out (by kernel_rfl)) (fun _ _ _ h => h) (Or.inl ⟨by rfl, ?_⟩) ?_ ?_
                  rotate_left
                  ·
                   intro w'
                   go_simp
                   with_reducible rfl
                  rotate_left
                  ·
                   simp only [Act.put, List.setIfInBounds_toArray, List.set_cons_zero, List.set_cons_succ, i64_w, i32_w]
                   rfl
                  refine pure_ (i := 8) (N := some 103) (v := ?_) (a' := ?_) #[true, true, true, true, true, true, true, true, true, false, false, false, false, false, false, false, false, false, false, false, false, false, false] rfl rfl (any_of HT_.out (by kernel_rfl)) (fun _ _ _ h => h) (Or.inl ⟨by rfl, ?_⟩) ?_ ?_
                  rotate_left
                  ·
                   intro w'
                   go_simp
                   with_reducible rfl
                  rotate_left
                  ·
                   simp only [Act.put, List.setIfInBounds_toArray, List.set_cons_zero, List.set_cons_succ, i64_w, i32_w]
                   rfl
                  refine pure_ (i := 9) (N := some 104) (v := ?_) (a' := ?_) #[true, true, true, true, true, true, true, true, true, true, false, false, false, false, false, false, false, false, false, false, false, false, false] rfl rfl (any_of HT_.out (by kernel_rfl)) (fun _ _ _ h => h) (Or.inl ⟨by rfl, ?_⟩) ?_ ?_
                  rotate_left
                  ·
                   intro w'
                   go_simp
                   with_reducible rfl
                  rotate_left
                  ·
                   simp only [Act.put, List.setIfInBounds_toArray, List.set_cons_zero, List.set_cons_succ, i64_w, i32_w]
                   rfl
                  refine pure_ (i := 10) (N := some 105) (v := ?_) (a' := ?_) #[true, true, true, true, true, true, true, true, true, true, true, false, false, false, false, false, false, false, false, false, false, false, false] rfl rfl (any_of HT_.out (by kernel_rfl)) (fun _ _ _ h => h) (Or.inl ⟨by rfl, ?_⟩) ?_ ?_
                  rotate_left
                  ·
                   intro w'
                   go_simp
                   with_reducible rfl
                  rotate_left
                  ·
                   simp only [Act.put, List.setIfInBounds_toArray, List.set_cons_zero, List.set_cons_succ, i64_w, i32_w]
                   rfl
                  refine pure_ (i := 11) (N := some 106) (v := ?_) (a' := ?_) #[true, true, true, true, true, true, true, true, true, true, true, true, false, false, false, false, false, false, false, false, false, false, false] rfl rfl (any_of HT_.out (by kernel_rfl)) (fun _ _ _ h => h) (Or.inl ⟨by rfl, ?_⟩) ?_ ?_
                  rotate_left
                  ·
                   intro w'
                   go_simp
                   with_reducible rfl
                  rotate_left
                  ·
                   simp only [Act.put, List.setIfInBounds_toArray, List.set_cons_zero, List.set_cons_succ, i64_w, i32_w]
                   rfl
                  refine pure_ (i := 12) (N := some 107) (v := ?_) (a' := ?_) #[true, true, true, true, true, true, true, true, true, true, true, true, true, false, false, false, false, false, false, false, false, false, false] rfl rfl (any_of HT_.out (by kernel_rfl)) (fun _ _ _ h => h) (Or.inl ⟨by rfl, ?_⟩) ?_ ?_
                  rotate_left
                  ·
                   intro w'
                   go_simp
                   with_reducible rfl
                  rotate_left
                  ·
                   simp only [Act.put, List.setIfInBounds_toArray, List.set_cons_zero, List.set_cons_succ, i64_w, i32_w]
                   rfl
                  refine pure_ (i := 13) (N := some 108) (v := ?_) (a' := ?_) #[true, true, true, true, true, true, true, true, true, true, true, true, true, true, false, false, false, false, false, false, false, false, false] rfl rfl (any_of HT_.out (by kernel_rfl)) (fun _ _ _ h => h) (Or.inl ⟨by rfl, ?_⟩) ?_ ?_
                  rotate_left
                  ·
                   intro w'
                   go_simp
                   with_reducible rfl
                  rotate_left
                  ·
                   simp only [Act.put, List.setIfInBounds_toArray, List.set_cons_zero, List.set_cons_succ, i64_w, i32_w]
                   rfl
                  refine pure_ (i := 14) (N := some 109) (v := ?_) (a' := ?_) #[true, true, true, true, true, true, true, true, true, true, true, true, true, true, true, false, false, false, false, false, false, false, false] rfl rfl (any_of HT_.out (by kernel_rfl)) (fun _ _ _ h => h) (Or.inl ⟨by rfl, ?_⟩) ?_ ?_
                  rotate_left
                  ·
                   intro w'
                   go_simp
                   with_reducible rfl
                  rotate_left
                  ·
                   simp only [Act.put, List.setIfInBounds_toArray, List.set_cons_zero, List.set_cons_succ, i64_w, i32_w]
                   rfl
                  refine pure_ (i := 16) (N := some 111) (v := ?_) (a' := ?_) #[true, true, true, true, true, true, true, true, true, true, true, true, true, true, true, false, true, false, false, false, false, false, false] rfl rfl (any_of HT_.out (by kernel_rfl)) (fun _ _ _ h => h) (Or.inl ⟨by rfl, ?_⟩) ?_ ?_
                  rotate_left
                  ·
                   intro w'
                   go_simp
                   with_reducible rfl
                  rotate_left
                  ·
                   simp only [Act.put, List.setIfInBounds_toArray, List.set_cons_zero, List.set_cons_succ, i64_w, i32_w]
                   rfl
                  refine pure_ (i := 17) (N := some 112) (v := ?_) (a' := ?_) #[true, true, true, true, true, true, true, true, true, true, true, true, true, true, true, false, true, true, false, false, false, false, false] rfl rfl (any_of HT_.out (by kernel_rfl)) (fun _ _ _ h => h) (Or.inl ⟨by rfl, ?_⟩) ?_ ?_
                  rotate_left
                  ·
                   intro w'
                   go_simp
                   with_reducible rfl
                  rotate_left
                  ·
                   simp only [Act.put, List.setIfInBounds_toArray, List.set_cons_zero, List.set_cons_succ, i64_w, i32_w]
                   rfl
                  refine pure_ (i := 18) (N := some 113) (v := ?_) (a' := ?_) #[true, true, true, true, true, true, true, true, true, true, true, true, true, true, true, false, true, true, true, false, false, false, false] rfl rfl (any_of HT_.out (by kernel_rfl)) (fun _ _ _ h => h) (Or.inl ⟨by rfl, ?_⟩) ?_ ?_
                  rotate_left
                  ·
                   intro w'
                   go_simp
                   with_reducible rfl
                  rotate_left
                  ·
                   simp only [Act.put, List.setIfInBounds_toArray, List.set_cons_zero, List.set_cons_succ, i64_w, i32_w]
                   rfl
                  refine take_ (i := 15) (N := some 110) (v := ?_) (a' := ?_) #[true, true, true, true, true, true, true, true, true, true, true, true, true, true, true, true, true, true, true, false, false, false, false] rfl rfl (take_ofW HT_.out HW_.out (by kernel_rfl)) (fun _ _ _ h => h) (Or.inl ⟨by rfl, ?_⟩) hHeld ?_ ?_
                  rotate_left
                  ·
                   rintro w' ⟨s0, s1⟩
                   go_simp
                   with_reducible rfl
                  rotate_left
                  ·
                   simp only [Act.put, List.setIfInBounds_toArray, List.set_cons_zero, List.set_cons_succ, i64_w, i32_w]
                   rfl
                  refine take_ (i := 19) (N := some 114) (v := ?_) (a' := ?_) #[true, true, true, true, true, true, true, true, true, true, true, true, true, true, true, true, true, true, true, true, false, false, false] rfl rfl (take_ofW HT_.out HW_.out (by kernel_rfl)) (fun _ _ _ h => h) (Or.inl ⟨by rfl, ?_⟩) hHeld ?_ ?_
                  rotate_left
                  ·
                   rintro w' ⟨s0, s1⟩
                   go_simp
                   with_reducible rfl
                  rotate_left
                  ·
                   simp only [Act.put, List.setIfInBounds_toArray, List.set_cons_zero, List.set_cons_succ, i64_w, i32_w]
                   rfl
                  refine pure_ (i := 20) (N := some 115) (v := ?_) (a' := ?_) #[true, true, true, true, true, true, true, true, true, true, true, true, true, true, true, true, true, true, true, true, true, false, false] rfl rfl (any_of HT_.out (by kernel_rfl)) (fun _ _ _ h => h) (Or.inl ⟨by rfl, ?_⟩) ?_ ?_
                  rotate_left
                  ·
                   intro w'
                   go_simp
                   with_reducible rfl
                  rotate_left
                  ·
                   simp only [Act.put, List.setIfInBounds_toArray, List.set_cons_zero, List.set_cons_succ, i64_w, i32_w]
                   rfl
                  refine pure_ (i := 21) (N := some 116) (v := ?_) (a' := ?_) #[true, true, true, true, true, true, true, true, true, true, true, true, true, true, true, true, true, true, true, true, true, true, false] rfl rfl (any_of HT_.out (by kernel_rfl)) (fun _ _ _ h => h) (Or.inl ⟨by rfl, ?_⟩) ?_ ?_
                  rotate_left
                  ·
                   intro w'
                   go_simp
                   with_reducible rfl
                  rotate_left
                  ·
                   simp only [Act.put, List.setIfInBounds_toArray, List.set_cons_zero, List.set_cons_succ, i64_w, i32_w]
                   rfl
                  refine pure_ (i := 22) (N := some 117) (v := ?_) (a' := ?_) #[true, true, true, true, true, true, true, true, true, true, true, true, true, true, true, true, true, true, true, true, true, true, true] rfl rfl (any_of HT_.out (by kernel_rfl)) (fun _ _ _ h => h) (Or.inl ⟨by rfl, ?_⟩) ?_ ?_
                  rotate_left
                  ·
                   intro w'
                   go_simp
                   with_reducible rfl
                  rotate_left
                  ·
                   simp only [Act.put, List.setIfInBounds_toArray, List.set_cons_zero, List.set_cons_succ, i64_w, i32_w]
                   rfl
                  refine done_ (done_of HT_.out (by kernel_rfl)) ?_
                  try go_wp2
                  go_roundg k2
                  case measure => have := HJ13.out; have := HK2.out; omega
                  case rel => exact ⟨(wrap64 (x75_2 + 1)), (by first | rfl | (simp; done) | (simp [*]; done)), H', ⟨by have := HJ13.out; have := HK2.out; omega⟩, ⟨by (with_reducible repeat (first | apply Kd.R_alloc | apply Kd.R_drewN | apply Kd.R_drew)); exact HO_14.out⟩, ⟨by (with_reducible repeat (first | apply Kd.R_alloc | apply Kd.R_drewN | apply Kd.R_drew)); exact HO_16.out⟩, ⟨by (with_reducible repeat (first | refine blk_drewN ?_ _ | refine blk_drew ?_ | refine blk_alloc ?_ _)); exact BK135.out⟩, ⟨by repeat (first | (with_reducible first | exact HB.out | apply below_alloc | apply pw_below_drewN | apply below_drew1 | refine below_set ?_ GE135.out | refine below_set ?_ GE159.out) | exact HB.out)⟩⟩
                 ·
                  rw [if_neg c70] at H
                  exact absurd (Option.some.inj H) (by rw [HRT.out]; decide)
                ·
                 rw [if_neg c69] at H
                 exact absurd H (by simp)
               ·
                rw [if_neg c68] at H
                exact absurd H (by simp)
             ·
              rw [if_neg c41] at H
              exact absurd H (by simp)
            ·
             rw [if_neg c40] at H
             have c40b0 : (((rd_T50 l0 x75_2).f0) == 1) = false := beq_eq_false_iff_ne.mpr c40
             have c40b1 : (((rd_T50 l0 x75_2).f0) != 1) = true := bne_iff_ne.mpr c40
             by_cases c95 : x75_2 < (t138.length : Int)
             ·
              rw [if_pos c95] at H
              have c95b0 : decide (x75_2 < (t138.length : Int)) = true := decide_eq_true c95
              clear c95
              by_cases c96 : x75_2 < (t154.length : Int)
              ·
               rw [if_pos c96] at H
               have c96b0 : decide (x75_2 < (t154.length : Int)) = true := decide_eq_true c96
               clear c96
               by_cases c97 : (rd t138 x75_2) = (rd t154 x75_2)
               ·
                rw [if_pos c97] at H
                have c97b0 : ((rd t138 x75_2) == (rd t154 x75_2)) = true := beq_iff_eq.mpr c97
                have c97b1 : ((rd t138 x75_2) != (rd t154 x75_2)) = false := bne_eq_false_iff_eq.mpr c97
                clear c97
                have H' := Aside0.mk H
                clear H
                have p158 : 0 ≤ (x75_2 : Int) := of_decide_eq_true (by first | (with_reducible assumption) | assumption)
                have q158 : x75_2 < (l0.length : Int) := of_decide_eq_true (by first | (with_reducible assumption) | assumption)
                obtain ⟨ad158, e158, hx158_0, hx158_1, hx158_2, hx158_3, hx158_4⟩ := at_T50 HR0.out x75_2 p158 q158
                cases e158
                replace hx158_0 := (HB.out.cell (World.block_lt_of_cell? w _ hx158_0)).trans hx158_0
                replace hx158_1 := (HB.out.cell (World.block_lt_of_cell? w _ hx158_1)).trans hx158_1
                replace hx158_2 := (HB.out.cell (World.block_lt_of_cell? w _ hx158_2)).trans hx158_2
                replace hx158_3 := (HB.out.cell (World.block_lt_of_cell? w _ hx158_3)).trans hx158_3
                replace hx158_4 := (HB.out.cell (World.block_lt_of_cell? w _ hx158_4)).trans hx158_4
                replace p158 := eq_true p158
                replace q158 := eq_true q158
                try go_wp2_with (first | ((with_reducible refine gate_dst (N := 19) rfl ?_); (try (refine gate_guard (by rfl) ?_; dsimp only)); refine box_event ?hg (N := 19) ?hd (cs := #[.int .i64 0, .int .i64 0, .int .i64 0, .int .i64 0, .int .i64 0]) (t := 50) ?hr ?_; (case hd => rfl); (case hg => rfl); (case hr => first | (go_simp; done) | (go_simp; rfl)); intro gb159 hg w98 hbox hb; have n0_ := Aside0.mk (Kd.R_below (by (with_reducible repeat (first | apply Kd.R_alloc | apply Kd.R_drewN | apply Kd.R_drew)); exact HO_14.out) hb); have n1_ := Aside0.mk (Kd.R_below (by (with_reducible repeat (first | apply Kd.R_alloc | apply Kd.R_drewN | apply Kd.R_drew)); exact HO_16.out) hb); have n2_ := Aside0.mk (blk_below (g := gb135) (o := .cells #[.int .i64 a5_0, .int .i64 a5_1, .int .i64 a5_2, .int .i64 a5_3, .int .i64 a5_4] 42 (0, 0)) (by (with_reducible repeat (first | refine blk_drewN ?_ _ | refine blk_drew ?_ | refine blk_alloc ?_ _)); exact BK135.out) hb); have n3_ := Aside0.mk (below_step (by repeat (first | (with_reducible first | exact HB.out | apply below_alloc | apply pw_below_drewN | apply below_drew1 | refine below_set ?_ GE135.out) | exact HB.out)) hb); have n4_ := Aside0.mk (hbox); have n5_ := Aside0.mk ((by rw [hg]; exact (below_size (by repeat (first | (with_reducible first | exact HB.out | apply below_alloc | apply pw_below_drewN | apply below_drew1 | refine below_set ?_ GE135.out) | exact HB.out))) : w.heap.size ≤ gb159)); have n6_ := Aside0.mk ((by rw [hg]; exact (below_size (by repeat (first | (with_reducible first | exact HB.out | apply below_alloc | apply pw_below_drewN | apply below_drew1 | refine below_set ?_ GE135.out) | exact HB.out))) : w.heap.size ≤ gb159)); have n7_ := Aside0.mk ((by rw [hg]; exact Nat.ne_of_lt (blk_lt (g := gb135) (o := .cells #[.int .i64 a5_0, .int .i64 a5_1, .int .i64 a5_2, .int .i64 a5_3, .int .i64 a5_4] 42 (0, 0)) (by (with_reducible repeat (first | refine blk_drewN ?_ _ | refine blk_drew ?_ | refine blk_alloc ?_ _)); exact BK135.out)) : gb135 ≠ gb159)); have n8_ := Aside0.mk ((by rw [hg]; exact Nat.ne_of_gt (blk_lt (g := gb135) (o := .cells #[.int .i64 a5_0, .int .i64 a5_1, .int .i64 a5_2, .int .i64 a5_3, .int .i64 a5_4] 42 (0, 0)) (by (with_reducible repeat (first | refine blk_drewN ?_ _ | refine blk_drew ?_ | refine blk_alloc ?_ _)); exact BK135.out)) : gb159 ≠ gb135)); clear HO_14; clear HO_16; clear BK135; clear HB; have HO_14 := n0_; have HO_16 := n1_; have BK135 := n2_; have HB := n3_; have BK159 := n4_; have GW159 := n5_; have GE159 := n6_; have NB135_159 := n7_; have NB159_135 := n8_; clear n0_ n1_ n2_ n3_ n4_ n5_ n6_ n7_ n8_; clear hb hbox hg; have hnb99 := NB159_135.out; have hnc99 := NB135_159.out; have hcz100_0 : w98.cell? ⟨gb159, 0, none⟩ = some (.int .i64 0) := (blk_cell BK159.out 0).trans rfl; have hcz100_1 : w98.cell? ⟨gb159, 1, none⟩ = some (.int .i64 0) := (blk_cell BK159.out 1).trans rfl; have hcz100_2 : w98.cell? ⟨gb159, 2, none⟩ = some (.int .i64 0) := (blk_cell BK159.out 2).trans rfl; have hcz100_3 : w98.cell? ⟨gb159, 3, none⟩ = some (.int .i64 0) := (blk_cell BK159.out 3).trans rfl; have hcz100_4 : w98.cell? ⟨gb159, 4, none⟩ = some (.int .i64 0) := (blk_cell BK159.out 4).trans rfl; have hfz100_0 := blk_frozen BK159.out 0; have hfz100_1 := blk_frozen BK159.out 1; have hfz100_2 := blk_frozen BK159.out 2; have hfz100_3 := blk_frozen BK159.out 3; have hfz100_4 := blk_frozen BK159.out 4))
                have n0_ : Aside0 (Kd.R (Kd.int .i64) 3 (((((w98.setCell ⟨gb159, 0, none⟩ (.int .i64 ((rd_T50 l0 x75_2).f0))).setCell ⟨gb159, 1, none⟩ (.int .i64 ((rd_T50 l0 x75_2).f1))).setCell ⟨gb159, 2, none⟩ (.int .i64 ((rd_T50 l0 x75_2).f2))).setCell ⟨gb159, 3, none⟩ (.int .i64 ((rd_T50 l0 x75_2).f3.f0))).setCell ⟨gb159, 4, none⟩ (.int .i64 ((rd_T50 l0 x75_2).f3.f1))) w.heap.size (fun k_ => some k_ ≠ (v156 : Value).ownBlock) v140 t138) := ⟨by (with_reducible repeat (first | apply Kd.R_alloc | apply Kd.R_drewN | apply Kd.R_drew)); exact Kd.R_mono (Kd.R_far (p := ⟨gb159, 4, none⟩) (Kd.R_far (p := ⟨gb159, 3, none⟩) (Kd.R_far (p := ⟨gb159, 2, none⟩) (Kd.R_far (p := ⟨gb159, 1, none⟩) (Kd.R_far (p := ⟨gb159, 0, none⟩) (Kd.R_types HO_14.out BK159.out (by decide)) (fun _ hk => hk.2) (.int .i64 ((rd_T50 l0 x75_2).f0))) (fun _ hk => hk.2) (.int .i64 ((rd_T50 l0 x75_2).f1))) (fun _ hk => hk.2) (.int .i64 ((rd_T50 l0 x75_2).f2))) (fun _ hk => hk.2) (.int .i64 ((rd_T50 l0 x75_2).f3.f0))) (fun _ hk => hk.2) (.int .i64 ((rd_T50 l0 x75_2).f3.f1))) (fun _ hk => hk.1)⟩
                have n1_ : Aside0 (Kd.R (Kd.int .i64) 3 (((((w98.setCell ⟨gb159, 0, none⟩ (.int .i64 ((rd_T50 l0 x75_2).f0))).setCell ⟨gb159, 1, none⟩ (.int .i64 ((rd_T50 l0 x75_2).f1))).setCell ⟨gb159, 2, none⟩ (.int .i64 ((rd_T50 l0 x75_2).f2))).setCell ⟨gb159, 3, none⟩ (.int .i64 ((rd_T50 l0 x75_2).f3.f0))).setCell ⟨gb159, 4, none⟩ (.int .i64 ((rd_T50 l0 x75_2).f3.f1))) w.heap.size (fun k_ => some k_ ≠ (v140 : Value).ownBlock) v156 t154) := ⟨by (with_reducible repeat (first | apply Kd.R_alloc | apply Kd.R_drewN | apply Kd.R_drew)); exact Kd.R_mono (Kd.R_far (p := ⟨gb159, 4, none⟩) (Kd.R_far (p := ⟨gb159, 3, none⟩) (Kd.R_far (p := ⟨gb159, 2, none⟩) (Kd.R_far (p := ⟨gb159, 1, none⟩) (Kd.R_far (p := ⟨gb159, 0, none⟩) (Kd.R_types HO_16.out BK159.out (by decide)) (fun _ hk => hk.2) (.int .i64 ((rd_T50 l0 x75_2).f0))) (fun _ hk => hk.2) (.int .i64 ((rd_T50 l0 x75_2).f1))) (fun _ hk => hk.2) (.int .i64 ((rd_T50 l0 x75_2).f2))) (fun _ hk => hk.2) (.int .i64 ((rd_T50 l0 x75_2).f3.f0))) (fun _ hk => hk.2) (.int .i64 ((rd_T50 l0 x75_2).f3.f1))) (fun _ hk => hk.1)⟩
                have n2_ : Aside0 ((((((w98.setCell ⟨gb159, 0, none⟩ (.int .i64 ((rd_T50 l0 x75_2).f0))).setCell ⟨gb159, 1, none⟩ (.int .i64 ((rd_T50 l0 x75_2).f1))).setCell ⟨gb159, 2, none⟩ (.int .i64 ((rd_T50 l0 x75_2).f2))).setCell ⟨gb159, 3, none⟩ (.int .i64 ((rd_T50 l0 x75_2).f3.f0))).setCell ⟨gb159, 4, none⟩ (.int .i64 ((rd_T50 l0 x75_2).f3.f1))).heap[gb135]? = some (.cells #[.int .i64 a5_0, .int .i64 a5_1, .int .i64 a5_2, .int .i64 a5_3, .int .i64 a5_4] 42 (0, 0))) := ⟨by (with_reducible repeat (first | refine blk_drewN ?_ _ | refine blk_drew ?_ | refine blk_alloc ?_ _)); refine blk_far ?_ NB135_159.out _; (with_reducible repeat (first | refine blk_drewN ?_ _ | refine blk_drew ?_ | refine blk_alloc ?_ _)); refine blk_far ?_ NB135_159.out _; (with_reducible repeat (first | refine blk_drewN ?_ _ | refine blk_drew ?_ | refine blk_alloc ?_ _)); refine blk_far ?_ NB135_159.out _; (with_reducible repeat (first | refine blk_drewN ?_ _ | refine blk_drew ?_ | refine blk_alloc ?_ _)); refine blk_far ?_ NB135_159.out _; (with_reducible repeat (first | refine blk_drewN ?_ _ | refine blk_drew ?_ | refine blk_alloc ?_ _)); refine blk_far ?_ NB135_159.out _; (with_reducible repeat (first | refine blk_drewN ?_ _ | refine blk_drew ?_ | refine blk_alloc ?_ _)); exact BK135.out⟩
                have n3_ : Aside0 ((((((w98.setCell ⟨gb159, 0, none⟩ (.int .i64 ((rd_T50 l0 x75_2).f0))).setCell ⟨gb159, 1, none⟩ (.int .i64 ((rd_T50 l0 x75_2).f1))).setCell ⟨gb159, 2, none⟩ (.int .i64 ((rd_T50 l0 x75_2).f2))).setCell ⟨gb159, 3, none⟩ (.int .i64 ((rd_T50 l0 x75_2).f3.f0))).setCell ⟨gb159, 4, none⟩ (.int .i64 ((rd_T50 l0 x75_2).f3.f1))).heap[gb159]? = some (.cells #[.int .i64 ((rd_T50 l0 x75_2).f0), .int .i64 ((rd_T50 l0 x75_2).f1), .int .i64 ((rd_T50 l0 x75_2).f2), .int .i64 ((rd_T50 l0 x75_2).f3.f0), .int .i64 ((rd_T50 l0 x75_2).f3.f1)] 50 (0, 0))) := ⟨by (with_reducible repeat (first | refine blk_drewN ?_ _ | refine blk_drew ?_ | refine blk_alloc ?_ _)); refine blk_put (cs := #[.int .i64 ((rd_T50 l0 x75_2).f0), .int .i64 ((rd_T50 l0 x75_2).f1), .int .i64 ((rd_T50 l0 x75_2).f2), .int .i64 ((rd_T50 l0 x75_2).f3.f0), .int .i64 0]) ?_ 4 _ rfl; (with_reducible repeat (first | refine blk_drewN ?_ _ | refine blk_drew ?_ | refine blk_alloc ?_ _)); refine blk_put (cs := #[.int .i64 ((rd_T50 l0 x75_2).f0), .int .i64 ((rd_T50 l0 x75_2).f1), .int .i64 ((rd_T50 l0 x75_2).f2), .int .i64 0, .int .i64 0]) ?_ 3 _ rfl; (with_reducible repeat (first | refine blk_drewN ?_ _ | refine blk_drew ?_ | refine blk_alloc ?_ _)); refine blk_put (cs := #[.int .i64 ((rd_T50 l0 x75_2).f0), .int .i64 ((rd_T50 l0 x75_2).f1), .int .i64 0, .int .i64 0, .int .i64 0]) ?_ 2 _ rfl; (with_reducible repeat (first | refine blk_drewN ?_ _ | refine blk_drew ?_ | refine blk_alloc ?_ _)); refine blk_put (cs := #[.int .i64 ((rd_T50 l0 x75_2).f0), .int .i64 0, .int .i64 0, .int .i64 0, .int .i64 0]) ?_ 1 _ rfl; (with_reducible repeat (first | refine blk_drewN ?_ _ | refine blk_drew ?_ | refine blk_alloc ?_ _)); refine blk_put (cs := #[.int .i64 0, .int .i64 0, .int .i64 0, .int .i64 0, .int .i64 0]) ?_ 0 _ rfl; (with_reducible repeat (first | refine blk_drewN ?_ _ | refine blk_drew ?_ | refine blk_alloc ?_ _)); exact BK159.out⟩
                have n4_ : Aside0 (Below w.heap.size w (((((w98.setCell ⟨gb159, 0, none⟩ (.int .i64 ((rd_T50 l0 x75_2).f0))).setCell ⟨gb159, 1, none⟩ (.int .i64 ((rd_T50 l0 x75_2).f1))).setCell ⟨gb159, 2, none⟩ (.int .i64 ((rd_T50 l0 x75_2).f2))).setCell ⟨gb159, 3, none⟩ (.int .i64 ((rd_T50 l0 x75_2).f3.f0))).setCell ⟨gb159, 4, none⟩ (.int .i64 ((rd_T50 l0 x75_2).f3.f1)))) := ⟨by repeat (first | (with_reducible first | exact HB.out | apply below_alloc | apply pw_below_drewN | apply below_drew1 | refine below_set ?_ GE135.out | refine below_set ?_ GE159.out) | exact HB.out)⟩
                (try clear HO_14)
                (try clear HO_16)
                (try clear BK135)
                (try clear BK159)
                (try clear HB)
                generalize (((((w98.setCell ⟨gb159, 0, none⟩ (.int .i64 ((rd_T50 l0 x75_2).f0))).setCell ⟨gb159, 1, none⟩ (.int .i64 ((rd_T50 l0 x75_2).f1))).setCell ⟨gb159, 2, none⟩ (.int .i64 ((rd_T50 l0 x75_2).f2))).setCell ⟨gb159, 3, none⟩ (.int .i64 ((rd_T50 l0 x75_2).f3.f0))).setCell ⟨gb159, 4, none⟩ (.int .i64 ((rd_T50 l0 x75_2).f3.f1))) = w101 at n0_ n1_ n2_ n3_ n4_ ⊢
                have HO_14 := n0_
                have HO_16 := n1_
                have BK135 := n2_
                have BK159 := n3_
                have HB := n4_
                clear n0_ n1_ n2_ n3_ n4_
                have n0_ := Aside0.mk (Kd.R_drew HO_14.out)
                have n1_ := Aside0.mk (Kd.R_drew HO_16.out)
                have n2_ := Aside0.mk (blk_drew BK135.out)
                have n3_ := Aside0.mk (blk_drew BK159.out)
                have n4_ := Aside0.mk (below_drew1 HB.out)
                clear HO_14
                clear HO_16
                clear BK135
                clear BK159
                clear HB
                have HO_14 := n0_
                have HO_16 := n1_
                have BK135 := n2_
                have BK159 := n3_
                have HB := n4_
                clear n0_ n1_ n2_ n3_ n4_
                refine start_ (n := 16) (S := fun w' => w'.cell? ⟨gb159, 0, none⟩ = some (.int .i64 ((rd_T50 l0 x75_2).f0)) ∧ w'.cell? ⟨gb159, 1, none⟩ = some (.int .i64 ((rd_T50 l0 x75_2).f1)) ∧ w'.cell? ⟨gb159, 2, none⟩ = some (.int .i64 ((rd_T50 l0 x75_2).f2)) ∧ w'.cell? ⟨gb159, 3, none⟩ = some (.int .i64 ((rd_T50 l0 x75_2).f3.f0)) ∧ w'.cell? ⟨gb159, 4, none⟩ = some (.int .i64 ((rd_T50 l0 x75_2).f3.f1))) (ds := []) #[false, false, false, false, false, false, false, false, false, false, false, false, false, false, false, false] (by kernel_rfl) rfl rfl ⟨(blk_cell BK159.out 0).trans rfl, (blk_cell BK159.out 1).trans rfl, (blk_cell BK159.out 2).trans rfl, (blk_cell BK159.out 3).trans rfl, (blk_cell BK159.out 4).trans rfl⟩ (fun hHeld => ?_); refine with_tabW slotmeshlaw17_MediumJams.tab11 slotmeshlaw17_MediumJams.bits11 (fun HT_ HW_ => ?_)
                generalize w101.drew = w102 at HO_14 HO_16 BK135 BK159 HB hHeld ⊢
                refine pure_ (i := 0) (N := some 80) (v := ?_) (a' := ?_) #[true, false, false, false, false, false, false, false, false, false, false, false, false, false, false, false] rfl rfl (any_of HT_.out (by kernel_rfl)) (fun _ _ _ h => h) (Or.inl ⟨by rfl, ?_⟩) ?_ ?_
                rotate_left
                ·
                 intro w'
                 go_simp
                 with_reducible rfl
                rotate_left
                ·
                 simp only [Act.put, List.setIfInBounds_toArray, List.set_cons_zero, List.set_cons_succ, i64_w, i32_w]
                 rfl
                refine take_ (i := 1) (N := some 81) (v := ?_) (a' := ?_) #[true, true, false, false, false, false, false, false, false, false, false, false, false, false, false, false] rfl rfl (take_ofW HT_.out HW_.out (by kernel_rfl)) (fun _ _ _ h => h) (Or.inl ⟨by rfl, ?_⟩) hHeld ?_ ?_
                rotate_left
                ·
                 rintro w' ⟨s0, s1, s2, s3, s4⟩
                 go_simp
                 with_reducible rfl
                rotate_left
                ·
                 simp only [Act.put, List.setIfInBounds_toArray, List.set_cons_zero, List.set_cons_succ, i64_w, i32_w]
                 rfl
                refine pure_ (i := 2) (N := some 82) (v := ?_) (a' := ?_) #[true, true, true, false, false, false, false, false, false, false, false, false, false, false, false, false] rfl rfl (any_of HT_.out (by kernel_rfl)) (fun _ _ _ h => h) (Or.inl ⟨by rfl, ?_⟩) ?_ ?_
                rotate_left
                ·
                 intro w'
                 go_simp
                 with_reducible rfl
                rotate_left
                ·
                 simp only [Act.put, List.setIfInBounds_toArray, List.set_cons_zero, List.set_cons_succ, i64_w, i32_w]
                 rfl
                refine pure_ (i := 3) (N := some 83) (v := ?_) (a' := ?_) #[true, true, true, true, false, false, false, false, false, false, false, false, false, false, false, false] rfl rfl (any_of HT_.out (by kernel_rfl)) (fun _ _ _ h => h) (Or.inl ⟨by rfl, ?_⟩) ?_ ?_
                rotate_left
                ·
                 intro w'
                 go_simp
                 with_reducible rfl
                rotate_left
                ·
                 simp only [Act.put, List.setIfInBounds_toArray, List.set_cons_zero, List.set_cons_succ, i64_w, i32_w]
                 rfl
                refine pure_ (i := 4) (N := some 84) (v := undef) (a' := ?_) #[true, true, true, true, true, false, false, false, false, false, false, false, false, false, false, false] rfl rfl (any_of HT_.out (by kernel_rfl)) (fun _ _ _ h => h) (Or.inr ⟨by rfl, rfl⟩) ?_ ?_
                rotate_left
                ·
                 simp only [Act.put, List.setIfInBounds_toArray, List.set_cons_zero, List.set_cons_succ, i64_w, i32_w]
                 rfl
                refine pure_ (i := 5) (N := some 85) (v := undef) (a' := ?_) #[true, true, true, true, true, true, false, false, false, false, false, false, false, false, false, false] rfl rfl (any_of HT_.out (by kernel_rfl)) (fun _ _ _ h => h) (Or.inr ⟨by rfl, rfl⟩) ?_ ?_
                rotate_left
                ·
                 simp only [Act.put, List.setIfInBounds_toArray, List.set_cons_zero, List.set_cons_succ, i64_w, i32_w]
                 rfl
                refine pure_ (i := 6) (N := some 86) (v := undef) (a' := ?_) #[true, true, true, true, true, true, true, false, false, false, false, false, false, false, false, false] rfl rfl (any_of HT_.out (by kernel_rfl)) (fun _ _ _ h => h) (Or.inr ⟨by rfl, rfl⟩) ?_ ?_
                rotate_left
                ·
                 simp only [Act.put, List.setIfInBounds_toArray, List.set_cons_zero, List.set_cons_succ, i64_w, i32_w]
                 rfl
                refine pure_ (i := 7) (N := some 87) (v := undef) (a' := ?_) #[true, true, true, true, true, true, true, true, false, false, false, false, false, false, false, false] rfl rfl (any_of HT_.out (by kernel_rfl)) (fun _ _ _ h => h) (Or.inr ⟨by rfl, rfl⟩) ?_ ?_
                rotate_left
                ·
                 simp only [Act.put, List.setIfInBounds_toArray, List.set_cons_zero, List.set_cons_succ, i64_w, i32_w]
                 rfl
                refine pure_ (i := 8) (N := some 88) (v := undef) (a' := ?_) #[true, true, true, true, true, true, true, true, true, false, false, false, false, false, false, false] rfl rfl (any_of HT_.out (by kernel_rfl)) (fun _ _ _ h => h) (Or.inr ⟨by rfl, rfl⟩) ?_ ?_
                rotate_left
                ·
                 simp only [Act.put, List.setIfInBounds_toArray, List.set_cons_zero, List.set_cons_succ, i64_w, i32_w]
                 rfl
                refine pure_ (i := 9) (N := some 89) (v := undef) (a' := ?_) #[true, true, true, true, true, true, true, true, true, true, false, false, false, false, false, false] rfl rfl (any_of HT_.out (by kernel_rfl)) (fun _ _ _ h => h) (Or.inr ⟨by rfl, rfl⟩) ?_ ?_
                rotate_left
                ·
                 simp only [Act.put, List.setIfInBounds_toArray, List.set_cons_zero, List.set_cons_succ, i64_w, i32_w]
                 rfl
                refine pure_ (i := 10) (N := some 90) (v := undef) (a' := ?_) #[true, true, true, true, true, true, true, true, true, true, true, false, false, false, false, false] rfl rfl (any_of HT_.out (by kernel_rfl)) (fun _ _ _ h => h) (Or.inr ⟨by rfl, rfl⟩) ?_ ?_
                rotate_left
                ·
                 simp only [Act.put, List.setIfInBounds_toArray, List.set_cons_zero, List.set_cons_succ, i64_w, i32_w]
                 rfl
                refine pure_ (i := 11) (N := some 91) (v := undef) (a' := ?_) #[true, true, true, true, true, true, true, true, true, true, true, true, false, false, false, false] rfl rfl (any_of HT_.out (by kernel_rfl)) (fun _ _ _ h => h) (Or.inr ⟨by rfl, rfl⟩) ?_ ?_
                rotate_left
                ·
                 simp only [Act.put, List.setIfInBounds_toArray, List.set_cons_zero, List.set_cons_succ, i64_w, i32_w]
                 rfl
                refine pure_ (i := 12) (N := some 92) (v := undef) (a' := ?_) #[true, true, true, true, true, true, true, true, true, true, true, true, true, false, false, false] rfl rfl (any_of HT_.out (by kernel_rfl)) (fun _ _ _ h => h) (Or.inr ⟨by rfl, rfl⟩) ?_ ?_
                rotate_left
                ·
                 simp only [Act.put, List.setIfInBounds_toArray, List.set_cons_zero, List.set_cons_succ, i64_w, i32_w]
                 rfl
                refine pure_ (i := 13) (N := some 93) (v := undef) (a' := ?_) #[true, true, true, true, true, true, true, true, true, true, true, true, true, true, false, false] rfl rfl (any_of HT_.out (by kernel_rfl)) (fun _ _ _ h => h) (Or.inr ⟨by rfl, rfl⟩) ?_ ?_
                rotate_left
                ·
                 simp only [Act.put, List.setIfInBounds_toArray, List.set_cons_zero, List.set_cons_succ, i64_w, i32_w]
                 rfl
                refine pure_ (i := 14) (N := some 94) (v := ?_) (a' := ?_) #[true, true, true, true, true, true, true, true, true, true, true, true, true, true, true, false] rfl rfl (any_of HT_.out (by kernel_rfl)) (fun _ _ _ h => h) (Or.inl ⟨by rfl, ?_⟩) ?_ ?_
                rotate_left
                ·
                 intro w'
                 go_simp
                 with_reducible rfl
                rotate_left
                ·
                 simp only [Act.put, List.setIfInBounds_toArray, List.set_cons_zero, List.set_cons_succ, i64_w, i32_w]
                 rfl
                refine pure_ (i := 15) (N := some 20) (v := ?_) (a' := ?_) #[true, true, true, true, true, true, true, true, true, true, true, true, true, true, true, true] rfl rfl (any_of HT_.out (by kernel_rfl)) (fun _ _ _ h => h) (Or.inl ⟨by rfl, ?_⟩) ?_ ?_
                rotate_left
                ·
                 intro w'
                 go_simp
                 with_reducible rfl
                rotate_left
                ·
                 simp only [Act.put, List.setIfInBounds_toArray, List.set_cons_zero, List.set_cons_succ, i64_w, i32_w]
                 rfl
                refine done_ (done_of HT_.out (by kernel_rfl)) ?_
                try go_wp2
                have n0_ := Aside0.mk (Kd.R_drew HO_14.out)
                have n1_ := Aside0.mk (Kd.R_drew HO_16.out)
                have n2_ := Aside0.mk (blk_drew BK135.out)
                have n3_ := Aside0.mk (blk_drew BK159.out)
                have n4_ := Aside0.mk (below_drew1 HB.out)
                clear HO_14
                clear HO_16
                clear BK135
                clear BK159
                clear HB
                have HO_14 := n0_
                have HO_16 := n1_
                have BK135 := n2_
                have BK159 := n3_
                have HB := n4_
                clear n0_ n1_ n2_ n3_ n4_
                obtain ⟨Ao104, co104, eo104⟩ := Kd.R_slice HO_14.out
                (first | subst eo104 | (injection eo104 with f1_ f2_ f3_; have f4_ := f1_.symm; have f5_ := f3_.symm; clear f1_ f2_ f3_; subst f4_; subst f5_))
                have p168 : 0 ≤ (x75_2 : Int) := of_decide_eq_true (by first | (with_reducible assumption) | assumption)
                have q168 : x75_2 < (t138.length : Int) := of_decide_eq_true (by first | (with_reducible assumption) | assumption)
                obtain ⟨ad168, e168, hx168_0⟩ := Kd.at_int (Kd.R_reads' HO_14.out).2.2 x75_2 p168 q168
                cases e168
                replace p168 := eq_true p168
                replace q168 := eq_true q168
                obtain ⟨Ao105, co105, eo105⟩ := Kd.R_slice HO_16.out
                (first | subst eo105 | (injection eo105 with f1_ f2_ f3_; have f4_ := f1_.symm; have f5_ := f3_.symm; clear f1_ f2_ f3_; subst f4_; subst f5_))
                have p169 : 0 ≤ (x75_2 : Int) := of_decide_eq_true (by first | (with_reducible assumption) | assumption)
                have q169 : x75_2 < (t154.length : Int) := of_decide_eq_true (by first | (with_reducible assumption) | assumption)
                obtain ⟨ad169, e169, hx169_0⟩ := Kd.at_int (Kd.R_reads' HO_16.out).2.2 x75_2 p169 q169
                cases e169
                replace p169 := eq_true p169
                replace q169 := eq_true q169
                refine start_ (n := 23) (S := fun w' => w'.cell? (ad168.add (x75_2).toNat) = some (.int .i64 (rd t138 x75_2)) ∧ w'.cell? (ad169.add (x75_2).toNat) = some (.int .i64 (rd t154 x75_2))) (ds := []) #[false, false, false, false, false, false, false, false, false, false, false, false, false, false, false, false, false, false, false, false, false, false, false] (by kernel_rfl) rfl rfl ⟨hx168_0, hx169_0⟩ (fun hHeld => ?_); refine with_tabW slotmeshlaw17_MediumJams.tab12 slotmeshlaw17_MediumJams.bits12 (fun HT_ HW_ => ?_)
                generalize w102.drew = w103 at HO_14 HO_16 BK135 BK159 HB hx168_0 hx169_0 hHeld ⊢
                refine pure_ (i := 0) (N := some 95) (v := ?_) (a' := ?_) #[true, false, false, false, false, false, false, false, false, false, false, false, false, false, false, false, false, false, false, false, false, false, false] rfl rfl (any_of HT_.out (by kernel_rfl)) (fun _ _ _ h => h) (Or.inl ⟨by rfl, ?_⟩) ?_ ?_
                rotate_left
                ·
                 intro w'
                 go_simp
                 with_reducible rfl
                rotate_left
                ·
                 simp only [Act.put, List.setIfInBounds_toArray, List.set_cons_zero, List.set_cons_succ, i64_w, i32_w]
                 rfl
                refine pure_ (i := 1) (N := some 96) (v := ?_) (a' := ?_) #[true, true, false, false, false, false, false, false, false, false, false, false, false, false, false, false, false, false, false, false, false, false, false] rfl rfl (any_of HT_.out (by kernel_rfl)) (fun _ _ _ h => h) (Or.inl ⟨by rfl, ?_⟩) ?_ ?_
                rotate_left
                ·
                 intro w'
                 go_simp
                 with_reducible rfl
                rotate_left
                ·
                 simp only [Act.put, List.setIfInBounds_toArray, List.set_cons_zero, List.set_cons_succ, i64_w, i32_w]
                 rfl
                refine pure_ (i := 2) (N := some 97) (v := undef) (a' := ?_) #[true, true, true, false, false, false, false, false, false, false, false, false, false, false, false, false, false, false, false, false, false, false, false] rfl rfl (any_of HT_.out (by kernel_rfl)) (fun _ _ _ h => h) (Or.inr ⟨by rfl, rfl⟩) ?_ ?_
                rotate_left
                ·
                 simp only [Act.put, List.setIfInBounds_toArray, List.set_cons_zero, List.set_cons_succ, i64_w, i32_w]
                 rfl
                refine pure_ (i := 3) (N := some 98) (v := undef) (a' := ?_) #[true, true, true, true, false, false, false, false, false, false, false, false, false, false, false, false, false, false, false, false, false, false, false] rfl rfl (any_of HT_.out (by kernel_rfl)) (fun _ _ _ h => h) (Or.inr ⟨by rfl, rfl⟩) ?_ ?_
                rotate_left
                ·
                 simp only [Act.put, List.setIfInBounds_toArray, List.set_cons_zero, List.set_cons_succ, i64_w, i32_w]
                 rfl
                refine pure_ (i := 4) (N := some 99) (v := undef) (a' := ?_) #[true, true, true, true, true, false, false, false, false, false, false, false, false, false, false, false, false, false, false, false, false, false, false] rfl rfl (any_of HT_.out (by kernel_rfl)) (fun _ _ _ h => h) (Or.inr ⟨by rfl, rfl⟩) ?_ ?_
                rotate_left
                ·
                 simp only [Act.put, List.setIfInBounds_toArray, List.set_cons_zero, List.set_cons_succ, i64_w, i32_w]
                 rfl
                refine pure_ (i := 5) (N := some 100) (v := undef) (a' := ?_) #[true, true, true, true, true, true, false, false, false, false, false, false, false, false, false, false, false, false, false, false, false, false, false] rfl rfl (any_of HT_.out (by kernel_rfl)) (fun _ _ _ h => h) (Or.inr ⟨by rfl, rfl⟩) ?_ ?_
                rotate_left
                ·
                 simp only [Act.put, List.setIfInBounds_toArray, List.set_cons_zero, List.set_cons_succ, i64_w, i32_w]
                 rfl
                refine pure_ (i := 6) (N := some 101) (v := undef) (a' := ?_) #[true, true, true, true, true, true, true, false, false, false, false, false, false, false, false, false, false, false, false, false, false, false, false] rfl rfl (any_of HT_.out (by kernel_rfl)) (fun _ _ _ h => h) (Or.inr ⟨by rfl, rfl⟩) ?_ ?_
                rotate_left
                ·
                 simp only [Act.put, List.setIfInBounds_toArray, List.set_cons_zero, List.set_cons_succ, i64_w, i32_w]
                 rfl
                refine pure_ (i := 7) (N := some 102) (v := ?_) (a' := ?_) #[true, true, true, true, true, true, true, true, false, false, false, false, false, false, false, false, false, false, false, false, false, false, false] rfl rfl (any_of HT_.out (by kernel_rfl)) (fun _ _ _ h => h) (Or.inl ⟨by rfl, ?_⟩) ?_ ?_
                rotate_left
                ·
                 intro w'
                 go_simp
                 with_reducible rfl
                rotate_left
                ·
                 simp only [Act.put, List.setIfInBounds_toArray, List.set_cons_zero, List.set_cons_succ, i64_w, i32_w]
                 rfl
                refine pure_ (i := 8) (N := some 103) (v := ?_) (a' := ?_) #[true, true, true, true, true, true, true, true, true, false, false, false, false, false, false, false, false, false, false, false, false, false, false] rfl rfl (any_of HT_.out (by kernel_rfl)) (fun _ _ _ h => h) (Or.inl ⟨by rfl, ?_⟩) ?_ ?_
                rotate_left
                ·
                 intro w'
                 go_simp
                 with_reducible rfl
                rotate_left
                ·
                 simp only [Act.put, List.setIfInBounds_toArray, List.set_cons_zero, List.set_cons_succ, i64_w, i32_w]
                 rfl
                refine pure_ (i := 9) (N := some 104) (v := ?_) (a' := ?_) #[true, true, true, true, true, true, true, true, true, true, false, false, false, false, false, false, false, false, false, false, false, false, false] rfl rfl (any_of HT_.out (by kernel_rfl)) (fun _ _ _ h => h) (Or.inl ⟨by rfl, ?_⟩) ?_ ?_
                rotate_left
                ·
                 intro w'
                 go_simp
                 with_reducible rfl
                rotate_left
                ·
                 simp only [Act.put, List.setIfInBounds_toArray, List.set_cons_zero, List.set_cons_succ, i64_w, i32_w]
                 rfl
                refine pure_ (i := 10) (N := some 105) (v := ?_) (a' := ?_) #[true, true, true, true, true, true, true, true, true, true, true, false, false, false, false, false, false, false, false, false, false, false, false] rfl rfl (any_of HT_.out (by kernel_rfl)) (fun _ _ _ h => h) (Or.inl ⟨by rfl, ?_⟩) ?_ ?_
                rotate_left
                ·
                 intro w'
                 go_simp
                 with_reducible rfl
                rotate_left
                ·
                 simp only [Act.put, List.setIfInBounds_toArray, List.set_cons_zero, List.set_cons_succ, i64_w, i32_w]
                 rfl
                refine pure_ (i := 11) (N := some 106) (v := ?_) (a' := ?_) #[true, true, true, true, true, true, true, true, true, true, true, true, false, false, false, false, false, false, false, false, false, false, false] rfl rfl (any_of HT_.out (by kernel_rfl)) (fun _ _ _ h => h) (Or.inl ⟨by rfl, ?_⟩) ?_ ?_
                rotate_left
                ·
                 intro w'
                 go_simp
                 with_reducible rfl
                rotate_left
                ·
                 simp only [Act.put, List.setIfInBounds_toArray, List.set_cons_zero, List.set_cons_succ, i64_w, i32_w]
                 rfl
                refine pure_ (i := 12) (N := some 107) (v := ?_) (a' := ?_) #[true, true, true, true, true, true, true, true, true, true, true, true, true, false, false, false, false, false, false, false, false, false, false] rfl rfl (any_of HT_.out (by kernel_rfl)) (fun _ _ _ h => h) (Or.inl ⟨by rfl, ?_⟩) ?_ ?_
                rotate_left
                ·
                 intro w'
                 go_simp
                 with_reducible rfl
                rotate_left
                ·
                 simp only [Act.put, List.setIfInBounds_toArray, List.set_cons_zero, List.set_cons_succ, i64_w, i32_w]
                 rfl
                refine pure_ (i := 13) (N := some 108) (v := ?_) (a' := ?_) #[true, true, true, true, true, true, true, true, true, true, true, true, true, true, false, false, false, false, false, false, false, false, false] rfl rfl (any_of HT_.out (by kernel_rfl)) (fun _ _ _ h => h) (Or.inl ⟨by rfl, ?_⟩) ?_ ?_
                rotate_left
                ·
                 intro w'
                 go_simp
                 with_reducible rfl
                rotate_left
                ·
                 simp only [Act.put, List.setIfInBounds_toArray, List.set_cons_zero, List.set_cons_succ, i64_w, i32_w]
                 rfl
                refine pure_ (i := 14) (N := some 109) (v := ?_) (a' := ?_) #[true, true, true, true, true, true, true, true, true, true, true, true, true, true, true, false, false, false, false, false, false, false, false] rfl rfl (any_of HT_.out (by kernel_rfl)) (fun _ _ _ h => h) (Or.inl ⟨by rfl, ?_⟩) ?_ ?_
                rotate_left
                ·
                 intro w'
                 go_simp
                 with_reducible rfl
                rotate_left
                ·
                 simp only [Act.put, List.setIfInBounds_toArray, List.set_cons_zero, List.set_cons_succ, i64_w, i32_w]
                 rfl
                refine pure_ (i := 16) (N := some 111) (v := ?_) (a' := ?_) #[true, true, true, true, true, true, true, true, true, true, true, true, true, true, true, false, true, false, false, false, false, false, false] rfl rfl (any_of HT_.out (by kernel_rfl)) (fun _ _ _ h => h) (Or.inl ⟨by rfl, ?_⟩) ?_ ?_
                rotate_left
                ·
                 intro w'
                 go_simp
                 with_reducible rfl
                rotate_left
                ·
                 simp only [Act.put, List.setIfInBounds_toArray, List.set_cons_zero, List.set_cons_succ, i64_w, i32_w]
                 rfl
                refine pure_ (i := 17) (N := some 112) (v := ?_) (a' := ?_) #[true, true, true, true, true, true, true, true, true, true, true, true, true, true, true, false, true, true, false, false, false, false, false] rfl rfl (any_of HT_.out (by kernel_rfl)) (fun _ _ _ h => h) (Or.inl ⟨by rfl, ?_⟩) ?_ ?_
                rotate_left
                ·
                 intro w'
                 go_simp
                 with_reducible rfl
                rotate_left
                ·
                 simp only [Act.put, List.setIfInBounds_toArray, List.set_cons_zero, List.set_cons_succ, i64_w, i32_w]
                 rfl
                refine pure_ (i := 18) (N := some 113) (v := ?_) (a' := ?_) #[true, true, true, true, true, true, true, true, true, true, true, true, true, true, true, false, true, true, true, false, false, false, false] rfl rfl (any_of HT_.out (by kernel_rfl)) (fun _ _ _ h => h) (Or.inl ⟨by rfl, ?_⟩) ?_ ?_
                rotate_left
                ·
                 intro w'
                 go_simp
                 with_reducible rfl
                rotate_left
                ·
                 simp only [Act.put, List.setIfInBounds_toArray, List.set_cons_zero, List.set_cons_succ, i64_w, i32_w]
                 rfl
                refine take_ (i := 15) (N := some 110) (v := ?_) (a' := ?_) #[true, true, true, true, true, true, true, true, true, true, true, true, true, true, true, true, true, true, true, false, false, false, false] rfl rfl (take_ofW HT_.out HW_.out (by kernel_rfl)) (fun _ _ _ h => h) (Or.inl ⟨by rfl, ?_⟩) hHeld ?_ ?_
                rotate_left
                ·
                 rintro w' ⟨s0, s1⟩
                 go_simp
                 with_reducible rfl
                rotate_left
                ·
                 simp only [Act.put, List.setIfInBounds_toArray, List.set_cons_zero, List.set_cons_succ, i64_w, i32_w]
                 rfl
                refine take_ (i := 19) (N := some 114) (v := ?_) (a' := ?_) #[true, true, true, true, true, true, true, true, true, true, true, true, true, true, true, true, true, true, true, true, false, false, false] rfl rfl (take_ofW HT_.out HW_.out (by kernel_rfl)) (fun _ _ _ h => h) (Or.inl ⟨by rfl, ?_⟩) hHeld ?_ ?_
                rotate_left
                ·
                 rintro w' ⟨s0, s1⟩
                 go_simp
                 with_reducible rfl
                rotate_left
                ·
                 simp only [Act.put, List.setIfInBounds_toArray, List.set_cons_zero, List.set_cons_succ, i64_w, i32_w]
                 rfl
                refine pure_ (i := 20) (N := some 115) (v := ?_) (a' := ?_) #[true, true, true, true, true, true, true, true, true, true, true, true, true, true, true, true, true, true, true, true, true, false, false] rfl rfl (any_of HT_.out (by kernel_rfl)) (fun _ _ _ h => h) (Or.inl ⟨by rfl, ?_⟩) ?_ ?_
                rotate_left
                ·
                 intro w'
                 go_simp
                 with_reducible rfl
                rotate_left
                ·
                 simp only [Act.put, List.setIfInBounds_toArray, List.set_cons_zero, List.set_cons_succ, i64_w, i32_w]
                 rfl
                refine pure_ (i := 21) (N := some 116) (v := ?_) (a' := ?_) #[true, true, true, true, true, true, true, true, true, true, true, true, true, true, true, true, true, true, true, true, true, true, false] rfl rfl (any_of HT_.out (by kernel_rfl)) (fun _ _ _ h => h) (Or.inl ⟨by rfl, ?_⟩) ?_ ?_
                rotate_left
                ·
                 intro w'
                 go_simp
                 with_reducible rfl
                rotate_left
                ·
                 simp only [Act.put, List.setIfInBounds_toArray, List.set_cons_zero, List.set_cons_succ, i64_w, i32_w]
                 rfl
                refine pure_ (i := 22) (N := some 117) (v := ?_) (a' := ?_) #[true, true, true, true, true, true, true, true, true, true, true, true, true, true, true, true, true, true, true, true, true, true, true] rfl rfl (any_of HT_.out (by kernel_rfl)) (fun _ _ _ h => h) (Or.inl ⟨by rfl, ?_⟩) ?_ ?_
                rotate_left
                ·
                 intro w'
                 go_simp
                 with_reducible rfl
                rotate_left
                ·
                 simp only [Act.put, List.setIfInBounds_toArray, List.set_cons_zero, List.set_cons_succ, i64_w, i32_w]
                 rfl
                refine done_ (done_of HT_.out (by kernel_rfl)) ?_
                try go_wp2
                go_roundg k2
                case measure => have := HJ13.out; have := HK2.out; omega
                case rel => exact ⟨(wrap64 (x75_2 + 1)), (by first | rfl | (simp; done) | (simp [*]; done)), H', ⟨by have := HJ13.out; have := HK2.out; omega⟩, ⟨by (with_reducible repeat (first | apply Kd.R_alloc | apply Kd.R_drewN | apply Kd.R_drew)); exact HO_14.out⟩, ⟨by (with_reducible repeat (first | apply Kd.R_alloc | apply Kd.R_drewN | apply Kd.R_drew)); exact HO_16.out⟩, ⟨by (with_reducible repeat (first | refine blk_drewN ?_ _ | refine blk_drew ?_ | refine blk_alloc ?_ _)); exact BK135.out⟩, ⟨by repeat (first | (with_reducible first | exact HB.out | apply below_alloc | apply pw_below_drewN | apply below_drew1 | refine below_set ?_ GE135.out | refine below_set ?_ GE159.out) | exact HB.out)⟩⟩
               ·
                rw [if_neg c97] at H
                exact absurd (Option.some.inj H) (by rw [HRT.out]; decide)
              ·
               rw [if_neg c96] at H
               exact absurd H (by simp)
             ·
              rw [if_neg c95] at H
              exact absurd H (by simp)
           ·
            rw [if_neg c39] at H
            exact absurd H (by simp)
          ·
           rw [if_neg c38] at H
           exact absurd H (by simp)
         ·
          rw [if_neg c37] at H
          have c37b0 : decide (x75_2 < (l0.length : Int)) = false := decide_eq_false c37
          clear c37
          obtain rfl := Option.some.inj H
          go_wp2
          go_ret
          exact ⟨by first | rfl | (simp [errW_none, errW_some] <;> rfl) | (simp [*, errW_none, errW_some] <;> rfl), by repeat (first | (with_reducible first | exact HB.out | apply below_alloc | apply pw_below_drewN | apply below_drew1 | refine below_set ?_ GE135.out) | exact HB.out)⟩
   ·
    rw [if_neg c12] at H
    exact absurd H (by simp)
  ·
   rw [if_neg c11] at H
   exact absurd H (by simp)
 ·
  replace c9 := Bool.eq_false_iff.mpr c9
  subst c9
  rw [if_neg (show ¬ (false = true) by decide)] at H
  obtain rfl := Option.some.inj H
  go_enter Try.func6, Try.ntmps6
  go_wp2_with (first | ((with_reducible refine gate_dst (N := 11) rfl ?_); (try (refine gate_guard (by rfl) ?_; dsimp only)); refine box_event ?hg (N := 11) ?hd (cs := #[.int .i64 a5_0, .int .i64 a5_1, .int .i64 a5_2, .int .i64 a5_3, .int .i64 a5_4]) (t := 42) ?hr ?_; (case hd => rfl); (case hg => rfl); (case hr => first | (go_simp; done) | (go_simp; rfl)); intro gb135 hg w114 hbox hb; have n0_ := Aside0.mk (below_step (by repeat (first | (with_reducible first | exact HB.out | apply below_alloc | apply pw_below_drewN | apply below_drew1) | exact HB.out)) hb); have n1_ := Aside0.mk (hbox); have n2_ := Aside0.mk ((by rw [hg]; exact (below_size (by repeat (first | (with_reducible first | exact HB.out | apply below_alloc | apply pw_below_drewN | apply below_drew1) | exact HB.out))) : w.heap.size ≤ gb135)); have n3_ := Aside0.mk ((by rw [hg]; exact (below_size (by repeat (first | (with_reducible first | exact HB.out | apply below_alloc | apply pw_below_drewN | apply below_drew1) | exact HB.out))) : w.heap.size ≤ gb135)); clear HB; have HB := n0_; have BK135 := n1_; have GW135 := n2_; have GE135 := n3_; clear n0_ n1_ n2_ n3_; clear hb hbox hg) | ((with_reducible refine gate_callee (f := 27) rfl ?_); refine goesL_ (some 21) rfl rfl Try.func27 (by kernel_rfl) rfl #[] rfl (by (try simp only [List.map_toArray, List.map_cons, List.map_nil]); first | done | rfl | (simp only [List.length_drop, List.length_take]; rfl)) ?_; (with_reducible refine (slotmeshlaw17_head.calls  t136 _ A7.out).mono ?_); rintro e w115 ⟨rfl, hb⟩; refine ⟨_, rfl, ?_⟩; have n0_ := Aside0.mk (blk_below (g := gb135) (o := .cells #[.int .i64 a5_0, .int .i64 a5_1, .int .i64 a5_2, .int .i64 a5_3, .int .i64 a5_4] 42 (0, 0)) (by (with_reducible repeat (first | refine blk_drewN ?_ _ | refine blk_drew ?_ | refine blk_alloc ?_ _)); exact BK135.out) hb); have n1_ := Aside0.mk (below_step (by repeat (first | (with_reducible first | exact HB.out | apply below_alloc | apply pw_below_drewN | apply below_drew1 | refine below_set ?_ GE135.out) | exact HB.out)) hb); clear BK135; clear HB; have BK135 := n0_; have HB := n1_; clear n0_ n1_; (try clear hb); (try clear hb2); (try clear hk); (try clear hi)) | ((with_reducible refine gate_callee (f := 28) rfl ?_); refine goesL_ (some 27) rfl rfl Try.func28 (by kernel_rfl) rfl #[.slice A0 l0.length c0, .slice A1 l1.length c1, .int .i64 a2, .slice A3 l3.length c3, .int .i64 a4] rfl (by (try simp only [List.map_toArray, List.map_cons, List.map_nil]); first | done | rfl | (simp only [List.length_drop, List.length_take]; rfl)) ?_; (with_reducible refine (slotmeshlaw17_valid.calls k _ _ l0 _ _ l1 a2 _ _ l3 a4 false _ ?side1 ?side2 ?side3 ?side4 ?side5 ?side6 A8.out).mono ?_); (case side1 => repeat (first | exact (Kd.C_below HR0.out HB.out) | (with_reducible refine Kd.C_alloc ?_ _) | (with_reducible refine Kd.C_drewN ?_ _) | (with_reducible refine Kd.C_drew ?_))); (case side2 => exact HC0.out); (case side3 => repeat (first | exact (Kd.C_below HR1.out HB.out) | (with_reducible refine Kd.C_alloc ?_ _) | (with_reducible refine Kd.C_drewN ?_ _) | (with_reducible refine Kd.C_drew ?_))); (case side4 => exact HC1.out); (case side5 => repeat (first | exact (Kd.C_below HR3.out HB.out) | (with_reducible refine Kd.C_alloc ?_ _) | (with_reducible refine Kd.C_drewN ?_ _) | (with_reducible refine Kd.C_drew ?_))); (case side6 => exact HC3.out); rintro e w116 ⟨rfl, hb⟩; refine ⟨_, rfl, ?_⟩; have n0_ := Aside0.mk (blk_below (g := gb135) (o := .cells #[.int .i64 a5_0, .int .i64 a5_1, .int .i64 a5_2, .int .i64 a5_3, .int .i64 a5_4] 42 (0, 0)) (by (with_reducible repeat (first | refine blk_drewN ?_ _ | refine blk_drew ?_ | refine blk_alloc ?_ _)); exact BK135.out) hb); have n1_ := Aside0.mk (below_step (by repeat (first | (with_reducible first | exact HB.out | apply below_alloc | apply pw_below_drewN | apply below_drew1 | refine below_set ?_ GE135.out) | exact HB.out)) hb); clear BK135; clear HB; have BK135 := n0_; have HB := n1_; clear n0_ n1_; (try clear hb); (try clear hb2); (try clear hk); (try clear hi)))
  go_ret
  exact ⟨by first | rfl | (simp [errW_none, errW_some] <;> rfl) | (simp [*, errW_none, errW_some] <;> rfl), by repeat (first | (with_reducible first | exact HB.out | apply below_alloc | apply pw_below_drewN | apply below_drew1 | refine below_set ?_ GE135.out) | exact HB.out)⟩
end Go.Proofs.Ytcgbfkplhlngjaa.PA
