/- What slotmeshlaw17_headP (function 27) computes, as a Lean function, and that its call comes to just that; made by a program of this session in the manner of the print. -/
import Derived.Test.YtcgbfkplhlngjaaT0
import Derived.Test.YtcgbfkplhlngjaaCat
import Derived.Test.YtcgbfkplhlngjaaF42
import Derived.Test.YtcgbfkplhlngjaaF43
namespace Go.Proofs.Ytcgbfkplhlngjaa.PA
open Go.RowKit Go.Proofs.YtcgbfkplhlngjaaW.PrintWords Go.Proofs.YtcgbfkplhlngjaaW.PrintLast Go.Proofs.YtcgbfkplhlngjaaW.PrintMore
attribute [local go_sem] max2_int min2_int max_two min_two max_three min_three max_four min_four   -- for this text's walks alone
set_option linter.unusedVariables false
set_option linter.unusedSimpArgs false

/-! ### slotmeshlaw17_headP: function 27 -/
def slotmeshlaw17_headP.f (k : Nat)  : Option (Bool) := (slotmeshlaw17_action.f 2 0).bind fun bt285 => ((slotmeshlaw17_action.f 1 0).bind fun bt290 => ((slotmeshlaw17_action.f 0 0).bind fun bt295 => ((slotmeshlaw17_gives.f k bt285.1 bt285.2.1 bt285.2.2.1 bt285.2.2.2.1 bt285.2.2.2.2 bt290.1 bt290.2.1 bt290.2.2.1 bt290.2.2.2.1 bt290.2.2.2.2 bt290.1 bt290.2.1 bt290.2.2.1 bt290.2.2.2.1 bt290.2.2.2.2 ([] : List (S42)) (([(-1), 0, (-1)] : List Int))).bind fun t306 => (if t306 = true then ((slotmeshlaw17_gives.f k bt285.1 bt285.2.1 bt285.2.2.1 bt285.2.2.2.1 bt285.2.2.2.2 bt290.1 bt290.2.1 bt290.2.2.1 bt290.2.2.2.1 bt290.2.2.2.2 bt285.1 bt285.2.1 bt285.2.2.1 bt285.2.2.2.1 bt285.2.2.2.2 ([] : List (S42)) (([(-1), (-2), (-1)] : List Int))).bind fun t310 => (if t310 = true then ((slotmeshlaw17_action.f 2 10).bind fun bt311 => ((slotmeshlaw17_gives.f k bt311.1 bt311.2.1 bt311.2.2.1 bt311.2.2.2.1 bt311.2.2.2.2 bt290.1 bt290.2.1 bt290.2.2.1 bt290.2.2.2.1 bt290.2.2.2.2 bt295.1 bt295.2.1 bt295.2.2.1 bt295.2.2.2.1 bt295.2.2.2.2 ([] : List (S42)) (([(-1), (-1), (-1)] : List Int))).bind fun t319 => (if t319 = true then ((slotmeshlaw17_gives.f k bt285.1 bt285.2.1 bt285.2.2.1 bt285.2.2.2.1 bt285.2.2.2.2 bt290.1 bt290.2.1 bt290.2.2.1 bt290.2.2.2.1 bt290.2.2.2.2 bt290.1 bt290.2.1 bt290.2.2.1 bt290.2.2.2.1 bt290.2.2.2.2 (([(⟨(⟨6, 8⟩ : S25), 5, 2, 8⟩ : S42)] : List (S42))) (([(-1), (-2), (-2)] : List Int))).bind fun t326 => ((medium_Catch.f k (([(⟨bt285.1, bt285.2.1, bt285.2.2.1, (⟨bt285.2.2.2.1, bt285.2.2.2.2⟩ : S48)⟩ : S50)] : List (S50))) ([] : List (S25)) 5 ([] : List (S42)) 7).bind fun bt330 => (if t326 = true then (some (bt330.2 == 1)) else (some false)))) else ((medium_Catch.f k (([(⟨bt285.1, bt285.2.1, bt285.2.2.1, (⟨bt285.2.2.2.1, bt285.2.2.2.2⟩ : S48)⟩ : S50)] : List (S50))) ([] : List (S25)) 5 ([] : List (S42)) 7).bind fun bt337 => (some false))))) else ((medium_Catch.f k (([(⟨bt285.1, bt285.2.1, bt285.2.2.1, (⟨bt285.2.2.2.1, bt285.2.2.2.2⟩ : S48)⟩ : S50)] : List (S50))) ([] : List (S25)) 5 ([] : List (S42)) 7).bind fun bt344 => (some false)))) else ((medium_Catch.f k (([(⟨bt285.1, bt285.2.1, bt285.2.2.1, (⟨bt285.2.2.2.1, bt285.2.2.2.2⟩ : S48)⟩ : S50)] : List (S50))) ([] : List (S25)) 5 ([] : List (S42)) 7).bind fun bt351 => (some false))))))
theorem slotmeshlaw17_headP.mono : ∀ k, LeO (slotmeshlaw17_headP.f k ) (slotmeshlaw17_headP.f (k + 1) ) := by
 intro  k
 unfold slotmeshlaw17_headP.f
 repeat' first
   | (with_reducible exact medium_Catch.mono _ _ _ _ _ _)
   | (with_reducible exact slotmeshlaw17_gives.mono _ _ _ _ _ _ _ _ _ _ _ _ _ _ _ _ _ _)
   | (with_reducible exact LeO.refl _)
   | (with_reducible exact LeO.none _)
   | (with_reducible refine LeO.ite ?_ ?_)
   | (with_reducible refine LeO.bind ?_ (fun _ => ?_))
   | exact medium_Catch.mono _ _ _ _ _ _
   | exact slotmeshlaw17_gives.mono _ _ _ _ _ _ _ _ _ _ _ _ _ _ _ _ _ _
   | exact LeO.none _
   | refine LeO.ite ?_ ?_
   | refine LeO.bind ?_ (fun _ => ?_)
def slotmeshlaw17_headP.T2 : Bool × List (List Nat × List Nat) := (true, [([], []), ([], []), ([], []), ([], []), ([0, 1, 2, 3], [0, 1, 2, 3]), ([4, 4], [4]), ([5], [5]), ([5], [5]), ([5], [5]), ([5], [5]), ([6, 7, 8, 9, 5, 5], [5, 6, 7, 8, 9]), ([5, 10], [5, 10]), ([11, 10], [11]), ([12, 12], [12]), ([12], [12]), ([12], [12]), ([12], [12]), ([13, 14, 15, 16, 13, 12], [12, 13, 14, 15, 16]), ([12, 17], [12, 17]), ([18, 17, 0, 1, 2, 3, 4, 5, 6, 7, 8, 9, 10, 11, 12, 13, 14, 15, 16, 17, 18], [18])])
def slotmeshlaw17_headP.B2 : List Nat := [0, 0, 0, 0, 15, 31, 63, 63, 63, 63, 1023, 2047, 4095, 8191, 8191, 8191, 8191, 131071, 262143, 524287]
theorem slotmeshlaw17_headP.tab2 : rtab .any (opsOf Try.f27 2) = slotmeshlaw17_headP.T2 := by kernel_rfl
theorem slotmeshlaw17_headP.bits2 : waitsOk slotmeshlaw17_headP.T2.2 slotmeshlaw17_headP.B2 = true := by kernel_rfl
set_option maxHeartbeats 8000000 in
set_option maxRecDepth 100000 in
theorem slotmeshlaw17_headP.calls (k : Nat)  (r : Bool) (w : World) (h : slotmeshlaw17_headP.f k  = some r) (HRT0 : r = true) :
  Calls Try.prog 27 #[] w fun e w' => e = .returned (.bool r) ∧ Below w.heap.size w w' := by
 have HRT := Aside0.mk HRT0
 clear HRT0
 have hu50 := Try.underlying50
 have hu25 := Try.underlying25
 have hu42 := Try.underlying42
 have HB := Aside0.mk (Below.refl w.heap.size w)
 have H : ((slotmeshlaw17_action.f 2 0).bind fun bt285 => ((slotmeshlaw17_action.f 1 0).bind fun bt290 => ((slotmeshlaw17_action.f 0 0).bind fun bt295 => ((slotmeshlaw17_gives.f k bt285.1 bt285.2.1 bt285.2.2.1 bt285.2.2.2.1 bt285.2.2.2.2 bt290.1 bt290.2.1 bt290.2.2.1 bt290.2.2.2.1 bt290.2.2.2.2 bt290.1 bt290.2.1 bt290.2.2.1 bt290.2.2.2.1 bt290.2.2.2.2 ([] : List (S42)) (([(-1), 0, (-1)] : List Int))).bind fun t306 => (if t306 = true then ((slotmeshlaw17_gives.f k bt285.1 bt285.2.1 bt285.2.2.1 bt285.2.2.2.1 bt285.2.2.2.2 bt290.1 bt290.2.1 bt290.2.2.1 bt290.2.2.2.1 bt290.2.2.2.2 bt285.1 bt285.2.1 bt285.2.2.1 bt285.2.2.2.1 bt285.2.2.2.2 ([] : List (S42)) (([(-1), (-2), (-1)] : List Int))).bind fun t310 => (if t310 = true then ((slotmeshlaw17_action.f 2 10).bind fun bt311 => ((slotmeshlaw17_gives.f k bt311.1 bt311.2.1 bt311.2.2.1 bt311.2.2.2.1 bt311.2.2.2.2 bt290.1 bt290.2.1 bt290.2.2.1 bt290.2.2.2.1 bt290.2.2.2.2 bt295.1 bt295.2.1 bt295.2.2.1 bt295.2.2.2.1 bt295.2.2.2.2 ([] : List (S42)) (([(-1), (-1), (-1)] : List Int))).bind fun t319 => (if t319 = true then ((slotmeshlaw17_gives.f k bt285.1 bt285.2.1 bt285.2.2.1 bt285.2.2.2.1 bt285.2.2.2.2 bt290.1 bt290.2.1 bt290.2.2.1 bt290.2.2.2.1 bt290.2.2.2.2 bt290.1 bt290.2.1 bt290.2.2.1 bt290.2.2.2.1 bt290.2.2.2.2 (([(⟨(⟨6, 8⟩ : S25), 5, 2, 8⟩ : S42)] : List (S42))) (([(-1), (-2), (-2)] : List Int))).bind fun t326 => ((medium_Catch.f k (([(⟨bt285.1, bt285.2.1, bt285.2.2.1, (⟨bt285.2.2.2.1, bt285.2.2.2.2⟩ : S48)⟩ : S50)] : List (S50))) ([] : List (S25)) 5 ([] : List (S42)) 7).bind fun bt330 => (if t326 = true then (some (bt330.2 == 1)) else (some false)))) else ((medium_Catch.f k (([(⟨bt285.1, bt285.2.1, bt285.2.2.1, (⟨bt285.2.2.2.1, bt285.2.2.2.2⟩ : S48)⟩ : S50)] : List (S50))) ([] : List (S25)) 5 ([] : List (S42)) 7).bind fun bt337 => (some false))))) else ((medium_Catch.f k (([(⟨bt285.1, bt285.2.1, bt285.2.2.1, (⟨bt285.2.2.2.1, bt285.2.2.2.2⟩ : S48)⟩ : S50)] : List (S50))) ([] : List (S25)) 5 ([] : List (S42)) 7).bind fun bt344 => (some false)))) else ((medium_Catch.f k (([(⟨bt285.1, bt285.2.1, bt285.2.2.1, (⟨bt285.2.2.2.1, bt285.2.2.2.2⟩ : S48)⟩ : S50)] : List (S50))) ([] : List (S25)) 5 ([] : List (S42)) 7).bind fun bt351 => (some false))))))) = some r := h
 clear h
 replace H := Option.bind_eq_some_iff.mp H
 obtain ⟨⟨t285, t286, t287, t288, t289⟩, A10, H⟩ := H
 try dsimp only at H
 have A1 := Aside0.mk A10
 clear A10
 replace H := Option.bind_eq_some_iff.mp H
 obtain ⟨⟨t290, t291, t292, t293, t294⟩, A20, H⟩ := H
 try dsimp only at H
 have A2 := Aside0.mk A20
 clear A20
 replace H := Option.bind_eq_some_iff.mp H
 obtain ⟨⟨t295, t296, t297, t298, t299⟩, A30, H⟩ := H
 try dsimp only at H
 have A3 := Aside0.mk A30
 clear A30
 obtain ⟨y303, hy303⟩ : ∃ y_ : List Int, y_ = (([(-1), 0, (-1)] : List Int)) := ⟨_, rfl⟩
 rw [← hy303] at H
 have Ny303 := Aside0.mk hy303
 clear hy303
 replace H := Option.bind_eq_some_iff.mp H
 obtain ⟨t306, A40, H⟩ := H
 try dsimp only at H
 have A4 := Aside0.mk A40
 clear A40
 by_cases c5 : t306 = true
 ·
  subst c5
  rw [if_pos rfl] at H
  obtain ⟨y307, hy307⟩ : ∃ y_ : List Int, y_ = (([(-1), (-2), (-1)] : List Int)) := ⟨_, rfl⟩
  rw [← hy307] at H
  have Ny307 := Aside0.mk hy307
  clear hy307
  replace H := Option.bind_eq_some_iff.mp H
  obtain ⟨t310, A60, H⟩ := H
  try dsimp only at H
  have A6 := Aside0.mk A60
  clear A60
  by_cases c7 : t310 = true
  ·
   subst c7
   rw [if_pos rfl] at H
   replace H := Option.bind_eq_some_iff.mp H
   obtain ⟨⟨t311, t312, t313, t314, t315⟩, A80, H⟩ := H
   try dsimp only at H
   have A8 := Aside0.mk A80
   clear A80
   obtain ⟨y316, hy316⟩ : ∃ y_ : List Int, y_ = (([(-1), (-1), (-1)] : List Int)) := ⟨_, rfl⟩
   rw [← hy316] at H
   have Ny316 := Aside0.mk hy316
   clear hy316
   replace H := Option.bind_eq_some_iff.mp H
   obtain ⟨t319, A90, H⟩ := H
   try dsimp only at H
   have A9 := Aside0.mk A90
   clear A90
   by_cases c10 : t319 = true
   ·
    subst c10
    rw [if_pos rfl] at H
    obtain ⟨y320, hy320⟩ : ∃ y_ : List (S42), y_ = (([(⟨(⟨6, 8⟩ : S25), 5, 2, 8⟩ : S42)] : List (S42))) := ⟨_, rfl⟩
    rw [← hy320] at H
    have Ny320 := Aside0.mk hy320
    clear hy320
    obtain ⟨y323, hy323⟩ : ∃ y_ : List Int, y_ = (([(-1), (-2), (-2)] : List Int)) := ⟨_, rfl⟩
    rw [← hy323] at H
    have Ny323 := Aside0.mk hy323
    clear hy323
    replace H := Option.bind_eq_some_iff.mp H
    obtain ⟨t326, A110, H⟩ := H
    try dsimp only at H
    have A11 := Aside0.mk A110
    clear A110
    obtain ⟨y327, hy327⟩ : ∃ y_ : List (S50), y_ = (([(⟨t285, t286, t287, (⟨t288, t289⟩ : S48)⟩ : S50)] : List (S50))) := ⟨_, rfl⟩
    rw [← hy327] at H
    have Ny327 := Aside0.mk hy327
    clear hy327
    replace H := Option.bind_eq_some_iff.mp H
    obtain ⟨⟨t330, t331⟩, A120, H⟩ := H
    try dsimp only at H
    have A12 := Aside0.mk A120
    clear A120
    by_cases c13 : t326 = true
    ·
     subst c13
     rw [if_pos rfl] at H
     obtain rfl := Option.some.inj H
     go_enter Try.func27, Try.ntmps27
     try go_wp2_with (first | ((with_reducible refine gate_callee (f := 42) rfl ?_); refine goesL_ (some 7) rfl rfl Try.func42 (by kernel_rfl) rfl #[.int .i64 2, .int .i64 0] rfl (by (try simp only [List.map_toArray, List.map_cons, List.map_nil]); first | done | rfl | (simp only [List.length_drop, List.length_take]; rfl)) ?_; (with_reducible refine (slotmeshlaw17_action.calls 2 0 t285 t286 t287 t288 t289 _ A1.out).mono ?_); rintro e w14 ⟨rfl, hb⟩; refine ⟨_, rfl, ?_⟩; have n0_ := Aside0.mk (below_step (by repeat (first | (with_reducible first | exact HB.out | apply below_alloc | apply pw_below_drewN | apply below_drew1) | exact HB.out)) hb); clear HB; have HB := n0_; clear n0_; (try clear hb); (try clear hb2); (try clear hk); (try clear hi)) | ((with_reducible refine gate_callee (f := 42) rfl ?_); refine goesL_ (some 8) rfl rfl Try.func42 (by kernel_rfl) rfl #[.int .i64 1, .int .i64 0] rfl (by (try simp only [List.map_toArray, List.map_cons, List.map_nil]); first | done | rfl | (simp only [List.length_drop, List.length_take]; rfl)) ?_; (with_reducible refine (slotmeshlaw17_action.calls 1 0 t290 t291 t292 t293 t294 _ A2.out).mono ?_); rintro e w15 ⟨rfl, hb⟩; refine ⟨_, rfl, ?_⟩; have n0_ := Aside0.mk (below_step (by repeat (first | (with_reducible first | exact HB.out | apply below_alloc | apply pw_below_drewN | apply below_drew1) | exact HB.out)) hb); clear HB; have HB := n0_; clear n0_; (try clear hb); (try clear hb2); (try clear hk); (try clear hi)) | ((with_reducible refine gate_callee (f := 42) rfl ?_); refine goesL_ (some 9) rfl rfl Try.func42 (by kernel_rfl) rfl #[.int .i64 0, .int .i64 0] rfl (by (try simp only [List.map_toArray, List.map_cons, List.map_nil]); first | done | rfl | (simp only [List.length_drop, List.length_take]; rfl)) ?_; (with_reducible refine (slotmeshlaw17_action.calls 0 0 t295 t296 t297 t298 t299 _ A3.out).mono ?_); rintro e w16 ⟨rfl, hb⟩; refine ⟨_, rfl, ?_⟩; have n0_ := Aside0.mk (below_step (by repeat (first | (with_reducible first | exact HB.out | apply below_alloc | apply pw_below_drewN | apply below_drew1) | exact HB.out)) hb); clear HB; have HB := n0_; clear n0_; (try clear hb); (try clear hb2); (try clear hk); (try clear hi)) | ((with_reducible refine gate_dst (N := 1) rfl ?_); (try (refine gate_guard (by rfl) ?_; dsimp only)); refine box_event ?hg (N := 1) ?hd (cs := #[.int .i64 0, .int .i64 0, .int .i64 0, .int .i64 0, .int .i64 0]) (t := 50) ?hr ?_; (case hd => rfl); (case hg => rfl); (case hr => first | (go_simp; done) | (go_simp; rfl)); intro gb300 hg w17 hbox hb; have n0_ := Aside0.mk (below_step (by repeat (first | (with_reducible first | exact HB.out | apply below_alloc | apply pw_below_drewN | apply below_drew1) | exact HB.out)) hb); have n1_ := Aside0.mk (hbox); have n2_ := Aside0.mk ((by rw [hg]; exact (below_size (by repeat (first | (with_reducible first | exact HB.out | apply below_alloc | apply pw_below_drewN | apply below_drew1) | exact HB.out))) : w.heap.size ≤ gb300)); have n3_ := Aside0.mk ((by rw [hg]; exact (below_size (by repeat (first | (with_reducible first | exact HB.out | apply below_alloc | apply pw_below_drewN | apply below_drew1) | exact HB.out))) : w.heap.size ≤ gb300)); clear HB; have HB := n0_; have BK300 := n1_; have GW300 := n2_; have GE300 := n3_; clear n0_ n1_ n2_ n3_; clear hb hbox hg) | ((with_reducible refine gate_dst (N := 2) rfl ?_); (try (refine gate_guard (by rfl) ?_; dsimp only)); refine box_event ?hg (N := 2) ?hd (cs := #[.int .i64 0, .int .i64 0, .int .i64 0, .int .i64 0, .int .i64 0]) (t := 50) ?hr ?_; (case hd => rfl); (case hg => rfl); (case hr => first | (go_simp; done) | (go_simp; rfl)); intro gb301 hg w18 hbox hb; have n0_ := Aside0.mk (blk_below (g := gb300) (o := .cells #[.int .i64 0, .int .i64 0, .int .i64 0, .int .i64 0, .int .i64 0] 50 (0, 0)) (by (with_reducible repeat (first | refine blk_drewN ?_ _ | refine blk_drew ?_ | refine blk_alloc ?_ _)); exact BK300.out) hb); have n1_ := Aside0.mk (below_step (by repeat (first | (with_reducible first | exact HB.out | apply below_alloc | apply pw_below_drewN | apply below_drew1 | refine below_set ?_ GE300.out) | exact HB.out)) hb); have n2_ := Aside0.mk (hbox); have n3_ := Aside0.mk ((by rw [hg]; exact (below_size (by repeat (first | (with_reducible first | exact HB.out | apply below_alloc | apply pw_below_drewN | apply below_drew1 | refine below_set ?_ GE300.out) | exact HB.out))) : w.heap.size ≤ gb301)); have n4_ := Aside0.mk ((by rw [hg]; exact (below_size (by repeat (first | (with_reducible first | exact HB.out | apply below_alloc | apply pw_below_drewN | apply below_drew1 | refine below_set ?_ GE300.out) | exact HB.out))) : w.heap.size ≤ gb301)); have n5_ := Aside0.mk ((by rw [hg]; exact Nat.ne_of_lt (blk_lt (g := gb300) (o := .cells #[.int .i64 0, .int .i64 0, .int .i64 0, .int .i64 0, .int .i64 0] 50 (0, 0)) (by (with_reducible repeat (first | refine blk_drewN ?_ _ | refine blk_drew ?_ | refine blk_alloc ?_ _)); exact BK300.out)) : gb300 ≠ gb301)); have n6_ := Aside0.mk ((by rw [hg]; exact Nat.ne_of_gt (blk_lt (g := gb300) (o := .cells #[.int .i64 0, .int .i64 0, .int .i64 0, .int .i64 0, .int .i64 0] 50 (0, 0)) (by (with_reducible repeat (first | refine blk_drewN ?_ _ | refine blk_drew ?_ | refine blk_alloc ?_ _)); exact BK300.out)) : gb301 ≠ gb300)); clear BK300; clear HB; have BK300 := n0_; have HB := n1_; have BK301 := n2_; have GW301 := n3_; have GE301 := n4_; have NB300_301 := n5_; have NB301_300 := n6_; clear n0_ n1_ n2_ n3_ n4_ n5_ n6_; clear hb hbox hg) | ((with_reducible refine gate_dst (N := 3) rfl ?_); (try (refine gate_guard (by rfl) ?_; dsimp only)); refine box_event ?hg (N := 3) ?hd (cs := #[.int .i64 0, .int .i64 0, .int .i64 0, .int .i64 0, .int .i64 0]) (t := 50) ?hr ?_; (case hd => rfl); (case hg => rfl); (case hr => first | (go_simp; done) | (go_simp; rfl)); intro gb302 hg w19 hbox hb; have n0_ := Aside0.mk (blk_below (g := gb300) (o := .cells #[.int .i64 0, .int .i64 0, .int .i64 0, .int .i64 0, .int .i64 0] 50 (0, 0)) (by (with_reducible repeat (first | refine blk_drewN ?_ _ | refine blk_drew ?_ | refine blk_alloc ?_ _)); exact BK300.out) hb); have n1_ := Aside0.mk (blk_below (g := gb301) (o := .cells #[.int .i64 0, .int .i64 0, .int .i64 0, .int .i64 0, .int .i64 0] 50 (0, 0)) (by (with_reducible repeat (first | refine blk_drewN ?_ _ | refine blk_drew ?_ | refine blk_alloc ?_ _)); exact BK301.out) hb); have n2_ := Aside0.mk (below_step (by repeat (first | (with_reducible first | exact HB.out | apply below_alloc | apply pw_below_drewN | apply below_drew1 | refine below_set ?_ GE300.out | refine below_set ?_ GE301.out) | exact HB.out)) hb); have n3_ := Aside0.mk (hbox); have n4_ := Aside0.mk ((by rw [hg]; exact (below_size (by repeat (first | (with_reducible first | exact HB.out | apply below_alloc | apply pw_below_drewN | apply below_drew1 | refine below_set ?_ GE300.out | refine below_set ?_ GE301.out) | exact HB.out))) : w.heap.size ≤ gb302)); have n5_ := Aside0.mk ((by rw [hg]; exact (below_size (by repeat (first | (with_reducible first | exact HB.out | apply below_alloc | apply pw_below_drewN | apply below_drew1 | refine below_set ?_ GE300.out | refine below_set ?_ GE301.out) | exact HB.out))) : w.heap.size ≤ gb302)); have n6_ := Aside0.mk ((by rw [hg]; exact Nat.ne_of_lt (blk_lt (g := gb300) (o := .cells #[.int .i64 0, .int .i64 0, .int .i64 0, .int .i64 0, .int .i64 0] 50 (0, 0)) (by (with_reducible repeat (first | refine blk_drewN ?_ _ | refine blk_drew ?_ | refine blk_alloc ?_ _)); exact BK300.out)) : gb300 ≠ gb302)); have n7_ := Aside0.mk ((by rw [hg]; exact Nat.ne_of_gt (blk_lt (g := gb300) (o := .cells #[.int .i64 0, .int .i64 0, .int .i64 0, .int .i64 0, .int .i64 0] 50 (0, 0)) (by (with_reducible repeat (first | refine blk_drewN ?_ _ | refine blk_drew ?_ | refine blk_alloc ?_ _)); exact BK300.out)) : gb302 ≠ gb300)); have n8_ := Aside0.mk ((by rw [hg]; exact Nat.ne_of_lt (blk_lt (g := gb301) (o := .cells #[.int .i64 0, .int .i64 0, .int .i64 0, .int .i64 0, .int .i64 0] 50 (0, 0)) (by (with_reducible repeat (first | refine blk_drewN ?_ _ | refine blk_drew ?_ | refine blk_alloc ?_ _)); exact BK301.out)) : gb301 ≠ gb302)); have n9_ := Aside0.mk ((by rw [hg]; exact Nat.ne_of_gt (blk_lt (g := gb301) (o := .cells #[.int .i64 0, .int .i64 0, .int .i64 0, .int .i64 0, .int .i64 0] 50 (0, 0)) (by (with_reducible repeat (first | refine blk_drewN ?_ _ | refine blk_drew ?_ | refine blk_alloc ?_ _)); exact BK301.out)) : gb302 ≠ gb301)); clear BK300; clear BK301; clear HB; have BK300 := n0_; have BK301 := n1_; have HB := n2_; have BK302 := n3_; have GW302 := n4_; have GE302 := n5_; have NB300_302 := n6_; have NB302_300 := n7_; have NB301_302 := n8_; have NB302_301 := n9_; clear n0_ n1_ n2_ n3_ n4_ n5_ n6_ n7_ n8_ n9_; clear hb hbox hg; have hnb20 := NB300_301.out; have hnc20 := NB301_300.out; have hnb21 := NB300_302.out; have hnc21 := NB302_300.out; have hcz22_0 : w19.cell? ⟨gb300, 0, none⟩ = some (.int .i64 0) := (blk_cell BK300.out 0).trans rfl; have hcz22_1 : w19.cell? ⟨gb300, 1, none⟩ = some (.int .i64 0) := (blk_cell BK300.out 1).trans rfl; have hcz22_2 : w19.cell? ⟨gb300, 2, none⟩ = some (.int .i64 0) := (blk_cell BK300.out 2).trans rfl; have hcz22_3 : w19.cell? ⟨gb300, 3, none⟩ = some (.int .i64 0) := (blk_cell BK300.out 3).trans rfl; have hcz22_4 : w19.cell? ⟨gb300, 4, none⟩ = some (.int .i64 0) := (blk_cell BK300.out 4).trans rfl; have hfz22_0 := blk_frozen BK300.out 0; have hfz22_1 := blk_frozen BK300.out 1; have hfz22_2 := blk_frozen BK300.out 2; have hfz22_3 := blk_frozen BK300.out 3; have hfz22_4 := blk_frozen BK300.out 4; have hnb23 := NB301_302.out; have hnc23 := NB302_301.out; have hcz24_0 : w19.cell? ⟨gb301, 0, none⟩ = some (.int .i64 0) := (blk_cell BK301.out 0).trans rfl; have hcz24_1 : w19.cell? ⟨gb301, 1, none⟩ = some (.int .i64 0) := (blk_cell BK301.out 1).trans rfl; have hcz24_2 : w19.cell? ⟨gb301, 2, none⟩ = some (.int .i64 0) := (blk_cell BK301.out 2).trans rfl; have hcz24_3 : w19.cell? ⟨gb301, 3, none⟩ = some (.int .i64 0) := (blk_cell BK301.out 3).trans rfl; have hcz24_4 : w19.cell? ⟨gb301, 4, none⟩ = some (.int .i64 0) := (blk_cell BK301.out 4).trans rfl; have hfz24_0 := blk_frozen BK301.out 0; have hfz24_1 := blk_frozen BK301.out 1; have hfz24_2 := blk_frozen BK301.out 2; have hfz24_3 := blk_frozen BK301.out 3; have hfz24_4 := blk_frozen BK301.out 4; have hcz25_0 : w19.cell? ⟨gb302, 0, none⟩ = some (.int .i64 0) := (blk_cell BK302.out 0).trans rfl; have hcz25_1 : w19.cell? ⟨gb302, 1, none⟩ = some (.int .i64 0) := (blk_cell BK302.out 1).trans rfl; have hcz25_2 : w19.cell? ⟨gb302, 2, none⟩ = some (.int .i64 0) := (blk_cell BK302.out 2).trans rfl; have hcz25_3 : w19.cell? ⟨gb302, 3, none⟩ = some (.int .i64 0) := (blk_cell BK302.out 3).trans rfl; have hcz25_4 : w19.cell? ⟨gb302, 4, none⟩ = some (.int .i64 0) := (blk_cell BK302.out 4).trans rfl; have hfz25_0 := blk_frozen BK302.out 0; have hfz25_1 := blk_frozen BK302.out 1; have hfz25_2 := blk_frozen BK302.out 2; have hfz25_3 := blk_frozen BK302.out 3; have hfz25_4 := blk_frozen BK302.out 4))
     have n0_ : Aside0 ((((((((((((((((w19.setCell ⟨gb300, 0, none⟩ (.int .i64 t285)).setCell ⟨gb300, 1, none⟩ (.int .i64 t286)).setCell ⟨gb300, 2, none⟩ (.int .i64 t287)).setCell ⟨gb300, 3, none⟩ (.int .i64 t288)).setCell ⟨gb300, 4, none⟩ (.int .i64 t289)).setCell ⟨gb301, 0, none⟩ (.int .i64 t290)).setCell ⟨gb301, 1, none⟩ (.int .i64 t291)).setCell ⟨gb301, 2, none⟩ (.int .i64 t292)).setCell ⟨gb301, 3, none⟩ (.int .i64 t293)).setCell ⟨gb301, 4, none⟩ (.int .i64 t294)).setCell ⟨gb302, 0, none⟩ (.int .i64 t295)).setCell ⟨gb302, 1, none⟩ (.int .i64 t296)).setCell ⟨gb302, 2, none⟩ (.int .i64 t297)).setCell ⟨gb302, 3, none⟩ (.int .i64 t298)).setCell ⟨gb302, 4, none⟩ (.int .i64 t299)).heap[gb300]? = some (.cells #[.int .i64 t285, .int .i64 t286, .int .i64 t287, .int .i64 t288, .int .i64 t289] 50 (0, 0))) := ⟨by (with_reducible repeat (first | refine blk_drewN ?_ _ | refine blk_drew ?_ | refine blk_alloc ?_ _)); refine blk_far ?_ NB300_302.out _; (with_reducible repeat (first | refine blk_drewN ?_ _ | refine blk_drew ?_ | refine blk_alloc ?_ _)); refine blk_far ?_ NB300_302.out _; (with_reducible repeat (first | refine blk_drewN ?_ _ | refine blk_drew ?_ | refine blk_alloc ?_ _)); refine blk_far ?_ NB300_302.out _; (with_reducible repeat (first | refine blk_drewN ?_ _ | refine blk_drew ?_ | refine blk_alloc ?_ _)); refine blk_far ?_ NB300_302.out _; (with_reducible repeat (first | refine blk_drewN ?_ _ | refine blk_drew ?_ | refine blk_alloc ?_ _)); refine blk_far ?_ NB300_302.out _; (with_reducible repeat (first | refine blk_drewN ?_ _ | refine blk_drew ?_ | refine blk_alloc ?_ _)); refine blk_far ?_ NB300_301.out _; (with_reducible repeat (first | refine blk_drewN ?_ _ | refine blk_drew ?_ | refine blk_alloc ?_ _)); refine blk_far ?_ NB300_301.out _; (with_reducible repeat (first | refine blk_drewN ?_ _ | refine blk_drew ?_ | refine blk_alloc ?_ _)); refine blk_far ?_ NB300_301.out _; (with_reducible repeat (first | refine blk_drewN ?_ _ | refine blk_drew ?_ | refine blk_alloc ?_ _)); refine blk_far ?_ NB300_301.out _; (with_reducible repeat (first | refine blk_drewN ?_ _ | refine blk_drew ?_ | refine blk_alloc ?_ _)); refine blk_far ?_ NB300_301.out _; (with_reducible repeat (first | refine blk_drewN ?_ _ | refine blk_drew ?_ | refine blk_alloc ?_ _)); refine blk_put (cs := #[.int .i64 t285, .int .i64 t286, .int .i64 t287, .int .i64 t288, .int .i64 0]) ?_ 4 _ rfl; (with_reducible repeat (first | refine blk_drewN ?_ _ | refine blk_drew ?_ | refine blk_alloc ?_ _)); refine blk_put (cs := #[.int .i64 t285, .int .i64 t286, .int .i64 t287, .int .i64 0, .int .i64 0]) ?_ 3 _ rfl; (with_reducible repeat (first | refine blk_drewN ?_ _ | refine blk_drew ?_ | refine blk_alloc ?_ _)); refine blk_put (cs := #[.int .i64 t285, .int .i64 t286, .int .i64 0, .int .i64 0, .int .i64 0]) ?_ 2 _ rfl; (with_reducible repeat (first | refine blk_drewN ?_ _ | refine blk_drew ?_ | refine blk_alloc ?_ _)); refine blk_put (cs := #[.int .i64 t285, .int .i64 0, .int .i64 0, .int .i64 0, .int .i64 0]) ?_ 1 _ rfl; (with_reducible repeat (first | refine blk_drewN ?_ _ | refine blk_drew ?_ | refine blk_alloc ?_ _)); refine blk_put (cs := #[.int .i64 0, .int .i64 0, .int .i64 0, .int .i64 0, .int .i64 0]) ?_ 0 _ rfl; (with_reducible repeat (first | refine blk_drewN ?_ _ | refine blk_drew ?_ | refine blk_alloc ?_ _)); exact BK300.out⟩
     have n1_ : Aside0 ((((((((((((((((w19.setCell ⟨gb300, 0, none⟩ (.int .i64 t285)).setCell ⟨gb300, 1, none⟩ (.int .i64 t286)).setCell ⟨gb300, 2, none⟩ (.int .i64 t287)).setCell ⟨gb300, 3, none⟩ (.int .i64 t288)).setCell ⟨gb300, 4, none⟩ (.int .i64 t289)).setCell ⟨gb301, 0, none⟩ (.int .i64 t290)).setCell ⟨gb301, 1, none⟩ (.int .i64 t291)).setCell ⟨gb301, 2, none⟩ (.int .i64 t292)).setCell ⟨gb301, 3, none⟩ (.int .i64 t293)).setCell ⟨gb301, 4, none⟩ (.int .i64 t294)).setCell ⟨gb302, 0, none⟩ (.int .i64 t295)).setCell ⟨gb302, 1, none⟩ (.int .i64 t296)).setCell ⟨gb302, 2, none⟩ (.int .i64 t297)).setCell ⟨gb302, 3, none⟩ (.int .i64 t298)).setCell ⟨gb302, 4, none⟩ (.int .i64 t299)).heap[gb301]? = some (.cells #[.int .i64 t290, .int .i64 t291, .int .i64 t292, .int .i64 t293, .int .i64 t294] 50 (0, 0))) := ⟨by (with_reducible repeat (first | refine blk_drewN ?_ _ | refine blk_drew ?_ | refine blk_alloc ?_ _)); refine blk_far ?_ NB301_302.out _; (with_reducible repeat (first | refine blk_drewN ?_ _ | refine blk_drew ?_ | refine blk_alloc ?_ _)); refine blk_far ?_ NB301_302.out _; (with_reducible repeat (first | refine blk_drewN ?_ _ | refine blk_drew ?_ | refine blk_alloc ?_ _)); refine blk_far ?_ NB301_302.out _; (with_reducible repeat (first | refine blk_drewN ?_ _ | refine blk_drew ?_ | refine blk_alloc ?_ _)); refine blk_far ?_ NB301_302.out _; (with_reducible repeat (first | refine blk_drewN ?_ _ | refine blk_drew ?_ | refine blk_alloc ?_ _)); refine blk_far ?_ NB301_302.out _; (with_reducible repeat (first | refine blk_drewN ?_ _ | refine blk_drew ?_ | refine blk_alloc ?_ _)); refine blk_put (cs := #[.int .i64 t290, .int .i64 t291, .int .i64 t292, .int .i64 t293, .int .i64 0]) ?_ 4 _ rfl; (with_reducible repeat (first | refine blk_drewN ?_ _ | refine blk_drew ?_ | refine blk_alloc ?_ _)); refine blk_put (cs := #[.int .i64 t290, .int .i64 t291, .int .i64 t292, .int .i64 0, .int .i64 0]) ?_ 3 _ rfl; (with_reducible repeat (first | refine blk_drewN ?_ _ | refine blk_drew ?_ | refine blk_alloc ?_ _)); refine blk_put (cs := #[.int .i64 t290, .int .i64 t291, .int .i64 0, .int .i64 0, .int .i64 0]) ?_ 2 _ rfl; (with_reducible repeat (first | refine blk_drewN ?_ _ | refine blk_drew ?_ | refine blk_alloc ?_ _)); refine blk_put (cs := #[.int .i64 t290, .int .i64 0, .int .i64 0, .int .i64 0, .int .i64 0]) ?_ 1 _ rfl; (with_reducible repeat (first | refine blk_drewN ?_ _ | refine blk_drew ?_ | refine blk_alloc ?_ _)); refine blk_put (cs := #[.int .i64 0, .int .i64 0, .int .i64 0, .int .i64 0, .int .i64 0]) ?_ 0 _ rfl; (with_reducible repeat (first | refine blk_drewN ?_ _ | refine blk_drew ?_ | refine blk_alloc ?_ _)); refine blk_far ?_ NB301_300.out _; (with_reducible repeat (first | refine blk_drewN ?_ _ | refine blk_drew ?_ | refine blk_alloc ?_ _)); refine blk_far ?_ NB301_300.out _; (with_reducible repeat (first | refine blk_drewN ?_ _ | refine blk_drew ?_ | refine blk_alloc ?_ _)); refine blk_far ?_ NB301_300.out _; (with_reducible repeat (first | refine blk_drewN ?_ _ | refine blk_drew ?_ | refine blk_alloc ?_ _)); refine blk_far ?_ NB301_300.out _; (with_reducible repeat (first | refine blk_drewN ?_ _ | refine blk_drew ?_ | refine blk_alloc ?_ _)); refine blk_far ?_ NB301_300.out _; (with_reducible repeat (first | refine blk_drewN ?_ _ | refine blk_drew ?_ | refine blk_alloc ?_ _)); exact BK301.out⟩
     have n2_ : Aside0 ((((((((((((((((w19.setCell ⟨gb300, 0, none⟩ (.int .i64 t285)).setCell ⟨gb300, 1, none⟩ (.int .i64 t286)).setCell ⟨gb300, 2, none⟩ (.int .i64 t287)).setCell ⟨gb300, 3, none⟩ (.int .i64 t288)).setCell ⟨gb300, 4, none⟩ (.int .i64 t289)).setCell ⟨gb301, 0, none⟩ (.int .i64 t290)).setCell ⟨gb301, 1, none⟩ (.int .i64 t291)).setCell ⟨gb301, 2, none⟩ (.int .i64 t292)).setCell ⟨gb301, 3, none⟩ (.int .i64 t293)).setCell ⟨gb301, 4, none⟩ (.int .i64 t294)).setCell ⟨gb302, 0, none⟩ (.int .i64 t295)).setCell ⟨gb302, 1, none⟩ (.int .i64 t296)).setCell ⟨gb302, 2, none⟩ (.int .i64 t297)).setCell ⟨gb302, 3, none⟩ (.int .i64 t298)).setCell ⟨gb302, 4, none⟩ (.int .i64 t299)).heap[gb302]? = some (.cells #[.int .i64 t295, .int .i64 t296, .int .i64 t297, .int .i64 t298, .int .i64 t299] 50 (0, 0))) := ⟨by (with_reducible repeat (first | refine blk_drewN ?_ _ | refine blk_drew ?_ | refine blk_alloc ?_ _)); refine blk_put (cs := #[.int .i64 t295, .int .i64 t296, .int .i64 t297, .int .i64 t298, .int .i64 0]) ?_ 4 _ rfl; (with_reducible repeat (first | refine blk_drewN ?_ _ | refine blk_drew ?_ | refine blk_alloc ?_ _)); refine blk_put (cs := #[.int .i64 t295, .int .i64 t296, .int .i64 t297, .int .i64 0, .int .i64 0]) ?_ 3 _ rfl; (with_reducible repeat (first | refine blk_drewN ?_ _ | refine blk_drew ?_ | refine blk_alloc ?_ _)); refine blk_put (cs := #[.int .i64 t295, .int .i64 t296, .int .i64 0, .int .i64 0, .int .i64 0]) ?_ 2 _ rfl; (with_reducible repeat (first | refine blk_drewN ?_ _ | refine blk_drew ?_ | refine blk_alloc ?_ _)); refine blk_put (cs := #[.int .i64 t295, .int .i64 0, .int .i64 0, .int .i64 0, .int .i64 0]) ?_ 1 _ rfl; (with_reducible repeat (first | refine blk_drewN ?_ _ | refine blk_drew ?_ | refine blk_alloc ?_ _)); refine blk_put (cs := #[.int .i64 0, .int .i64 0, .int .i64 0, .int .i64 0, .int .i64 0]) ?_ 0 _ rfl; (with_reducible repeat (first | refine blk_drewN ?_ _ | refine blk_drew ?_ | refine blk_alloc ?_ _)); refine blk_far ?_ NB302_301.out _; (with_reducible repeat (first | refine blk_drewN ?_ _ | refine blk_drew ?_ | refine blk_alloc ?_ _)); refine blk_far ?_ NB302_301.out _; (with_reducible repeat (first | refine blk_drewN ?_ _ | refine blk_drew ?_ | refine blk_alloc ?_ _)); refine blk_far ?_ NB302_301.out _; (with_reducible repeat (first | refine blk_drewN ?_ _ | refine blk_drew ?_ | refine blk_alloc ?_ _)); refine blk_far ?_ NB302_301.out _; (with_reducible repeat (first | refine blk_drewN ?_ _ | refine blk_drew ?_ | refine blk_alloc ?_ _)); refine blk_far ?_ NB302_301.out _; (with_reducible repeat (first | refine blk_drewN ?_ _ | refine blk_drew ?_ | refine blk_alloc ?_ _)); refine blk_far ?_ NB302_300.out _; (with_reducible repeat (first | refine blk_drewN ?_ _ | refine blk_drew ?_ | refine blk_alloc ?_ _)); refine blk_far ?_ NB302_300.out _; (with_reducible repeat (first | refine blk_drewN ?_ _ | refine blk_drew ?_ | refine blk_alloc ?_ _)); refine blk_far ?_ NB302_300.out _; (with_reducible repeat (first | refine blk_drewN ?_ _ | refine blk_drew ?_ | refine blk_alloc ?_ _)); refine blk_far ?_ NB302_300.out _; (with_reducible repeat (first | refine blk_drewN ?_ _ | refine blk_drew ?_ | refine blk_alloc ?_ _)); refine blk_far ?_ NB302_300.out _; (with_reducible repeat (first | refine blk_drewN ?_ _ | refine blk_drew ?_ | refine blk_alloc ?_ _)); exact BK302.out⟩
     have n3_ : Aside0 (Below w.heap.size w (((((((((((((((w19.setCell ⟨gb300, 0, none⟩ (.int .i64 t285)).setCell ⟨gb300, 1, none⟩ (.int .i64 t286)).setCell ⟨gb300, 2, none⟩ (.int .i64 t287)).setCell ⟨gb300, 3, none⟩ (.int .i64 t288)).setCell ⟨gb300, 4, none⟩ (.int .i64 t289)).setCell ⟨gb301, 0, none⟩ (.int .i64 t290)).setCell ⟨gb301, 1, none⟩ (.int .i64 t291)).setCell ⟨gb301, 2, none⟩ (.int .i64 t292)).setCell ⟨gb301, 3, none⟩ (.int .i64 t293)).setCell ⟨gb301, 4, none⟩ (.int .i64 t294)).setCell ⟨gb302, 0, none⟩ (.int .i64 t295)).setCell ⟨gb302, 1, none⟩ (.int .i64 t296)).setCell ⟨gb302, 2, none⟩ (.int .i64 t297)).setCell ⟨gb302, 3, none⟩ (.int .i64 t298)).setCell ⟨gb302, 4, none⟩ (.int .i64 t299))) := ⟨by repeat (first | (with_reducible first | exact HB.out | apply below_alloc | apply pw_below_drewN | apply below_drew1 | refine below_set ?_ GE300.out | refine below_set ?_ GE301.out | refine below_set ?_ GE302.out) | exact HB.out)⟩
     (try clear BK300)
     (try clear BK301)
     (try clear BK302)
     (try clear HB)
     generalize (((((((((((((((w19.setCell ⟨gb300, 0, none⟩ (.int .i64 t285)).setCell ⟨gb300, 1, none⟩ (.int .i64 t286)).setCell ⟨gb300, 2, none⟩ (.int .i64 t287)).setCell ⟨gb300, 3, none⟩ (.int .i64 t288)).setCell ⟨gb300, 4, none⟩ (.int .i64 t289)).setCell ⟨gb301, 0, none⟩ (.int .i64 t290)).setCell ⟨gb301, 1, none⟩ (.int .i64 t291)).setCell ⟨gb301, 2, none⟩ (.int .i64 t292)).setCell ⟨gb301, 3, none⟩ (.int .i64 t293)).setCell ⟨gb301, 4, none⟩ (.int .i64 t294)).setCell ⟨gb302, 0, none⟩ (.int .i64 t295)).setCell ⟨gb302, 1, none⟩ (.int .i64 t296)).setCell ⟨gb302, 2, none⟩ (.int .i64 t297)).setCell ⟨gb302, 3, none⟩ (.int .i64 t298)).setCell ⟨gb302, 4, none⟩ (.int .i64 t299)) = w26 at n0_ n1_ n2_ n3_ ⊢
     have BK300 := n0_
     have BK301 := n1_
     have BK302 := n2_
     have HB := n3_
     clear n0_ n1_ n2_ n3_
     have n0_ := Aside0.mk (blk_drew BK300.out)
     have n1_ := Aside0.mk (blk_drew BK301.out)
     have n2_ := Aside0.mk (blk_drew BK302.out)
     have n3_ := Aside0.mk (below_drew1 HB.out)
     clear BK300
     clear BK301
     clear BK302
     clear HB
     have BK300 := n0_
     have BK301 := n1_
     have BK302 := n2_
     have HB := n3_
     clear n0_ n1_ n2_ n3_
     refine start_ (n := 20) (S := fun w' => True) (ds := []) #[false, false, false, false, false, false, false, false, false, false, false, false, false, false, false, false, false, false, false, false] (by kernel_rfl) rfl rfl trivial (fun hHeld => ?_); refine with_tabW slotmeshlaw17_headP.tab2 slotmeshlaw17_headP.bits2 (fun HT_ HW_ => ?_)
     generalize w26.drew = w27 at BK300 BK301 BK302 HB hHeld ⊢
     refine inv_at [0, 1, 2, 3, 4, 5, 6, 7, 8, 9, 10, 11, 12, 13, 14, 15, 16, 17, 18, 19] (fun a0_ b a w' => ∃ (v304 : Value) (v308 : Value) (v317 : Value), a = putSel a0_ b [(0, 10, .agg #[.int .i64 t285, .int .i64 t286, .int .i64 t287, .int .i64 t288, .int .i64 t289]), (1, 11, .agg #[.int .i64 t290, .int .i64 t291, .int .i64 t292, .int .i64 t293, .int .i64 t294]), (2, 12, .agg #[.int .i64 t290, .int .i64 t291, .int .i64 t292, .int .i64 t293, .int .i64 t294]), (3, 13, v304), (4, 14, .bool true), (5, 15, .bool true), (6, 16, .agg #[.int .i64 t285, .int .i64 t286, .int .i64 t287, .int .i64 t288, .int .i64 t289]), (7, 17, .agg #[.int .i64 t290, .int .i64 t291, .int .i64 t292, .int .i64 t293, .int .i64 t294]), (8, 18, .agg #[.int .i64 t285, .int .i64 t286, .int .i64 t287, .int .i64 t288, .int .i64 t289]), (9, 19, v308), (10, 20, .bool true), (11, 21, .bool true), (12, 22, .bool true), (13, 23, .agg #[.int .i64 t311, .int .i64 t312, .int .i64 t313, .int .i64 t314, .int .i64 t315]), (14, 24, .agg #[.int .i64 t290, .int .i64 t291, .int .i64 t292, .int .i64 t293, .int .i64 t294]), (15, 25, .agg #[.int .i64 t295, .int .i64 t296, .int .i64 t297, .int .i64 t298, .int .i64 t299]), (16, 26, v317), (17, 27, .bool true), (18, 28, .bool true), (19, 4, .bool true)] ∧ (w'.heap[gb300]? = some (.cells #[.int .i64 t285, .int .i64 t286, .int .i64 t287, .int .i64 t288, .int .i64 t289] 50 (0, 0))) ∧ (w'.heap[gb301]? = some (.cells #[.int .i64 t290, .int .i64 t291, .int .i64 t292, .int .i64 t293, .int .i64 t294] 50 (0, 0))) ∧ (w'.heap[gb302]? = some (.cells #[.int .i64 t295, .int .i64 t296, .int .i64 t297, .int .i64 t298, .int .i64 t299] 50 (0, 0))) ∧ (Below w.heap.size w w') ∧ (b 3 = true → Kd.R (Kd.int .i64) 3 w' w.heap.size (fun _ => True) v304 y303) ∧ (b 9 = true → Kd.R (Kd.int .i64) 3 w' w.heap.size (fun _ => True) v308 y307) ∧ (b 16 = true → Kd.R (Kd.int .i64) 3 w' w.heap.size (fun _ => True) v317 y316)) HT_.out HW_.out (by kernel_rfl) (by kernel_rfl) ?_ ?_ ?_
     ·
      exact ⟨.bool false, .bool false, .bool false, by simp only [putSel, Bool.false_eq_true, if_false], BK300.out, BK301.out, BK302.out, HB.out, fun h_ => absurd h_ (by decide), fun h_ => absurd h_ (by decide), fun h_ => absurd h_ (by decide)⟩
     ·
      skip
      clear BK300 BK301 BK302 HB
      refine steps_cons ?_ ?_
      ·
       rintro b a w' ⟨v304, v308, v317, ha, Q_BK300, Q_BK301, Q_BK302, Q_HB, Q_HO305, Q_HO309, Q_HO318⟩ hb_ hon hoff
       refine ⟨_, rfl, fun K hK => ?_⟩
       have e1 : a.tmps[1]? = some (.pointer (some ⟨gb300, 0, none⟩)) := by rw [ha]; exact (putSel_off rfl).trans rfl
       replace ha := Aside0.mk ha
       have BK300 := Aside0.mk Q_BK300
       have BK301 := Aside0.mk Q_BK301
       have BK302 := Aside0.mk Q_BK302
       have HB := Aside0.mk Q_HB
       have hc0_ : w'.cell? ⟨gb300, 0, none⟩ = some (.int .i64 t285) := (blk_cell BK300.out 0).trans rfl
       have hc1_ : w'.cell? ⟨gb300, 1, none⟩ = some (.int .i64 t286) := (blk_cell BK300.out 1).trans rfl
       have hc2_ : w'.cell? ⟨gb300, 2, none⟩ = some (.int .i64 t287) := (blk_cell BK300.out 2).trans rfl
       have hc3_ : w'.cell? ⟨gb300, 3, none⟩ = some (.int .i64 t288) := (blk_cell BK300.out 3).trans rfl
       have hc4_ : w'.cell? ⟨gb300, 4, none⟩ = some (.int .i64 t289) := (blk_cell BK300.out 4).trans rfl
       refine value_ (w1 := w') (v := .agg #[.int .i64 t285, .int .i64 t286, .int .i64 t287, .int .i64 t288, .int .i64 t289]) (by rfl) rfl ?_ ?_
       ·
        go_simp
        (try simp only [i64_w])
        try rfl
       refine hK.out _ _ ⟨v304, v308, v317, (by rw [ha.out]; exact putSel_upk 0 hb_ rfl rfl rfl), Q_BK300, Q_BK301, Q_BK302, Q_HB, Q_HO305, fun h0_ => absurd ((hoff 9 (by kernel_rfl)).symm.trans h0_) (by decide), fun h0_ => absurd ((hoff 16 (by kernel_rfl)).symm.trans h0_) (by decide)⟩
      refine steps_cons ?_ ?_
      ·
       rintro b a w' ⟨v304, v308, v317, ha, Q_BK300, Q_BK301, Q_BK302, Q_HB, Q_HO305, Q_HO309, Q_HO318⟩ hb_ hon hoff
       refine ⟨_, rfl, fun K hK => ?_⟩
       have e2 : a.tmps[2]? = some (.pointer (some ⟨gb301, 0, none⟩)) := by rw [ha]; exact (putSel_off rfl).trans rfl
       replace ha := Aside0.mk ha
       have BK300 := Aside0.mk Q_BK300
       have BK301 := Aside0.mk Q_BK301
       have BK302 := Aside0.mk Q_BK302
       have HB := Aside0.mk Q_HB
       have hc0_ : w'.cell? ⟨gb301, 0, none⟩ = some (.int .i64 t290) := (blk_cell BK301.out 0).trans rfl
       have hc1_ : w'.cell? ⟨gb301, 1, none⟩ = some (.int .i64 t291) := (blk_cell BK301.out 1).trans rfl
       have hc2_ : w'.cell? ⟨gb301, 2, none⟩ = some (.int .i64 t292) := (blk_cell BK301.out 2).trans rfl
       have hc3_ : w'.cell? ⟨gb301, 3, none⟩ = some (.int .i64 t293) := (blk_cell BK301.out 3).trans rfl
       have hc4_ : w'.cell? ⟨gb301, 4, none⟩ = some (.int .i64 t294) := (blk_cell BK301.out 4).trans rfl
       refine value_ (w1 := w') (v := .agg #[.int .i64 t290, .int .i64 t291, .int .i64 t292, .int .i64 t293, .int .i64 t294]) (by rfl) rfl ?_ ?_
       ·
        go_simp
        (try simp only [i64_w])
        try rfl
       refine hK.out _ _ ⟨v304, v308, v317, (by rw [ha.out]; exact putSel_upk 1 hb_ rfl rfl rfl), Q_BK300, Q_BK301, Q_BK302, Q_HB, Q_HO305, fun h0_ => absurd ((hoff 9 (by kernel_rfl)).symm.trans h0_) (by decide), fun h0_ => absurd ((hoff 16 (by kernel_rfl)).symm.trans h0_) (by decide)⟩
      refine steps_cons ?_ ?_
      ·
       rintro b a w' ⟨v304, v308, v317, ha, Q_BK300, Q_BK301, Q_BK302, Q_HB, Q_HO305, Q_HO309, Q_HO318⟩ hb_ hon hoff
       refine ⟨_, rfl, fun K hK => ?_⟩
       have e2 : a.tmps[2]? = some (.pointer (some ⟨gb301, 0, none⟩)) := by rw [ha]; exact (putSel_off rfl).trans rfl
       replace ha := Aside0.mk ha
       have BK300 := Aside0.mk Q_BK300
       have BK301 := Aside0.mk Q_BK301
       have BK302 := Aside0.mk Q_BK302
       have HB := Aside0.mk Q_HB
       have hc0_ : w'.cell? ⟨gb301, 0, none⟩ = some (.int .i64 t290) := (blk_cell BK301.out 0).trans rfl
       have hc1_ : w'.cell? ⟨gb301, 1, none⟩ = some (.int .i64 t291) := (blk_cell BK301.out 1).trans rfl
       have hc2_ : w'.cell? ⟨gb301, 2, none⟩ = some (.int .i64 t292) := (blk_cell BK301.out 2).trans rfl
       have hc3_ : w'.cell? ⟨gb301, 3, none⟩ = some (.int .i64 t293) := (blk_cell BK301.out 3).trans rfl
       have hc4_ : w'.cell? ⟨gb301, 4, none⟩ = some (.int .i64 t294) := (blk_cell BK301.out 4).trans rfl
       refine value_ (w1 := w') (v := .agg #[.int .i64 t290, .int .i64 t291, .int .i64 t292, .int .i64 t293, .int .i64 t294]) (by rfl) rfl ?_ ?_
       ·
        go_simp
        (try simp only [i64_w])
        try rfl
       refine hK.out _ _ ⟨v304, v308, v317, (by rw [ha.out]; exact putSel_upk 2 hb_ rfl rfl rfl), Q_BK300, Q_BK301, Q_BK302, Q_HB, Q_HO305, fun h0_ => absurd ((hoff 9 (by kernel_rfl)).symm.trans h0_) (by decide), fun h0_ => absurd ((hoff 16 (by kernel_rfl)).symm.trans h0_) (by decide)⟩
      refine steps_cons ?_ ?_
      ·
       rintro b a w' ⟨v304, v308, v317, ha, Q_BK300, Q_BK301, Q_BK302, Q_HB, Q_HO305, Q_HO309, Q_HO318⟩ hb_ hon hoff
       refine ⟨_, rfl, fun K hK => ?_⟩
       replace ha := Aside0.mk ha
       have BK300 := Aside0.mk Q_BK300
       have BK301 := Aside0.mk Q_BK301
       have BK302 := Aside0.mk Q_BK302
       have HB := Aside0.mk Q_HB
       refine Kd.R_lit_step (Kd.int .i64) _ 3 ?hg (N := 13) ?hd (xs := ([(-1), 0, (-1)] : List Int)) (inner := [.int .i64 (-1), .int .i64 0, .int .i64 (-1)]) (ok := fun _ => True) (okp := fun _ => True) ?hr ?hp (fun _ hk => hk) trivial (Below.refl _ _) (Nat.le_refl _) (by simp) ?_; (case hd => rfl); (case hg => rfl); (case hr => first | (go_simp; done) | (go_simp; rfl)); (case hp => exact (Reps.one (show Kd.M (Kd.int .i64) _ _ _ (-1) [.int .i64 (-1)] from rfl) (Reps.one (show Kd.M (Kd.int .i64) _ _ _ 0 [.int .i64 0] from rfl) (Reps.one (show Kd.M (Kd.int .i64) _ _ _ (-1) [.int .i64 (-1)] from rfl) (Reps.none _ _)))))
       intro v304 w28 ho29 hb hg_ hnew_
       clear hg_ hnew_
       (first | rw [← Ny303.out] at ho29 | (simp only [Int.reduceToNat] at ho29; rw [← Ny303.out] at ho29))
       have n0_ := Aside0.mk (Kd.R_lower ho29 (below_size (by repeat (first | (with_reducible first | exact HB.out | apply below_alloc | apply pw_below_drewN | apply below_drew1 | refine below_set ?_ GE300.out | refine below_set ?_ GE301.out | refine below_set ?_ GE302.out) | exact HB.out))))
       have n1_ := Aside0.mk (blk_below (g := gb300) (o := .cells #[.int .i64 t285, .int .i64 t286, .int .i64 t287, .int .i64 t288, .int .i64 t289] 50 (0, 0)) (by (with_reducible repeat (first | refine blk_drewN ?_ _ | refine blk_drew ?_ | refine blk_alloc ?_ _)); exact BK300.out) hb)
       have n2_ := Aside0.mk (blk_below (g := gb301) (o := .cells #[.int .i64 t290, .int .i64 t291, .int .i64 t292, .int .i64 t293, .int .i64 t294] 50 (0, 0)) (by (with_reducible repeat (first | refine blk_drewN ?_ _ | refine blk_drew ?_ | refine blk_alloc ?_ _)); exact BK301.out) hb)
       have n3_ := Aside0.mk (blk_below (g := gb302) (o := .cells #[.int .i64 t295, .int .i64 t296, .int .i64 t297, .int .i64 t298, .int .i64 t299] 50 (0, 0)) (by (with_reducible repeat (first | refine blk_drewN ?_ _ | refine blk_drew ?_ | refine blk_alloc ?_ _)); exact BK302.out) hb)
       have n4_ := Aside0.mk (below_step (by repeat (first | (with_reducible first | exact HB.out | apply below_alloc | apply pw_below_drewN | apply below_drew1 | refine below_set ?_ GE300.out | refine below_set ?_ GE301.out | refine below_set ?_ GE302.out) | exact HB.out)) hb)
       clear BK300
       clear BK301
       clear BK302
       clear HB
       have HO305 := n0_
       have BK300 := n1_
       have BK301 := n2_
       have BK302 := n3_
       have HB := n4_
       clear n0_ n1_ n2_ n3_ n4_
       clear hb ho29
       refine hK.out _ _ ⟨v304, v308, v317, (by rw [ha.out]; exact putSel_upk 3 hb_ rfl rfl rfl), (by (with_reducible repeat (first | refine blk_drewN ?_ _ | refine blk_drew ?_ | refine blk_alloc ?_ _)); exact BK300.out), (by (with_reducible repeat (first | refine blk_drewN ?_ _ | refine blk_drew ?_ | refine blk_alloc ?_ _)); exact BK301.out), (by (with_reducible repeat (first | refine blk_drewN ?_ _ | refine blk_drew ?_ | refine blk_alloc ?_ _)); exact BK302.out), (by repeat (first | (with_reducible first | exact HB.out | apply below_alloc | apply pw_below_drewN | apply below_drew1 | refine below_set ?_ GE300.out | refine below_set ?_ GE301.out | refine below_set ?_ GE302.out) | exact HB.out)), fun _ => (by (with_reducible repeat (first | apply Kd.R_alloc | apply Kd.R_drewN | apply Kd.R_drew)); first | exact HO305.out | exact Kd.R_mono HO305.out (fun _ _ => trivial)), fun h0_ => absurd ((hoff 9 (by kernel_rfl)).symm.trans h0_) (by decide), fun h0_ => absurd ((hoff 16 (by kernel_rfl)).symm.trans h0_) (by decide)⟩
      refine steps_cons ?_ ?_
      ·
       rintro b a w' ⟨v304, v308, v317, ha, Q_BK300, Q_BK301, Q_BK302, Q_HB, Q_HO305, Q_HO309, Q_HO318⟩ hb_ hon hoff
       refine ⟨_, rfl, fun K hK => ?_⟩
       have e10 : a.tmps[10]? = some (.agg #[.int .i64 t285, .int .i64 t286, .int .i64 t287, .int .i64 t288, .int .i64 t289]) := by rw [ha]; exact putSel_on (e := (0, 10, .agg #[.int .i64 t285, .int .i64 t286, .int .i64 t287, .int .i64 t288, .int .i64 t289])) 0 rfl rfl (hon 0 (by kernel_rfl)) rfl
       have e11 : a.tmps[11]? = some (.agg #[.int .i64 t290, .int .i64 t291, .int .i64 t292, .int .i64 t293, .int .i64 t294]) := by rw [ha]; exact putSel_on (e := (1, 11, .agg #[.int .i64 t290, .int .i64 t291, .int .i64 t292, .int .i64 t293, .int .i64 t294])) 1 rfl rfl (hon 1 (by kernel_rfl)) rfl
       have e12 : a.tmps[12]? = some (.agg #[.int .i64 t290, .int .i64 t291, .int .i64 t292, .int .i64 t293, .int .i64 t294]) := by rw [ha]; exact putSel_on (e := (2, 12, .agg #[.int .i64 t290, .int .i64 t291, .int .i64 t292, .int .i64 t293, .int .i64 t294])) 2 rfl rfl (hon 2 (by kernel_rfl)) rfl
       have e13 : a.tmps[13]? = some (v304) := by rw [ha]; exact putSel_on (e := (3, 13, v304)) 3 rfl rfl (hon 3 (by kernel_rfl)) rfl
       replace ha := Aside0.mk ha
       have BK300 := Aside0.mk Q_BK300
       have BK301 := Aside0.mk Q_BK301
       have BK302 := Aside0.mk Q_BK302
       have HB := Aside0.mk Q_HB
       have HO305 := Aside0.mk (Q_HO305 (hon 3 (by kernel_rfl)))
       obtain ⟨Ao31, co31, eo31⟩ := Kd.R_slice HO305.out
       (first | subst eo31 | (injection eo31 with f1_ f2_ f3_; have f4_ := f1_.symm; have f5_ := f3_.symm; clear f1_ f2_ f3_; subst f4_; subst f5_))
       refine goes_ Try.func43 (by kernel_rfl) rfl #[.agg #[.int .i64 t285, .int .i64 t286, .int .i64 t287, .int .i64 t288, .int .i64 t289], .agg #[.int .i64 t290, .int .i64 t291, .int .i64 t292, .int .i64 t293, .int .i64 t294], .agg #[.int .i64 t290, .int .i64 t291, .int .i64 t292, .int .i64 t293, .int .i64 t294], .slice none 0 0, .slice Ao31 y303.length co31] (by rfl) rfl rfl (by first | (simp only [List.map_toArray, List.map_cons, List.map_nil, Act.eval, Array.getD_eq_getD_getElem?, Option.getD_some, e10, e11, e12, e13]; done) | (simp only [List.map_toArray, List.map_cons, List.map_nil, Act.eval, Array.getD_eq_getD_getElem?, Option.getD_some, e10, e11, e12, e13]; rfl)) ?_
       refine (slotmeshlaw17_gives.calls k t285 t286 t287 t288 t289 t290 t291 t292 t293 t294 t290 t291 t292 t293 t294 _ _ ([] : List (S42)) _ _ y303 true _ ?side1 ?side2 ?side3 ?side4 A4.out).mono ?_
       (case side1 => exact Kd.C_nil _ _)
       (case side2 => exact Nat.le_refl _)
       (case side3 => repeat (first | exact (Kd.R_reads' HO305.out).2.2 | (with_reducible refine Kd.C_alloc ?_ _) | (with_reducible refine Kd.C_drewN ?_ _) | (with_reducible refine Kd.C_drew ?_)))
       (case side4 => exact (Kd.R_reads' HO305.out).2.1)
       rintro e w32 ⟨rfl, hb⟩
       refine ⟨_, rfl, ?_⟩
       have n0_ := Aside0.mk (Kd.R_below (by (with_reducible repeat (first | apply Kd.R_alloc | apply Kd.R_drewN | apply Kd.R_drew)); exact HO305.out) hb)
       have n1_ := Aside0.mk (blk_below (g := gb300) (o := .cells #[.int .i64 t285, .int .i64 t286, .int .i64 t287, .int .i64 t288, .int .i64 t289] 50 (0, 0)) (by (with_reducible repeat (first | refine blk_drewN ?_ _ | refine blk_drew ?_ | refine blk_alloc ?_ _)); exact BK300.out) hb)
       have n2_ := Aside0.mk (blk_below (g := gb301) (o := .cells #[.int .i64 t290, .int .i64 t291, .int .i64 t292, .int .i64 t293, .int .i64 t294] 50 (0, 0)) (by (with_reducible repeat (first | refine blk_drewN ?_ _ | refine blk_drew ?_ | refine blk_alloc ?_ _)); exact BK301.out) hb)
       have n3_ := Aside0.mk (blk_below (g := gb302) (o := .cells #[.int .i64 t295, .int .i64 t296, .int .i64 t297, .int .i64 t298, .int .i64 t299] 50 (0, 0)) (by (with_reducible repeat (first | refine blk_drewN ?_ _ | refine blk_drew ?_ | refine blk_alloc ?_ _)); exact BK302.out) hb)
       have n4_ := Aside0.mk (below_step (by repeat (first | (with_reducible first | exact HB.out | apply below_alloc | apply pw_below_drewN | apply below_drew1 | refine below_set ?_ GE300.out | refine below_set ?_ GE301.out | refine below_set ?_ GE302.out) | exact HB.out)) hb)
       clear HO305
       clear BK300
       clear BK301
       clear BK302
       clear HB
       have HO305 := n0_
       have BK300 := n1_
       have BK301 := n2_
       have BK302 := n3_
       have HB := n4_
       clear n0_ n1_ n2_ n3_ n4_
       (try clear hb)
       (try clear hb2)
       (try clear hk)
       (try clear hi)
       refine hK.out _ _ ⟨.slice Ao31 y303.length co31, v308, v317, (by rw [ha.out]; exact putSel_upk 4 hb_ rfl rfl rfl), (by (with_reducible repeat (first | refine blk_drewN ?_ _ | refine blk_drew ?_ | refine blk_alloc ?_ _)); exact BK300.out), (by (with_reducible repeat (first | refine blk_drewN ?_ _ | refine blk_drew ?_ | refine blk_alloc ?_ _)); exact BK301.out), (by (with_reducible repeat (first | refine blk_drewN ?_ _ | refine blk_drew ?_ | refine blk_alloc ?_ _)); exact BK302.out), (by repeat (first | (with_reducible first | exact HB.out | apply below_alloc | apply pw_below_drewN | apply below_drew1 | refine below_set ?_ GE300.out | refine below_set ?_ GE301.out | refine below_set ?_ GE302.out) | exact HB.out)), fun _ => (by (with_reducible repeat (first | apply Kd.R_alloc | apply Kd.R_drewN | apply Kd.R_drew)); first | exact HO305.out | exact Kd.R_mono HO305.out (fun _ _ => trivial)), fun h0_ => absurd ((hoff 9 (by kernel_rfl)).symm.trans h0_) (by decide), fun h0_ => absurd ((hoff 16 (by kernel_rfl)).symm.trans h0_) (by decide)⟩
      refine steps_cons ?_ ?_
      ·
       rintro b a w' ⟨v304, v308, v317, ha, Q_BK300, Q_BK301, Q_BK302, Q_HB, Q_HO305, Q_HO309, Q_HO318⟩ hb_ hon hoff
       refine ⟨_, rfl, fun K hK => ?_⟩
       have e14 : a.tmps[14]? = some (.bool true) := by rw [ha]; exact putSel_on (e := (4, 14, .bool true)) 4 rfl rfl (hon 4 (by kernel_rfl)) rfl
       replace ha := Aside0.mk ha
       have BK300 := Aside0.mk Q_BK300
       have BK301 := Aside0.mk Q_BK301
       have BK302 := Aside0.mk Q_BK302
       have HB := Aside0.mk Q_HB
       have HO305 := Aside0.mk (Q_HO305 (hon 3 (by kernel_rfl)))
       refine value_ (w1 := w') (v := .bool true) (by rfl) rfl ?_ ?_
       ·
        go_simp
        (try simp only [i64_w])
        try rfl
       refine hK.out _ _ ⟨v304, v308, v317, (by rw [ha.out]; exact putSel_upk 5 hb_ rfl rfl rfl), Q_BK300, Q_BK301, Q_BK302, Q_HB, Q_HO305, fun h0_ => absurd ((hoff 9 (by kernel_rfl)).symm.trans h0_) (by decide), fun h0_ => absurd ((hoff 16 (by kernel_rfl)).symm.trans h0_) (by decide)⟩
      refine steps_cons ?_ ?_
      ·
       rintro b a w' ⟨v304, v308, v317, ha, Q_BK300, Q_BK301, Q_BK302, Q_HB, Q_HO305, Q_HO309, Q_HO318⟩ hb_ hon hoff
       refine ⟨_, rfl, fun K hK => ?_⟩
       have e1 : a.tmps[1]? = some (.pointer (some ⟨gb300, 0, none⟩)) := by rw [ha]; exact (putSel_off rfl).trans rfl
       have e15 : a.tmps[15]? = some (.bool true) := by rw [ha]; exact putSel_on (e := (5, 15, .bool true)) 5 rfl rfl (hon 5 (by kernel_rfl)) rfl
       replace ha := Aside0.mk ha
       have BK300 := Aside0.mk Q_BK300
       have BK301 := Aside0.mk Q_BK301
       have BK302 := Aside0.mk Q_BK302
       have HB := Aside0.mk Q_HB
       have HO305 := Aside0.mk (Q_HO305 (hon 3 (by kernel_rfl)))
       have hc0_ : w'.cell? ⟨gb300, 0, none⟩ = some (.int .i64 t285) := (blk_cell BK300.out 0).trans rfl
       have hc1_ : w'.cell? ⟨gb300, 1, none⟩ = some (.int .i64 t286) := (blk_cell BK300.out 1).trans rfl
       have hc2_ : w'.cell? ⟨gb300, 2, none⟩ = some (.int .i64 t287) := (blk_cell BK300.out 2).trans rfl
       have hc3_ : w'.cell? ⟨gb300, 3, none⟩ = some (.int .i64 t288) := (blk_cell BK300.out 3).trans rfl
       have hc4_ : w'.cell? ⟨gb300, 4, none⟩ = some (.int .i64 t289) := (blk_cell BK300.out 4).trans rfl
       refine value_ (w1 := w') (v := .agg #[.int .i64 t285, .int .i64 t286, .int .i64 t287, .int .i64 t288, .int .i64 t289]) (wanted_on rfl rfl rfl (e15.trans (by first | rfl | (simp [*]; done)))) rfl ?_ ?_
       ·
        go_simp
        (try simp only [i64_w])
        try rfl
       refine hK.out _ _ ⟨v304, v308, v317, (by rw [ha.out]; exact putSel_upk 6 hb_ rfl rfl rfl), Q_BK300, Q_BK301, Q_BK302, Q_HB, Q_HO305, Q_HO309, fun h0_ => absurd ((hoff 16 (by kernel_rfl)).symm.trans h0_) (by decide)⟩
      refine steps_cons ?_ ?_
      ·
       rintro b a w' ⟨v304, v308, v317, ha, Q_BK300, Q_BK301, Q_BK302, Q_HB, Q_HO305, Q_HO309, Q_HO318⟩ hb_ hon hoff
       refine ⟨_, rfl, fun K hK => ?_⟩
       have e2 : a.tmps[2]? = some (.pointer (some ⟨gb301, 0, none⟩)) := by rw [ha]; exact (putSel_off rfl).trans rfl
       have e15 : a.tmps[15]? = some (.bool true) := by rw [ha]; exact putSel_on (e := (5, 15, .bool true)) 5 rfl rfl (hon 5 (by kernel_rfl)) rfl
       replace ha := Aside0.mk ha
       have BK300 := Aside0.mk Q_BK300
       have BK301 := Aside0.mk Q_BK301
       have BK302 := Aside0.mk Q_BK302
       have HB := Aside0.mk Q_HB
       have HO305 := Aside0.mk (Q_HO305 (hon 3 (by kernel_rfl)))
       have hc0_ : w'.cell? ⟨gb301, 0, none⟩ = some (.int .i64 t290) := (blk_cell BK301.out 0).trans rfl
       have hc1_ : w'.cell? ⟨gb301, 1, none⟩ = some (.int .i64 t291) := (blk_cell BK301.out 1).trans rfl
       have hc2_ : w'.cell? ⟨gb301, 2, none⟩ = some (.int .i64 t292) := (blk_cell BK301.out 2).trans rfl
       have hc3_ : w'.cell? ⟨gb301, 3, none⟩ = some (.int .i64 t293) := (blk_cell BK301.out 3).trans rfl
       have hc4_ : w'.cell? ⟨gb301, 4, none⟩ = some (.int .i64 t294) := (blk_cell BK301.out 4).trans rfl
       refine value_ (w1 := w') (v := .agg #[.int .i64 t290, .int .i64 t291, .int .i64 t292, .int .i64 t293, .int .i64 t294]) (wanted_on rfl rfl rfl (e15.trans (by first | rfl | (simp [*]; done)))) rfl ?_ ?_
       ·
        go_simp
        (try simp only [i64_w])
        try rfl
       refine hK.out _ _ ⟨v304, v308, v317, (by rw [ha.out]; exact putSel_upk 7 hb_ rfl rfl rfl), Q_BK300, Q_BK301, Q_BK302, Q_HB, Q_HO305, Q_HO309, fun h0_ => absurd ((hoff 16 (by kernel_rfl)).symm.trans h0_) (by decide)⟩
      refine steps_cons ?_ ?_
      ·
       rintro b a w' ⟨v304, v308, v317, ha, Q_BK300, Q_BK301, Q_BK302, Q_HB, Q_HO305, Q_HO309, Q_HO318⟩ hb_ hon hoff
       refine ⟨_, rfl, fun K hK => ?_⟩
       have e1 : a.tmps[1]? = some (.pointer (some ⟨gb300, 0, none⟩)) := by rw [ha]; exact (putSel_off rfl).trans rfl
       have e15 : a.tmps[15]? = some (.bool true) := by rw [ha]; exact putSel_on (e := (5, 15, .bool true)) 5 rfl rfl (hon 5 (by kernel_rfl)) rfl
       replace ha := Aside0.mk ha
       have BK300 := Aside0.mk Q_BK300
       have BK301 := Aside0.mk Q_BK301
       have BK302 := Aside0.mk Q_BK302
       have HB := Aside0.mk Q_HB
       have HO305 := Aside0.mk (Q_HO305 (hon 3 (by kernel_rfl)))
       have hc0_ : w'.cell? ⟨gb300, 0, none⟩ = some (.int .i64 t285) := (blk_cell BK300.out 0).trans rfl
       have hc1_ : w'.cell? ⟨gb300, 1, none⟩ = some (.int .i64 t286) := (blk_cell BK300.out 1).trans rfl
       have hc2_ : w'.cell? ⟨gb300, 2, none⟩ = some (.int .i64 t287) := (blk_cell BK300.out 2).trans rfl
       have hc3_ : w'.cell? ⟨gb300, 3, none⟩ = some (.int .i64 t288) := (blk_cell BK300.out 3).trans rfl
       have hc4_ : w'.cell? ⟨gb300, 4, none⟩ = some (.int .i64 t289) := (blk_cell BK300.out 4).trans rfl
       refine value_ (w1 := w') (v := .agg #[.int .i64 t285, .int .i64 t286, .int .i64 t287, .int .i64 t288, .int .i64 t289]) (wanted_on rfl rfl rfl (e15.trans (by first | rfl | (simp [*]; done)))) rfl ?_ ?_
       ·
        go_simp
        (try simp only [i64_w])
        try rfl
       refine hK.out _ _ ⟨v304, v308, v317, (by rw [ha.out]; exact putSel_upk 8 hb_ rfl rfl rfl), Q_BK300, Q_BK301, Q_BK302, Q_HB, Q_HO305, Q_HO309, fun h0_ => absurd ((hoff 16 (by kernel_rfl)).symm.trans h0_) (by decide)⟩
      refine steps_cons ?_ ?_
      ·
       rintro b a w' ⟨v304, v308, v317, ha, Q_BK300, Q_BK301, Q_BK302, Q_HB, Q_HO305, Q_HO309, Q_HO318⟩ hb_ hon hoff
       refine ⟨_, rfl, fun K hK => ?_⟩
       have e15 : a.tmps[15]? = some (.bool true) := by rw [ha]; exact putSel_on (e := (5, 15, .bool true)) 5 rfl rfl (hon 5 (by kernel_rfl)) rfl
       replace ha := Aside0.mk ha
       have BK300 := Aside0.mk Q_BK300
       have BK301 := Aside0.mk Q_BK301
       have BK302 := Aside0.mk Q_BK302
       have HB := Aside0.mk Q_HB
       have HO305 := Aside0.mk (Q_HO305 (hon 3 (by kernel_rfl)))
       refine Kd.R_lit_step (Kd.int .i64) _ 3 ?hg (N := 19) ?hd (xs := ([(-1), (-2), (-1)] : List Int)) (inner := [.int .i64 (-1), .int .i64 (-2), .int .i64 (-1)]) (ok := fun _ => True) (okp := fun _ => True) ?hr ?hp (fun _ hk => hk) trivial (Below.refl _ _) (Nat.le_refl _) (by simp) ?_; (case hd => rfl); (case hg => first | rfl | (simp [Region.wanted, yielded, e15]; done)); (case hr => first | (go_simp; done) | (go_simp; rfl)); (case hp => exact (Reps.one (show Kd.M (Kd.int .i64) _ _ _ (-1) [.int .i64 (-1)] from rfl) (Reps.one (show Kd.M (Kd.int .i64) _ _ _ (-2) [.int .i64 (-2)] from rfl) (Reps.one (show Kd.M (Kd.int .i64) _ _ _ (-1) [.int .i64 (-1)] from rfl) (Reps.none _ _)))))
       intro v308 w33 ho34 hb hg_ hnew_
       clear hg_ hnew_
       (first | rw [← Ny307.out] at ho34 | (simp only [Int.reduceToNat] at ho34; rw [← Ny307.out] at ho34))
       have n0_ := Aside0.mk (Kd.R_elder' (by (with_reducible repeat (first | apply Kd.R_alloc | apply Kd.R_drewN | apply Kd.R_drew)); exact HO305.out) (Kd.R_base ho34) hb)
       have n1_ := Aside0.mk (Kd.R_lower (Kd.R_new' ho34 (Kd.R_lt (by (with_reducible repeat (first | apply Kd.R_alloc | apply Kd.R_drewN | apply Kd.R_drew)); exact HO305.out))) (below_size (by repeat (first | (with_reducible first | exact HB.out | apply below_alloc | apply pw_below_drewN | apply below_drew1 | refine below_set ?_ GE300.out | refine below_set ?_ GE301.out | refine below_set ?_ GE302.out) | exact HB.out))))
       have n2_ := Aside0.mk (blk_below (g := gb300) (o := .cells #[.int .i64 t285, .int .i64 t286, .int .i64 t287, .int .i64 t288, .int .i64 t289] 50 (0, 0)) (by (with_reducible repeat (first | refine blk_drewN ?_ _ | refine blk_drew ?_ | refine blk_alloc ?_ _)); exact BK300.out) hb)
       have n3_ := Aside0.mk (blk_below (g := gb301) (o := .cells #[.int .i64 t290, .int .i64 t291, .int .i64 t292, .int .i64 t293, .int .i64 t294] 50 (0, 0)) (by (with_reducible repeat (first | refine blk_drewN ?_ _ | refine blk_drew ?_ | refine blk_alloc ?_ _)); exact BK301.out) hb)
       have n4_ := Aside0.mk (blk_below (g := gb302) (o := .cells #[.int .i64 t295, .int .i64 t296, .int .i64 t297, .int .i64 t298, .int .i64 t299] 50 (0, 0)) (by (with_reducible repeat (first | refine blk_drewN ?_ _ | refine blk_drew ?_ | refine blk_alloc ?_ _)); exact BK302.out) hb)
       have n5_ := Aside0.mk (below_step (by repeat (first | (with_reducible first | exact HB.out | apply below_alloc | apply pw_below_drewN | apply below_drew1 | refine below_set ?_ GE300.out | refine below_set ?_ GE301.out | refine below_set ?_ GE302.out) | exact HB.out)) hb)
       clear HO305
       clear BK300
       clear BK301
       clear BK302
       clear HB
       have HO305 := n0_
       have HO309 := n1_
       have BK300 := n2_
       have BK301 := n3_
       have BK302 := n4_
       have HB := n5_
       clear n0_ n1_ n2_ n3_ n4_ n5_
       clear hb ho34
       refine hK.out _ _ ⟨v304, v308, v317, (by rw [ha.out]; exact putSel_upk 9 hb_ rfl rfl rfl), (by (with_reducible repeat (first | refine blk_drewN ?_ _ | refine blk_drew ?_ | refine blk_alloc ?_ _)); exact BK300.out), (by (with_reducible repeat (first | refine blk_drewN ?_ _ | refine blk_drew ?_ | refine blk_alloc ?_ _)); exact BK301.out), (by (with_reducible repeat (first | refine blk_drewN ?_ _ | refine blk_drew ?_ | refine blk_alloc ?_ _)); exact BK302.out), (by repeat (first | (with_reducible first | exact HB.out | apply below_alloc | apply pw_below_drewN | apply below_drew1 | refine below_set ?_ GE300.out | refine below_set ?_ GE301.out | refine below_set ?_ GE302.out) | exact HB.out)), fun _ => (by (with_reducible repeat (first | apply Kd.R_alloc | apply Kd.R_drewN | apply Kd.R_drew)); first | exact Kd.R_mono HO305.out (fun _ hk => hk.2) | exact Kd.R_mono HO305.out (fun _ _ => trivial)), fun _ => (by (with_reducible repeat (first | apply Kd.R_alloc | apply Kd.R_drewN | apply Kd.R_drew)); first | exact Kd.R_mono HO309.out (fun _ hk => hk.2) | exact Kd.R_mono HO309.out (fun _ _ => trivial)), fun h0_ => absurd ((hoff 16 (by kernel_rfl)).symm.trans h0_) (by decide)⟩
      refine steps_cons ?_ ?_
      ·
       rintro b a w' ⟨v304, v308, v317, ha, Q_BK300, Q_BK301, Q_BK302, Q_HB, Q_HO305, Q_HO309, Q_HO318⟩ hb_ hon hoff
       refine ⟨_, rfl, fun K hK => ?_⟩
       have e16 : a.tmps[16]? = some (.agg #[.int .i64 t285, .int .i64 t286, .int .i64 t287, .int .i64 t288, .int .i64 t289]) := by rw [ha]; exact putSel_on (e := (6, 16, .agg #[.int .i64 t285, .int .i64 t286, .int .i64 t287, .int .i64 t288, .int .i64 t289])) 6 rfl rfl (hon 6 (by kernel_rfl)) rfl
       have e17 : a.tmps[17]? = some (.agg #[.int .i64 t290, .int .i64 t291, .int .i64 t292, .int .i64 t293, .int .i64 t294]) := by rw [ha]; exact putSel_on (e := (7, 17, .agg #[.int .i64 t290, .int .i64 t291, .int .i64 t292, .int .i64 t293, .int .i64 t294])) 7 rfl rfl (hon 7 (by kernel_rfl)) rfl
       have e18 : a.tmps[18]? = some (.agg #[.int .i64 t285, .int .i64 t286, .int .i64 t287, .int .i64 t288, .int .i64 t289]) := by rw [ha]; exact putSel_on (e := (8, 18, .agg #[.int .i64 t285, .int .i64 t286, .int .i64 t287, .int .i64 t288, .int .i64 t289])) 8 rfl rfl (hon 8 (by kernel_rfl)) rfl
       have e19 : a.tmps[19]? = some (v308) := by rw [ha]; exact putSel_on (e := (9, 19, v308)) 9 rfl rfl (hon 9 (by kernel_rfl)) rfl
       have e15 : a.tmps[15]? = some (.bool true) := by rw [ha]; exact putSel_on (e := (5, 15, .bool true)) 5 rfl rfl (hon 5 (by kernel_rfl)) rfl
       replace ha := Aside0.mk ha
       have BK300 := Aside0.mk Q_BK300
       have BK301 := Aside0.mk Q_BK301
       have BK302 := Aside0.mk Q_BK302
       have HB := Aside0.mk Q_HB
       have HO305 := Aside0.mk (Q_HO305 (hon 3 (by kernel_rfl)))
       have HO309 := Aside0.mk (Q_HO309 (hon 9 (by kernel_rfl)))
       obtain ⟨Ao35, co35, eo35⟩ := Kd.R_slice HO309.out
       (first | subst eo35 | (injection eo35 with f1_ f2_ f3_; have f4_ := f1_.symm; have f5_ := f3_.symm; clear f1_ f2_ f3_; subst f4_; subst f5_))
       refine goes_ Try.func43 (by kernel_rfl) rfl #[.agg #[.int .i64 t285, .int .i64 t286, .int .i64 t287, .int .i64 t288, .int .i64 t289], .agg #[.int .i64 t290, .int .i64 t291, .int .i64 t292, .int .i64 t293, .int .i64 t294], .agg #[.int .i64 t285, .int .i64 t286, .int .i64 t287, .int .i64 t288, .int .i64 t289], .slice none 0 0, .slice Ao35 y307.length co35] (by first | rfl | (simp [Region.wanted, yielded, e15]; done)) rfl rfl (by first | (simp only [List.map_toArray, List.map_cons, List.map_nil, Act.eval, Array.getD_eq_getD_getElem?, Option.getD_some, e16, e17, e18, e19, e15]; done) | (simp only [List.map_toArray, List.map_cons, List.map_nil, Act.eval, Array.getD_eq_getD_getElem?, Option.getD_some, e16, e17, e18, e19, e15]; rfl)) ?_
       refine (slotmeshlaw17_gives.calls k t285 t286 t287 t288 t289 t290 t291 t292 t293 t294 t285 t286 t287 t288 t289 _ _ ([] : List (S42)) _ _ y307 true _ ?side1 ?side2 ?side3 ?side4 A6.out).mono ?_
       (case side1 => exact Kd.C_nil _ _)
       (case side2 => exact Nat.le_refl _)
       (case side3 => repeat (first | exact (Kd.R_reads' HO309.out).2.2 | (with_reducible refine Kd.C_alloc ?_ _) | (with_reducible refine Kd.C_drewN ?_ _) | (with_reducible refine Kd.C_drew ?_)))
       (case side4 => exact (Kd.R_reads' HO309.out).2.1)
       rintro e w36 ⟨rfl, hb⟩
       refine ⟨_, rfl, ?_⟩
       have n0_ := Aside0.mk (Kd.R_below (by (with_reducible repeat (first | apply Kd.R_alloc | apply Kd.R_drewN | apply Kd.R_drew)); exact HO305.out) hb)
       have n1_ := Aside0.mk (Kd.R_below (by (with_reducible repeat (first | apply Kd.R_alloc | apply Kd.R_drewN | apply Kd.R_drew)); exact HO309.out) hb)
       have n2_ := Aside0.mk (blk_below (g := gb300) (o := .cells #[.int .i64 t285, .int .i64 t286, .int .i64 t287, .int .i64 t288, .int .i64 t289] 50 (0, 0)) (by (with_reducible repeat (first | refine blk_drewN ?_ _ | refine blk_drew ?_ | refine blk_alloc ?_ _)); exact BK300.out) hb)
       have n3_ := Aside0.mk (blk_below (g := gb301) (o := .cells #[.int .i64 t290, .int .i64 t291, .int .i64 t292, .int .i64 t293, .int .i64 t294] 50 (0, 0)) (by (with_reducible repeat (first | refine blk_drewN ?_ _ | refine blk_drew ?_ | refine blk_alloc ?_ _)); exact BK301.out) hb)
       have n4_ := Aside0.mk (blk_below (g := gb302) (o := .cells #[.int .i64 t295, .int .i64 t296, .int .i64 t297, .int .i64 t298, .int .i64 t299] 50 (0, 0)) (by (with_reducible repeat (first | refine blk_drewN ?_ _ | refine blk_drew ?_ | refine blk_alloc ?_ _)); exact BK302.out) hb)
       have n5_ := Aside0.mk (below_step (by repeat (first | (with_reducible first | exact HB.out | apply below_alloc | apply pw_below_drewN | apply below_drew1 | refine below_set ?_ GE300.out | refine below_set ?_ GE301.out | refine below_set ?_ GE302.out) | exact HB.out)) hb)
       clear HO305
       clear HO309
       clear BK300
       clear BK301
       clear BK302
       clear HB
       have HO305 := n0_
       have HO309 := n1_
       have BK300 := n2_
       have BK301 := n3_
       have BK302 := n4_
       have HB := n5_
       clear n0_ n1_ n2_ n3_ n4_ n5_
       (try clear hb)
       (try clear hb2)
       (try clear hk)
       (try clear hi)
       refine hK.out _ _ ⟨v304, .slice Ao35 y307.length co35, v317, (by rw [ha.out]; exact putSel_upk 10 hb_ rfl rfl rfl), (by (with_reducible repeat (first | refine blk_drewN ?_ _ | refine blk_drew ?_ | refine blk_alloc ?_ _)); exact BK300.out), (by (with_reducible repeat (first | refine blk_drewN ?_ _ | refine blk_drew ?_ | refine blk_alloc ?_ _)); exact BK301.out), (by (with_reducible repeat (first | refine blk_drewN ?_ _ | refine blk_drew ?_ | refine blk_alloc ?_ _)); exact BK302.out), (by repeat (first | (with_reducible first | exact HB.out | apply below_alloc | apply pw_below_drewN | apply below_drew1 | refine below_set ?_ GE300.out | refine below_set ?_ GE301.out | refine below_set ?_ GE302.out) | exact HB.out)), fun _ => (by (with_reducible repeat (first | apply Kd.R_alloc | apply Kd.R_drewN | apply Kd.R_drew)); first | exact HO305.out | exact Kd.R_mono HO305.out (fun _ _ => trivial)), fun _ => (by (with_reducible repeat (first | apply Kd.R_alloc | apply Kd.R_drewN | apply Kd.R_drew)); first | exact HO309.out | exact Kd.R_mono HO309.out (fun _ _ => trivial)), fun h0_ => absurd ((hoff 16 (by kernel_rfl)).symm.trans h0_) (by decide)⟩
      refine steps_cons ?_ ?_
      ·
       rintro b a w' ⟨v304, v308, v317, ha, Q_BK300, Q_BK301, Q_BK302, Q_HB, Q_HO305, Q_HO309, Q_HO318⟩ hb_ hon hoff
       refine ⟨_, rfl, fun K hK => ?_⟩
       have e15 : a.tmps[15]? = some (.bool true) := by rw [ha]; exact putSel_on (e := (5, 15, .bool true)) 5 rfl rfl (hon 5 (by kernel_rfl)) rfl
       have e20 : a.tmps[20]? = some (.bool true) := by rw [ha]; exact putSel_on (e := (10, 20, .bool true)) 10 rfl rfl (hon 10 (by kernel_rfl)) rfl
       replace ha := Aside0.mk ha
       have BK300 := Aside0.mk Q_BK300
       have BK301 := Aside0.mk Q_BK301
       have BK302 := Aside0.mk Q_BK302
       have HB := Aside0.mk Q_HB
       have HO305 := Aside0.mk (Q_HO305 (hon 3 (by kernel_rfl)))
       have HO309 := Aside0.mk (Q_HO309 (hon 9 (by kernel_rfl)))
       refine value_ (w1 := w') (v := .bool true) (by rfl) rfl ?_ ?_
       ·
        go_simp
        (try simp only [i64_w])
        try rfl
       refine hK.out _ _ ⟨v304, v308, v317, (by rw [ha.out]; exact putSel_upk 11 hb_ rfl rfl rfl), Q_BK300, Q_BK301, Q_BK302, Q_HB, Q_HO305, Q_HO309, fun h0_ => absurd ((hoff 16 (by kernel_rfl)).symm.trans h0_) (by decide)⟩
      refine steps_cons ?_ ?_
      ·
       rintro b a w' ⟨v304, v308, v317, ha, Q_BK300, Q_BK301, Q_BK302, Q_HB, Q_HO305, Q_HO309, Q_HO318⟩ hb_ hon hoff
       refine ⟨_, rfl, fun K hK => ?_⟩
       have e21 : a.tmps[21]? = some (.bool true) := by rw [ha]; exact putSel_on (e := (11, 21, .bool true)) 11 rfl rfl (hon 11 (by kernel_rfl)) rfl
       replace ha := Aside0.mk ha
       have BK300 := Aside0.mk Q_BK300
       have BK301 := Aside0.mk Q_BK301
       have BK302 := Aside0.mk Q_BK302
       have HB := Aside0.mk Q_HB
       have HO305 := Aside0.mk (Q_HO305 (hon 3 (by kernel_rfl)))
       have HO309 := Aside0.mk (Q_HO309 (hon 9 (by kernel_rfl)))
       refine value_ (w1 := w') (v := .bool true) (by rfl) rfl ?_ ?_
       ·
        go_simp
        (try simp only [i64_w])
        try rfl
       refine hK.out _ _ ⟨v304, v308, v317, (by rw [ha.out]; exact putSel_upk 12 hb_ rfl rfl rfl), Q_BK300, Q_BK301, Q_BK302, Q_HB, Q_HO305, Q_HO309, fun h0_ => absurd ((hoff 16 (by kernel_rfl)).symm.trans h0_) (by decide)⟩
      refine steps_cons ?_ ?_
      ·
       rintro b a w' ⟨v304, v308, v317, ha, Q_BK300, Q_BK301, Q_BK302, Q_HB, Q_HO305, Q_HO309, Q_HO318⟩ hb_ hon hoff
       refine ⟨_, rfl, fun K hK => ?_⟩
       have e22 : a.tmps[22]? = some (.bool true) := by rw [ha]; exact putSel_on (e := (12, 22, .bool true)) 12 rfl rfl (hon 12 (by kernel_rfl)) rfl
       replace ha := Aside0.mk ha
       have BK300 := Aside0.mk Q_BK300
       have BK301 := Aside0.mk Q_BK301
       have BK302 := Aside0.mk Q_BK302
       have HB := Aside0.mk Q_HB
       have HO305 := Aside0.mk (Q_HO305 (hon 3 (by kernel_rfl)))
       have HO309 := Aside0.mk (Q_HO309 (hon 9 (by kernel_rfl)))
       refine goes_ Try.func42 (by kernel_rfl) rfl #[.int .i64 2, .int .i64 10] (by first | rfl | (simp [Region.wanted, yielded, e22]; done)) rfl rfl (by first | (simp only [List.map_toArray, List.map_cons, List.map_nil, Act.eval, Array.getD_eq_getD_getElem?, Option.getD_some, e22]; done) | (simp only [List.map_toArray, List.map_cons, List.map_nil, Act.eval, Array.getD_eq_getD_getElem?, Option.getD_some, e22]; rfl)) ?_
       with_reducible refine (slotmeshlaw17_action.calls 2 10 t311 t312 t313 t314 t315 _ A8.out).mono ?_
       rintro e w37 ⟨rfl, hb⟩
       refine ⟨_, rfl, ?_⟩
       have n0_ := Aside0.mk (Kd.R_below (by (with_reducible repeat (first | apply Kd.R_alloc | apply Kd.R_drewN | apply Kd.R_drew)); exact HO305.out) hb)
       have n1_ := Aside0.mk (Kd.R_below (by (with_reducible repeat (first | apply Kd.R_alloc | apply Kd.R_drewN | apply Kd.R_drew)); exact HO309.out) hb)
       have n2_ := Aside0.mk (blk_below (g := gb300) (o := .cells #[.int .i64 t285, .int .i64 t286, .int .i64 t287, .int .i64 t288, .int .i64 t289] 50 (0, 0)) (by (with_reducible repeat (first | refine blk_drewN ?_ _ | refine blk_drew ?_ | refine blk_alloc ?_ _)); exact BK300.out) hb)
       have n3_ := Aside0.mk (blk_below (g := gb301) (o := .cells #[.int .i64 t290, .int .i64 t291, .int .i64 t292, .int .i64 t293, .int .i64 t294] 50 (0, 0)) (by (with_reducible repeat (first | refine blk_drewN ?_ _ | refine blk_drew ?_ | refine blk_alloc ?_ _)); exact BK301.out) hb)
       have n4_ := Aside0.mk (blk_below (g := gb302) (o := .cells #[.int .i64 t295, .int .i64 t296, .int .i64 t297, .int .i64 t298, .int .i64 t299] 50 (0, 0)) (by (with_reducible repeat (first | refine blk_drewN ?_ _ | refine blk_drew ?_ | refine blk_alloc ?_ _)); exact BK302.out) hb)
       have n5_ := Aside0.mk (below_step (by repeat (first | (with_reducible first | exact HB.out | apply below_alloc | apply pw_below_drewN | apply below_drew1 | refine below_set ?_ GE300.out | refine below_set ?_ GE301.out | refine below_set ?_ GE302.out) | exact HB.out)) hb)
       have z_HO318 := fun (h0_ : b 16 = true) => (show Kd.R (Kd.int .i64) 3 w37 w.heap.size (fun _ => True) v317 y316 from by first | exact (Kd.R_below (by (with_reducible repeat (first | apply Kd.R_alloc | apply Kd.R_drewN | apply Kd.R_drew)); exact (Q_HO318 h0_)) hb) | exact Kd.R_mono (Kd.R_below (by (with_reducible repeat (first | apply Kd.R_alloc | apply Kd.R_drewN | apply Kd.R_drew)); exact (Q_HO318 h0_)) hb) (fun _ h_ => by first | trivial | exact h_ | exact h_.1))
       clear HO305
       clear HO309
       clear BK300
       clear BK301
       clear BK302
       clear HB
       have HO305 := n0_
       have HO309 := n1_
       have BK300 := n2_
       have BK301 := n3_
       have BK302 := n4_
       have HB := n5_
       clear n0_ n1_ n2_ n3_ n4_ n5_
       (try clear hb)
       (try clear hb2)
       (try clear hk)
       (try clear hi)
       refine hK.out _ _ ⟨v304, v308, v317, (by rw [ha.out]; exact putSel_upk 13 hb_ rfl rfl rfl), (by (with_reducible repeat (first | refine blk_drewN ?_ _ | refine blk_drew ?_ | refine blk_alloc ?_ _)); exact BK300.out), (by (with_reducible repeat (first | refine blk_drewN ?_ _ | refine blk_drew ?_ | refine blk_alloc ?_ _)); exact BK301.out), (by (with_reducible repeat (first | refine blk_drewN ?_ _ | refine blk_drew ?_ | refine blk_alloc ?_ _)); exact BK302.out), (by repeat (first | (with_reducible first | exact HB.out | apply below_alloc | apply pw_below_drewN | apply below_drew1 | refine below_set ?_ GE300.out | refine below_set ?_ GE301.out | refine below_set ?_ GE302.out) | exact HB.out)), fun _ => (by (with_reducible repeat (first | apply Kd.R_alloc | apply Kd.R_drewN | apply Kd.R_drew)); first | exact HO305.out | exact Kd.R_mono HO305.out (fun _ _ => trivial)), fun _ => (by (with_reducible repeat (first | apply Kd.R_alloc | apply Kd.R_drewN | apply Kd.R_drew)); exact HO309.out), z_HO318⟩
      refine steps_cons ?_ ?_
      ·
       rintro b a w' ⟨v304, v308, v317, ha, Q_BK300, Q_BK301, Q_BK302, Q_HB, Q_HO305, Q_HO309, Q_HO318⟩ hb_ hon hoff
       refine ⟨_, rfl, fun K hK => ?_⟩
       have e2 : a.tmps[2]? = some (.pointer (some ⟨gb301, 0, none⟩)) := by rw [ha]; exact (putSel_off rfl).trans rfl
       have e22 : a.tmps[22]? = some (.bool true) := by rw [ha]; exact putSel_on (e := (12, 22, .bool true)) 12 rfl rfl (hon 12 (by kernel_rfl)) rfl
       replace ha := Aside0.mk ha
       have BK300 := Aside0.mk Q_BK300
       have BK301 := Aside0.mk Q_BK301
       have BK302 := Aside0.mk Q_BK302
       have HB := Aside0.mk Q_HB
       have HO305 := Aside0.mk (Q_HO305 (hon 3 (by kernel_rfl)))
       have HO309 := Aside0.mk (Q_HO309 (hon 9 (by kernel_rfl)))
       have hc0_ : w'.cell? ⟨gb301, 0, none⟩ = some (.int .i64 t290) := (blk_cell BK301.out 0).trans rfl
       have hc1_ : w'.cell? ⟨gb301, 1, none⟩ = some (.int .i64 t291) := (blk_cell BK301.out 1).trans rfl
       have hc2_ : w'.cell? ⟨gb301, 2, none⟩ = some (.int .i64 t292) := (blk_cell BK301.out 2).trans rfl
       have hc3_ : w'.cell? ⟨gb301, 3, none⟩ = some (.int .i64 t293) := (blk_cell BK301.out 3).trans rfl
       have hc4_ : w'.cell? ⟨gb301, 4, none⟩ = some (.int .i64 t294) := (blk_cell BK301.out 4).trans rfl
       refine value_ (w1 := w') (v := .agg #[.int .i64 t290, .int .i64 t291, .int .i64 t292, .int .i64 t293, .int .i64 t294]) (wanted_on rfl rfl rfl (e22.trans (by first | rfl | (simp [*]; done)))) rfl ?_ ?_
       ·
        go_simp
        (try simp only [i64_w])
        try rfl
       refine hK.out _ _ ⟨v304, v308, v317, (by rw [ha.out]; exact putSel_upk 14 hb_ rfl rfl rfl), Q_BK300, Q_BK301, Q_BK302, Q_HB, Q_HO305, Q_HO309, Q_HO318⟩
      refine steps_cons ?_ ?_
      ·
       rintro b a w' ⟨v304, v308, v317, ha, Q_BK300, Q_BK301, Q_BK302, Q_HB, Q_HO305, Q_HO309, Q_HO318⟩ hb_ hon hoff
       refine ⟨_, rfl, fun K hK => ?_⟩
       have e3 : a.tmps[3]? = some (.pointer (some ⟨gb302, 0, none⟩)) := by rw [ha]; exact (putSel_off rfl).trans rfl
       have e22 : a.tmps[22]? = some (.bool true) := by rw [ha]; exact putSel_on (e := (12, 22, .bool true)) 12 rfl rfl (hon 12 (by kernel_rfl)) rfl
       replace ha := Aside0.mk ha
       have BK300 := Aside0.mk Q_BK300
       have BK301 := Aside0.mk Q_BK301
       have BK302 := Aside0.mk Q_BK302
       have HB := Aside0.mk Q_HB
       have HO305 := Aside0.mk (Q_HO305 (hon 3 (by kernel_rfl)))
       have HO309 := Aside0.mk (Q_HO309 (hon 9 (by kernel_rfl)))
       have hc0_ : w'.cell? ⟨gb302, 0, none⟩ = some (.int .i64 t295) := (blk_cell BK302.out 0).trans rfl
       have hc1_ : w'.cell? ⟨gb302, 1, none⟩ = some (.int .i64 t296) := (blk_cell BK302.out 1).trans rfl
       have hc2_ : w'.cell? ⟨gb302, 2, none⟩ = some (.int .i64 t297) := (blk_cell BK302.out 2).trans rfl
       have hc3_ : w'.cell? ⟨gb302, 3, none⟩ = some (.int .i64 t298) := (blk_cell BK302.out 3).trans rfl
       have hc4_ : w'.cell? ⟨gb302, 4, none⟩ = some (.int .i64 t299) := (blk_cell BK302.out 4).trans rfl
       refine value_ (w1 := w') (v := .agg #[.int .i64 t295, .int .i64 t296, .int .i64 t297, .int .i64 t298, .int .i64 t299]) (wanted_on rfl rfl rfl (e22.trans (by first | rfl | (simp [*]; done)))) rfl ?_ ?_
       ·
        go_simp
        (try simp only [i64_w])
        try rfl
       refine hK.out _ _ ⟨v304, v308, v317, (by rw [ha.out]; exact putSel_upk 15 hb_ rfl rfl rfl), Q_BK300, Q_BK301, Q_BK302, Q_HB, Q_HO305, Q_HO309, Q_HO318⟩
      refine steps_cons ?_ ?_
      ·
       rintro b a w' ⟨v304, v308, v317, ha, Q_BK300, Q_BK301, Q_BK302, Q_HB, Q_HO305, Q_HO309, Q_HO318⟩ hb_ hon hoff
       refine ⟨_, rfl, fun K hK => ?_⟩
       have e22 : a.tmps[22]? = some (.bool true) := by rw [ha]; exact putSel_on (e := (12, 22, .bool true)) 12 rfl rfl (hon 12 (by kernel_rfl)) rfl
       replace ha := Aside0.mk ha
       have BK300 := Aside0.mk Q_BK300
       have BK301 := Aside0.mk Q_BK301
       have BK302 := Aside0.mk Q_BK302
       have HB := Aside0.mk Q_HB
       have HO305 := Aside0.mk (Q_HO305 (hon 3 (by kernel_rfl)))
       have HO309 := Aside0.mk (Q_HO309 (hon 9 (by kernel_rfl)))
       refine Kd.R_lit_step (Kd.int .i64) _ 3 ?hg (N := 26) ?hd (xs := ([(-1), (-1), (-1)] : List Int)) (inner := [.int .i64 (-1), .int .i64 (-1), .int .i64 (-1)]) (ok := fun _ => True) (okp := fun _ => True) ?hr ?hp (fun _ hk => hk) trivial (Below.refl _ _) (Nat.le_refl _) (by simp) ?_; (case hd => rfl); (case hg => first | rfl | (simp [Region.wanted, yielded, e22]; done)); (case hr => first | (go_simp; done) | (go_simp; rfl)); (case hp => exact (Reps.one (show Kd.M (Kd.int .i64) _ _ _ (-1) [.int .i64 (-1)] from rfl) (Reps.one (show Kd.M (Kd.int .i64) _ _ _ (-1) [.int .i64 (-1)] from rfl) (Reps.one (show Kd.M (Kd.int .i64) _ _ _ (-1) [.int .i64 (-1)] from rfl) (Reps.none _ _)))))
       intro v317 w37 ho38 hb hg_ hnew_
       clear hg_ hnew_
       (first | rw [← Ny316.out] at ho38 | (simp only [Int.reduceToNat] at ho38; rw [← Ny316.out] at ho38))
       have n0_ := Aside0.mk (Kd.R_elder' (by (with_reducible repeat (first | apply Kd.R_alloc | apply Kd.R_drewN | apply Kd.R_drew)); exact HO305.out) (Kd.R_base ho38) hb)
       have n1_ := Aside0.mk (Kd.R_elder' (by (with_reducible repeat (first | apply Kd.R_alloc | apply Kd.R_drewN | apply Kd.R_drew)); exact HO309.out) (Kd.R_base ho38) hb)
       have n2_ := Aside0.mk (Kd.R_lower (Kd.R_new' (Kd.R_new' ho38 (Kd.R_lt (by (with_reducible repeat (first | apply Kd.R_alloc | apply Kd.R_drewN | apply Kd.R_drew)); exact HO305.out))) (Kd.R_lt (by (with_reducible repeat (first | apply Kd.R_alloc | apply Kd.R_drewN | apply Kd.R_drew)); exact HO309.out))) (below_size (by repeat (first | (with_reducible first | exact HB.out | apply below_alloc | apply pw_below_drewN | apply below_drew1 | refine below_set ?_ GE300.out | refine below_set ?_ GE301.out | refine below_set ?_ GE302.out) | exact HB.out))))
       have n3_ := Aside0.mk (blk_below (g := gb300) (o := .cells #[.int .i64 t285, .int .i64 t286, .int .i64 t287, .int .i64 t288, .int .i64 t289] 50 (0, 0)) (by (with_reducible repeat (first | refine blk_drewN ?_ _ | refine blk_drew ?_ | refine blk_alloc ?_ _)); exact BK300.out) hb)
       have n4_ := Aside0.mk (blk_below (g := gb301) (o := .cells #[.int .i64 t290, .int .i64 t291, .int .i64 t292, .int .i64 t293, .int .i64 t294] 50 (0, 0)) (by (with_reducible repeat (first | refine blk_drewN ?_ _ | refine blk_drew ?_ | refine blk_alloc ?_ _)); exact BK301.out) hb)
       have n5_ := Aside0.mk (blk_below (g := gb302) (o := .cells #[.int .i64 t295, .int .i64 t296, .int .i64 t297, .int .i64 t298, .int .i64 t299] 50 (0, 0)) (by (with_reducible repeat (first | refine blk_drewN ?_ _ | refine blk_drew ?_ | refine blk_alloc ?_ _)); exact BK302.out) hb)
       have n6_ := Aside0.mk (below_step (by repeat (first | (with_reducible first | exact HB.out | apply below_alloc | apply pw_below_drewN | apply below_drew1 | refine below_set ?_ GE300.out | refine below_set ?_ GE301.out | refine below_set ?_ GE302.out) | exact HB.out)) hb)
       clear HO305
       clear HO309
       clear BK300
       clear BK301
       clear BK302
       clear HB
       have HO305 := n0_
       have HO309 := n1_
       have HO318 := n2_
       have BK300 := n3_
       have BK301 := n4_
       have BK302 := n5_
       have HB := n6_
       clear n0_ n1_ n2_ n3_ n4_ n5_ n6_
       clear hb ho38
       refine hK.out _ _ ⟨v304, v308, v317, (by rw [ha.out]; exact putSel_upk 16 hb_ rfl rfl rfl), (by (with_reducible repeat (first | refine blk_drewN ?_ _ | refine blk_drew ?_ | refine blk_alloc ?_ _)); exact BK300.out), (by (with_reducible repeat (first | refine blk_drewN ?_ _ | refine blk_drew ?_ | refine blk_alloc ?_ _)); exact BK301.out), (by (with_reducible repeat (first | refine blk_drewN ?_ _ | refine blk_drew ?_ | refine blk_alloc ?_ _)); exact BK302.out), (by repeat (first | (with_reducible first | exact HB.out | apply below_alloc | apply pw_below_drewN | apply below_drew1 | refine below_set ?_ GE300.out | refine below_set ?_ GE301.out | refine below_set ?_ GE302.out) | exact HB.out)), fun _ => (by (with_reducible repeat (first | apply Kd.R_alloc | apply Kd.R_drewN | apply Kd.R_drew)); first | exact HO305.out | exact Kd.R_mono HO305.out (fun _ _ => trivial)), fun _ => (by (with_reducible repeat (first | apply Kd.R_alloc | apply Kd.R_drewN | apply Kd.R_drew)); first | exact HO309.out | exact Kd.R_mono HO309.out (fun _ _ => trivial)), fun _ => (by (with_reducible repeat (first | apply Kd.R_alloc | apply Kd.R_drewN | apply Kd.R_drew)); first | exact Kd.R_mono HO318.out (fun _ hk => ⟨hk.1.2, hk.2⟩) | exact Kd.R_mono HO318.out (fun _ _ => trivial))⟩
      refine steps_cons ?_ ?_
      ·
       rintro b a w' ⟨v304, v308, v317, ha, Q_BK300, Q_BK301, Q_BK302, Q_HB, Q_HO305, Q_HO309, Q_HO318⟩ hb_ hon hoff
       refine ⟨_, rfl, fun K hK => ?_⟩
       have e23 : a.tmps[23]? = some (.agg #[.int .i64 t311, .int .i64 t312, .int .i64 t313, .int .i64 t314, .int .i64 t315]) := by rw [ha]; exact putSel_on (e := (13, 23, .agg #[.int .i64 t311, .int .i64 t312, .int .i64 t313, .int .i64 t314, .int .i64 t315])) 13 rfl rfl (hon 13 (by kernel_rfl)) rfl
       have e24 : a.tmps[24]? = some (.agg #[.int .i64 t290, .int .i64 t291, .int .i64 t292, .int .i64 t293, .int .i64 t294]) := by rw [ha]; exact putSel_on (e := (14, 24, .agg #[.int .i64 t290, .int .i64 t291, .int .i64 t292, .int .i64 t293, .int .i64 t294])) 14 rfl rfl (hon 14 (by kernel_rfl)) rfl
       have e25 : a.tmps[25]? = some (.agg #[.int .i64 t295, .int .i64 t296, .int .i64 t297, .int .i64 t298, .int .i64 t299]) := by rw [ha]; exact putSel_on (e := (15, 25, .agg #[.int .i64 t295, .int .i64 t296, .int .i64 t297, .int .i64 t298, .int .i64 t299])) 15 rfl rfl (hon 15 (by kernel_rfl)) rfl
       have e26 : a.tmps[26]? = some (v317) := by rw [ha]; exact putSel_on (e := (16, 26, v317)) 16 rfl rfl (hon 16 (by kernel_rfl)) rfl
       have e22 : a.tmps[22]? = some (.bool true) := by rw [ha]; exact putSel_on (e := (12, 22, .bool true)) 12 rfl rfl (hon 12 (by kernel_rfl)) rfl
       replace ha := Aside0.mk ha
       have BK300 := Aside0.mk Q_BK300
       have BK301 := Aside0.mk Q_BK301
       have BK302 := Aside0.mk Q_BK302
       have HB := Aside0.mk Q_HB
       have HO305 := Aside0.mk (Q_HO305 (hon 3 (by kernel_rfl)))
       have HO309 := Aside0.mk (Q_HO309 (hon 9 (by kernel_rfl)))
       have HO318 := Aside0.mk (Q_HO318 (hon 16 (by kernel_rfl)))
       obtain ⟨Ao40, co40, eo40⟩ := Kd.R_slice HO318.out
       (first | subst eo40 | (injection eo40 with f1_ f2_ f3_; have f4_ := f1_.symm; have f5_ := f3_.symm; clear f1_ f2_ f3_; subst f4_; subst f5_))
       refine goes_ Try.func43 (by kernel_rfl) rfl #[.agg #[.int .i64 t311, .int .i64 t312, .int .i64 t313, .int .i64 t314, .int .i64 t315], .agg #[.int .i64 t290, .int .i64 t291, .int .i64 t292, .int .i64 t293, .int .i64 t294], .agg #[.int .i64 t295, .int .i64 t296, .int .i64 t297, .int .i64 t298, .int .i64 t299], .slice none 0 0, .slice Ao40 y316.length co40] (by first | rfl | (simp [Region.wanted, yielded, e22]; done)) rfl rfl (by first | (simp only [List.map_toArray, List.map_cons, List.map_nil, Act.eval, Array.getD_eq_getD_getElem?, Option.getD_some, e23, e24, e25, e26, e22]; done) | (simp only [List.map_toArray, List.map_cons, List.map_nil, Act.eval, Array.getD_eq_getD_getElem?, Option.getD_some, e23, e24, e25, e26, e22]; rfl)) ?_
       refine (slotmeshlaw17_gives.calls k t311 t312 t313 t314 t315 t290 t291 t292 t293 t294 t295 t296 t297 t298 t299 _ _ ([] : List (S42)) _ _ y316 true _ ?side1 ?side2 ?side3 ?side4 A9.out).mono ?_
       (case side1 => exact Kd.C_nil _ _)
       (case side2 => exact Nat.le_refl _)
       (case side3 => repeat (first | exact (Kd.R_reads' HO318.out).2.2 | (with_reducible refine Kd.C_alloc ?_ _) | (with_reducible refine Kd.C_drewN ?_ _) | (with_reducible refine Kd.C_drew ?_)))
       (case side4 => exact (Kd.R_reads' HO318.out).2.1)
       rintro e w41 ⟨rfl, hb⟩
       refine ⟨_, rfl, ?_⟩
       have n0_ := Aside0.mk (Kd.R_below (by (with_reducible repeat (first | apply Kd.R_alloc | apply Kd.R_drewN | apply Kd.R_drew)); exact HO305.out) hb)
       have n1_ := Aside0.mk (Kd.R_below (by (with_reducible repeat (first | apply Kd.R_alloc | apply Kd.R_drewN | apply Kd.R_drew)); exact HO309.out) hb)
       have n2_ := Aside0.mk (Kd.R_below (by (with_reducible repeat (first | apply Kd.R_alloc | apply Kd.R_drewN | apply Kd.R_drew)); exact HO318.out) hb)
       have n3_ := Aside0.mk (blk_below (g := gb300) (o := .cells #[.int .i64 t285, .int .i64 t286, .int .i64 t287, .int .i64 t288, .int .i64 t289] 50 (0, 0)) (by (with_reducible repeat (first | refine blk_drewN ?_ _ | refine blk_drew ?_ | refine blk_alloc ?_ _)); exact BK300.out) hb)
       have n4_ := Aside0.mk (blk_below (g := gb301) (o := .cells #[.int .i64 t290, .int .i64 t291, .int .i64 t292, .int .i64 t293, .int .i64 t294] 50 (0, 0)) (by (with_reducible repeat (first | refine blk_drewN ?_ _ | refine blk_drew ?_ | refine blk_alloc ?_ _)); exact BK301.out) hb)
       have n5_ := Aside0.mk (blk_below (g := gb302) (o := .cells #[.int .i64 t295, .int .i64 t296, .int .i64 t297, .int .i64 t298, .int .i64 t299] 50 (0, 0)) (by (with_reducible repeat (first | refine blk_drewN ?_ _ | refine blk_drew ?_ | refine blk_alloc ?_ _)); exact BK302.out) hb)
       have n6_ := Aside0.mk (below_step (by repeat (first | (with_reducible first | exact HB.out | apply below_alloc | apply pw_below_drewN | apply below_drew1 | refine below_set ?_ GE300.out | refine below_set ?_ GE301.out | refine below_set ?_ GE302.out) | exact HB.out)) hb)
       clear HO305
       clear HO309
       clear HO318
       clear BK300
       clear BK301
       clear BK302
       clear HB
       have HO305 := n0_
       have HO309 := n1_
       have HO318 := n2_
       have BK300 := n3_
       have BK301 := n4_
       have BK302 := n5_
       have HB := n6_
       clear n0_ n1_ n2_ n3_ n4_ n5_ n6_
       (try clear hb)
       (try clear hb2)
       (try clear hk)
       (try clear hi)
       refine hK.out _ _ ⟨v304, v308, .slice Ao40 y316.length co40, (by rw [ha.out]; exact putSel_upk 17 hb_ rfl rfl rfl), (by (with_reducible repeat (first | refine blk_drewN ?_ _ | refine blk_drew ?_ | refine blk_alloc ?_ _)); exact BK300.out), (by (with_reducible repeat (first | refine blk_drewN ?_ _ | refine blk_drew ?_ | refine blk_alloc ?_ _)); exact BK301.out), (by (with_reducible repeat (first | refine blk_drewN ?_ _ | refine blk_drew ?_ | refine blk_alloc ?_ _)); exact BK302.out), (by repeat (first | (with_reducible first | exact HB.out | apply below_alloc | apply pw_below_drewN | apply below_drew1 | refine below_set ?_ GE300.out | refine below_set ?_ GE301.out | refine below_set ?_ GE302.out) | exact HB.out)), fun _ => (by (with_reducible repeat (first | apply Kd.R_alloc | apply Kd.R_drewN | apply Kd.R_drew)); first | exact HO305.out | exact Kd.R_mono HO305.out (fun _ _ => trivial)), fun _ => (by (with_reducible repeat (first | apply Kd.R_alloc | apply Kd.R_drewN | apply Kd.R_drew)); first | exact HO309.out | exact Kd.R_mono HO309.out (fun _ _ => trivial)), fun _ => (by (with_reducible repeat (first | apply Kd.R_alloc | apply Kd.R_drewN | apply Kd.R_drew)); exact HO318.out)⟩
      refine steps_cons ?_ ?_
      ·
       rintro b a w' ⟨v304, v308, v317, ha, Q_BK300, Q_BK301, Q_BK302, Q_HB, Q_HO305, Q_HO309, Q_HO318⟩ hb_ hon hoff
       refine ⟨_, rfl, fun K hK => ?_⟩
       have e22 : a.tmps[22]? = some (.bool true) := by rw [ha]; exact putSel_on (e := (12, 22, .bool true)) 12 rfl rfl (hon 12 (by kernel_rfl)) rfl
       have e27 : a.tmps[27]? = some (.bool true) := by rw [ha]; exact putSel_on (e := (17, 27, .bool true)) 17 rfl rfl (hon 17 (by kernel_rfl)) rfl
       replace ha := Aside0.mk ha
       have BK300 := Aside0.mk Q_BK300
       have BK301 := Aside0.mk Q_BK301
       have BK302 := Aside0.mk Q_BK302
       have HB := Aside0.mk Q_HB
       have HO305 := Aside0.mk (Q_HO305 (hon 3 (by kernel_rfl)))
       have HO309 := Aside0.mk (Q_HO309 (hon 9 (by kernel_rfl)))
       have HO318 := Aside0.mk (Q_HO318 (hon 16 (by kernel_rfl)))
       refine value_ (w1 := w') (v := .bool true) (by rfl) rfl ?_ ?_
       ·
        go_simp
        (try simp only [i64_w])
        try rfl
       refine hK.out _ _ ⟨v304, v308, v317, (by rw [ha.out]; exact putSel_upk 18 hb_ rfl rfl rfl), Q_BK300, Q_BK301, Q_BK302, Q_HB, Q_HO305, Q_HO309, Q_HO318⟩
      refine steps_cons ?_ ?_
      ·
       rintro b a w' ⟨v304, v308, v317, ha, Q_BK300, Q_BK301, Q_BK302, Q_HB, Q_HO305, Q_HO309, Q_HO318⟩ hb_ hon hoff
       refine ⟨_, rfl, fun K hK => ?_⟩
       have e28 : a.tmps[28]? = some (.bool true) := by rw [ha]; exact putSel_on (e := (18, 28, .bool true)) 18 rfl rfl (hon 18 (by kernel_rfl)) rfl
       replace ha := Aside0.mk ha
       have BK300 := Aside0.mk Q_BK300
       have BK301 := Aside0.mk Q_BK301
       have BK302 := Aside0.mk Q_BK302
       have HB := Aside0.mk Q_HB
       have HO305 := Aside0.mk (Q_HO305 (hon 3 (by kernel_rfl)))
       have HO309 := Aside0.mk (Q_HO309 (hon 9 (by kernel_rfl)))
       have HO318 := Aside0.mk (Q_HO318 (hon 16 (by kernel_rfl)))
       refine value_ (w1 := w') (v := .bool true) (by rfl) rfl ?_ ?_
       ·
        go_simp
        (try simp only [i64_w])
        try rfl
       refine hK.out _ _ ⟨v304, v308, v317, (by rw [ha.out]; exact putSel_upk 19 hb_ rfl rfl rfl), Q_BK300, Q_BK301, Q_BK302, Q_HB, Q_HO305, Q_HO309, Q_HO318⟩
      exact steps_nil
     rintro b a w41 hall ⟨v304, v308, v317, ha, Q_BK300, Q_BK301, Q_BK302, Q_HB, Q_HO305, Q_HO309, Q_HO318⟩
     clear BK300 BK301 BK302 HB
     have hb0_ := hall 0 (by kernel_rfl)
     have hb1_ := hall 1 (by kernel_rfl)
     have hb2_ := hall 2 (by kernel_rfl)
     have hb3_ := hall 3 (by kernel_rfl)
     have hb4_ := hall 4 (by kernel_rfl)
     have hb5_ := hall 5 (by kernel_rfl)
     have hb6_ := hall 6 (by kernel_rfl)
     have hb7_ := hall 7 (by kernel_rfl)
     have hb8_ := hall 8 (by kernel_rfl)
     have hb9_ := hall 9 (by kernel_rfl)
     have hb10_ := hall 10 (by kernel_rfl)
     have hb11_ := hall 11 (by kernel_rfl)
     have hb12_ := hall 12 (by kernel_rfl)
     have hb13_ := hall 13 (by kernel_rfl)
     have hb14_ := hall 14 (by kernel_rfl)
     have hb15_ := hall 15 (by kernel_rfl)
     have hb16_ := hall 16 (by kernel_rfl)
     have hb17_ := hall 17 (by kernel_rfl)
     have hb18_ := hall 18 (by kernel_rfl)
     have hb19_ := hall 19 (by kernel_rfl)
     subst ha
     simp only [putSel, hb0_, hb1_, hb2_, hb3_, hb4_, hb5_, hb6_, hb7_, hb8_, hb9_, hb10_, hb11_, hb12_, hb13_, hb14_, hb15_, hb16_, hb17_, hb18_, hb19_, if_true, Act.put, List.setIfInBounds_toArray, List.set_cons_zero, List.set_cons_succ]
     have BK300 := Aside0.mk Q_BK300
     clear Q_BK300
     have BK301 := Aside0.mk Q_BK301
     clear Q_BK301
     have BK302 := Aside0.mk Q_BK302
     clear Q_BK302
     have HB := Aside0.mk Q_HB
     clear Q_HB
     have HO305 := Aside0.mk (Q_HO305 hb3_)
     clear Q_HO305
     have HO309 := Aside0.mk (Q_HO309 hb9_)
     clear Q_HO309
     have HO318 := Aside0.mk (Q_HO318 hb16_)
     clear Q_HO318
     clear hall hb0_ hb1_ hb2_ hb3_ hb4_ hb5_ hb6_ hb7_ hb8_ hb9_ hb10_ hb11_ hb12_ hb13_ hb14_ hb15_ hb16_ hb17_ hb18_ hb19_
     have hcz42_0 : w41.cell? ⟨gb300, 0, none⟩ = some (.int .i64 t285) := (blk_cell BK300.out 0).trans rfl
     have hcz42_1 : w41.cell? ⟨gb300, 1, none⟩ = some (.int .i64 t286) := (blk_cell BK300.out 1).trans rfl
     have hcz42_2 : w41.cell? ⟨gb300, 2, none⟩ = some (.int .i64 t287) := (blk_cell BK300.out 2).trans rfl
     have hcz42_3 : w41.cell? ⟨gb300, 3, none⟩ = some (.int .i64 t288) := (blk_cell BK300.out 3).trans rfl
     have hcz42_4 : w41.cell? ⟨gb300, 4, none⟩ = some (.int .i64 t289) := (blk_cell BK300.out 4).trans rfl
     have hfz42_0 := blk_frozen BK300.out 0
     have hfz42_1 := blk_frozen BK300.out 1
     have hfz42_2 := blk_frozen BK300.out 2
     have hfz42_3 := blk_frozen BK300.out 3
     have hfz42_4 := blk_frozen BK300.out 4
     have hcz43_0 : w41.cell? ⟨gb301, 0, none⟩ = some (.int .i64 t290) := (blk_cell BK301.out 0).trans rfl
     have hcz43_1 : w41.cell? ⟨gb301, 1, none⟩ = some (.int .i64 t291) := (blk_cell BK301.out 1).trans rfl
     have hcz43_2 : w41.cell? ⟨gb301, 2, none⟩ = some (.int .i64 t292) := (blk_cell BK301.out 2).trans rfl
     have hcz43_3 : w41.cell? ⟨gb301, 3, none⟩ = some (.int .i64 t293) := (blk_cell BK301.out 3).trans rfl
     have hcz43_4 : w41.cell? ⟨gb301, 4, none⟩ = some (.int .i64 t294) := (blk_cell BK301.out 4).trans rfl
     have hfz43_0 := blk_frozen BK301.out 0
     have hfz43_1 := blk_frozen BK301.out 1
     have hfz43_2 := blk_frozen BK301.out 2
     have hfz43_3 := blk_frozen BK301.out 3
     have hfz43_4 := blk_frozen BK301.out 4
     try go_wp2_with (first | ((with_reducible refine gate_dst (N := 36) rfl ?_); (try (refine gate_guard (by rfl) ?_; dsimp only)); refine Kd.R_lit k42 _ 42 ?hg (N := 36) ?hd (xs := ([(⟨(⟨6, 8⟩ : S25), 5, 2, 8⟩ : S42)] : List (S42))) (inner := [.int .i64 6, .int .i64 8, .int .i64 5, .int .i64 2, .int .i64 8]) (ok := fun _ => True) (okp := fun _ => True) ?hr ?hp (fun _ hk => hk) trivial (Below.refl _ _) (Nat.le_refl _) (by simp) ?_; (case hd => rfl); (case hg => rfl); (case hr => first | (go_simp; done) | (go_simp; rfl)); (case hp => exact (Reps.c5 (show Kd.M k42 _ _ _ (⟨(⟨6, 8⟩ : S25), 5, 2, 8⟩ : S42) [.int .i64 6, .int .i64 8, .int .i64 5, .int .i64 2, .int .i64 8] from (k42_mkM _ _ _ (⟨(⟨6, 8⟩ : S25), 5, 2, 8⟩ : S42) )) (Reps.none _ _))); intro v321 w44 ho45 hb hg_ hnew_; clear hg_ hnew_; (first | rw [← Ny320.out] at ho45 | (simp only [Int.reduceToNat] at ho45; rw [← Ny320.out] at ho45)); have n0_ := Aside0.mk (Kd.R_below (by (with_reducible repeat (first | apply Kd.R_alloc | apply Kd.R_drewN | apply Kd.R_drew)); exact HO305.out) hb); have n1_ := Aside0.mk (Kd.R_below (by (with_reducible repeat (first | apply Kd.R_alloc | apply Kd.R_drewN | apply Kd.R_drew)); exact HO309.out) hb); have n2_ := Aside0.mk (Kd.R_below (by (with_reducible repeat (first | apply Kd.R_alloc | apply Kd.R_drewN | apply Kd.R_drew)); exact HO318.out) hb); have n3_ := Aside0.mk (Kd.R_lower ho45 (below_size (by repeat (first | (with_reducible first | exact HB.out | apply below_alloc | apply pw_below_drewN | apply below_drew1 | refine below_set ?_ GE300.out | refine below_set ?_ GE301.out | refine below_set ?_ GE302.out) | exact HB.out)))); have n4_ := Aside0.mk (blk_below (g := gb300) (o := .cells #[.int .i64 t285, .int .i64 t286, .int .i64 t287, .int .i64 t288, .int .i64 t289] 50 (0, 0)) (by (with_reducible repeat (first | refine blk_drewN ?_ _ | refine blk_drew ?_ | refine blk_alloc ?_ _)); exact BK300.out) hb); have n5_ := Aside0.mk (blk_below (g := gb301) (o := .cells #[.int .i64 t290, .int .i64 t291, .int .i64 t292, .int .i64 t293, .int .i64 t294] 50 (0, 0)) (by (with_reducible repeat (first | refine blk_drewN ?_ _ | refine blk_drew ?_ | refine blk_alloc ?_ _)); exact BK301.out) hb); have n6_ := Aside0.mk (blk_below (g := gb302) (o := .cells #[.int .i64 t295, .int .i64 t296, .int .i64 t297, .int .i64 t298, .int .i64 t299] 50 (0, 0)) (by (with_reducible repeat (first | refine blk_drewN ?_ _ | refine blk_drew ?_ | refine blk_alloc ?_ _)); exact BK302.out) hb); have n7_ := Aside0.mk (below_step (by repeat (first | (with_reducible first | exact HB.out | apply below_alloc | apply pw_below_drewN | apply below_drew1 | refine below_set ?_ GE300.out | refine below_set ?_ GE301.out | refine below_set ?_ GE302.out) | exact HB.out)) hb); clear HO305; clear HO309; clear HO318; clear BK300; clear BK301; clear BK302; clear HB; have HO305 := n0_; have HO309 := n1_; have HO318 := n2_; have HO322 := n3_; have BK300 := n4_; have BK301 := n5_; have BK302 := n6_; have HB := n7_; clear n0_ n1_ n2_ n3_ n4_ n5_ n6_ n7_; clear hb ho45) | ((with_reducible refine gate_dst (N := 37) rfl ?_); (try (refine gate_guard (by rfl) ?_; dsimp only)); refine Kd.R_lit (Kd.int .i64) _ 3 ?hg (N := 37) ?hd (xs := ([(-1), (-2), (-2)] : List Int)) (inner := [.int .i64 (-1), .int .i64 (-2), .int .i64 (-2)]) (ok := fun _ => True) (okp := fun _ => True) ?hr ?hp (fun _ hk => hk) trivial (Below.refl _ _) (Nat.le_refl _) (by simp) ?_; (case hd => rfl); (case hg => rfl); (case hr => first | (go_simp; done) | (go_simp; rfl)); (case hp => exact (Reps.one (show Kd.M (Kd.int .i64) _ _ _ (-1) [.int .i64 (-1)] from rfl) (Reps.one (show Kd.M (Kd.int .i64) _ _ _ (-2) [.int .i64 (-2)] from rfl) (Reps.one (show Kd.M (Kd.int .i64) _ _ _ (-2) [.int .i64 (-2)] from rfl) (Reps.none _ _))))); intro v324 w46 ho47 hb hg_ hnew_; clear hg_ hnew_; (first | rw [← Ny323.out] at ho47 | (simp only [Int.reduceToNat] at ho47; rw [← Ny323.out] at ho47)); have n0_ := Aside0.mk (Kd.R_elder' (by (with_reducible repeat (first | apply Kd.R_alloc | apply Kd.R_drewN | apply Kd.R_drew)); exact HO305.out) (Kd.R_base ho47) hb); have n1_ := Aside0.mk (Kd.R_elder' (by (with_reducible repeat (first | apply Kd.R_alloc | apply Kd.R_drewN | apply Kd.R_drew)); exact HO309.out) (Kd.R_base ho47) hb); have n2_ := Aside0.mk (Kd.R_elder' (by (with_reducible repeat (first | apply Kd.R_alloc | apply Kd.R_drewN | apply Kd.R_drew)); exact HO318.out) (Kd.R_base ho47) hb); have n3_ := Aside0.mk (Kd.R_below (by (with_reducible repeat (first | apply Kd.R_alloc | apply Kd.R_drewN | apply Kd.R_drew)); exact HO322.out) hb); have n4_ := Aside0.mk (Kd.R_lower (Kd.R_new' (Kd.R_new' (Kd.R_new' ho47 (Kd.R_lt (by (with_reducible repeat (first | apply Kd.R_alloc | apply Kd.R_drewN | apply Kd.R_drew)); exact HO305.out))) (Kd.R_lt (by (with_reducible repeat (first | apply Kd.R_alloc | apply Kd.R_drewN | apply Kd.R_drew)); exact HO309.out))) (Kd.R_lt (by (with_reducible repeat (first | apply Kd.R_alloc | apply Kd.R_drewN | apply Kd.R_drew)); exact HO318.out))) (below_size (by repeat (first | (with_reducible first | exact HB.out | apply below_alloc | apply pw_below_drewN | apply below_drew1 | refine below_set ?_ GE300.out | refine below_set ?_ GE301.out | refine below_set ?_ GE302.out) | exact HB.out)))); have n5_ := Aside0.mk (blk_below (g := gb300) (o := .cells #[.int .i64 t285, .int .i64 t286, .int .i64 t287, .int .i64 t288, .int .i64 t289] 50 (0, 0)) (by (with_reducible repeat (first | refine blk_drewN ?_ _ | refine blk_drew ?_ | refine blk_alloc ?_ _)); exact BK300.out) hb); have n6_ := Aside0.mk (blk_below (g := gb301) (o := .cells #[.int .i64 t290, .int .i64 t291, .int .i64 t292, .int .i64 t293, .int .i64 t294] 50 (0, 0)) (by (with_reducible repeat (first | refine blk_drewN ?_ _ | refine blk_drew ?_ | refine blk_alloc ?_ _)); exact BK301.out) hb); have n7_ := Aside0.mk (blk_below (g := gb302) (o := .cells #[.int .i64 t295, .int .i64 t296, .int .i64 t297, .int .i64 t298, .int .i64 t299] 50 (0, 0)) (by (with_reducible repeat (first | refine blk_drewN ?_ _ | refine blk_drew ?_ | refine blk_alloc ?_ _)); exact BK302.out) hb); have n8_ := Aside0.mk (below_step (by repeat (first | (with_reducible first | exact HB.out | apply below_alloc | apply pw_below_drewN | apply below_drew1 | refine below_set ?_ GE300.out | refine below_set ?_ GE301.out | refine below_set ?_ GE302.out) | exact HB.out)) hb); clear HO305; clear HO309; clear HO318; clear HO322; clear BK300; clear BK301; clear BK302; clear HB; have HO305 := n0_; have HO309 := n1_; have HO318 := n2_; have HO322 := n3_; have HO325 := n4_; have BK300 := n5_; have BK301 := n6_; have BK302 := n7_; have HB := n8_; clear n0_ n1_ n2_ n3_ n4_ n5_ n6_ n7_ n8_; clear hb ho47; obtain ⟨Ao48, co48, eo48⟩ := Kd.R_slice HO322.out; subst eo48; obtain ⟨Ao49, co49, eo49⟩ := Kd.R_slice HO325.out; subst eo49) | (go_at_call 43; (with_reducible refine (slotmeshlaw17_gives.calls k t285 t286 t287 t288 t289 t290 t291 t292 t293 t294 t290 t291 t292 t293 t294 _ _ y320 _ _ y323 true _ ?side1 ?side2 ?side3 ?side4 A11.out).mono ?_); (case side1 => repeat (first | exact (Kd.R_reads' HO322.out).2.2 | (with_reducible refine Kd.C_alloc ?_ _) | (with_reducible refine Kd.C_drewN ?_ _) | (with_reducible refine Kd.C_drew ?_))); (case side2 => exact (Kd.R_reads' HO322.out).2.1); (case side3 => repeat (first | exact (Kd.R_reads' HO325.out).2.2 | (with_reducible refine Kd.C_alloc ?_ _) | (with_reducible refine Kd.C_drewN ?_ _) | (with_reducible refine Kd.C_drew ?_))); (case side4 => exact (Kd.R_reads' HO325.out).2.1); rintro e w50 ⟨rfl, hb⟩; have n0_ := Aside0.mk (Kd.R_below (by (with_reducible repeat (first | apply Kd.R_alloc | apply Kd.R_drewN | apply Kd.R_drew)); exact HO305.out) hb); have n1_ := Aside0.mk (Kd.R_below (by (with_reducible repeat (first | apply Kd.R_alloc | apply Kd.R_drewN | apply Kd.R_drew)); exact HO309.out) hb); have n2_ := Aside0.mk (Kd.R_below (by (with_reducible repeat (first | apply Kd.R_alloc | apply Kd.R_drewN | apply Kd.R_drew)); exact HO318.out) hb); have n3_ := Aside0.mk (Kd.R_below (by (with_reducible repeat (first | apply Kd.R_alloc | apply Kd.R_drewN | apply Kd.R_drew)); exact HO322.out) hb); have n4_ := Aside0.mk (Kd.R_below (by (with_reducible repeat (first | apply Kd.R_alloc | apply Kd.R_drewN | apply Kd.R_drew)); exact HO325.out) hb); have n5_ := Aside0.mk (blk_below (g := gb300) (o := .cells #[.int .i64 t285, .int .i64 t286, .int .i64 t287, .int .i64 t288, .int .i64 t289] 50 (0, 0)) (by (with_reducible repeat (first | refine blk_drewN ?_ _ | refine blk_drew ?_ | refine blk_alloc ?_ _)); exact BK300.out) hb); have n6_ := Aside0.mk (blk_below (g := gb301) (o := .cells #[.int .i64 t290, .int .i64 t291, .int .i64 t292, .int .i64 t293, .int .i64 t294] 50 (0, 0)) (by (with_reducible repeat (first | refine blk_drewN ?_ _ | refine blk_drew ?_ | refine blk_alloc ?_ _)); exact BK301.out) hb); have n7_ := Aside0.mk (blk_below (g := gb302) (o := .cells #[.int .i64 t295, .int .i64 t296, .int .i64 t297, .int .i64 t298, .int .i64 t299] 50 (0, 0)) (by (with_reducible repeat (first | refine blk_drewN ?_ _ | refine blk_drew ?_ | refine blk_alloc ?_ _)); exact BK302.out) hb); have n8_ := Aside0.mk (below_step (by repeat (first | (with_reducible first | exact HB.out | apply below_alloc | apply pw_below_drewN | apply below_drew1 | refine below_set ?_ GE300.out | refine below_set ?_ GE301.out | refine below_set ?_ GE302.out) | exact HB.out)) hb); clear HO305; clear HO309; clear HO318; clear HO322; clear HO325; clear BK300; clear BK301; clear BK302; clear HB; have HO305 := n0_; have HO309 := n1_; have HO318 := n2_; have HO322 := n3_; have HO325 := n4_; have BK300 := n5_; have BK301 := n6_; have BK302 := n7_; have HB := n8_; clear n0_ n1_ n2_ n3_ n4_ n5_ n6_ n7_ n8_; (try clear hb); (try clear hb2); (try clear hk); (try clear hi); have hcz51_0 : w50.cell? ⟨gb300, 0, none⟩ = some (.int .i64 t285) := (blk_cell BK300.out 0).trans rfl; have hcz51_1 : w50.cell? ⟨gb300, 1, none⟩ = some (.int .i64 t286) := (blk_cell BK300.out 1).trans rfl; have hcz51_2 : w50.cell? ⟨gb300, 2, none⟩ = some (.int .i64 t287) := (blk_cell BK300.out 2).trans rfl; have hcz51_3 : w50.cell? ⟨gb300, 3, none⟩ = some (.int .i64 t288) := (blk_cell BK300.out 3).trans rfl; have hcz51_4 : w50.cell? ⟨gb300, 4, none⟩ = some (.int .i64 t289) := (blk_cell BK300.out 4).trans rfl; have hfz51_0 := blk_frozen BK300.out 0; have hfz51_1 := blk_frozen BK300.out 1; have hfz51_2 := blk_frozen BK300.out 2; have hfz51_3 := blk_frozen BK300.out 3; have hfz51_4 := blk_frozen BK300.out 4) | ((with_reducible refine gate_dst (N := 42) rfl ?_); (try (refine gate_guard (by rfl) ?_; dsimp only)); refine Kd.R_lit k50 _ 50 ?hg (N := 42) ?hd (xs := ([(⟨t285, t286, t287, (⟨t288, t289⟩ : S48)⟩ : S50)] : List (S50))) (inner := [.int .i64 t285, .int .i64 t286, .int .i64 t287, .int .i64 t288, .int .i64 t289]) (ok := fun _ => True) (okp := fun _ => True) ?hr ?hp (fun _ hk => hk) trivial (Below.refl _ _) (Nat.le_refl _) (by simp) ?_; (case hd => rfl); (case hg => rfl); (case hr => first | (go_simp; done) | (go_simp; rfl)); (case hp => exact (Reps.c5 (show Kd.M k50 _ _ _ (⟨t285, t286, t287, (⟨t288, t289⟩ : S48)⟩ : S50) [.int .i64 t285, .int .i64 t286, .int .i64 t287, .int .i64 t288, .int .i64 t289] from (k50_mkM _ _ _ (⟨t285, t286, t287, (⟨t288, t289⟩ : S48)⟩ : S50) )) (Reps.none _ _))); intro v328 w52 ho53 hb hg_ hnew_; clear hg_ hnew_; (first | rw [← Ny327.out] at ho53 | (simp only [Int.reduceToNat] at ho53; rw [← Ny327.out] at ho53)); have n0_ := Aside0.mk (Kd.R_below (by (with_reducible repeat (first | apply Kd.R_alloc | apply Kd.R_drewN | apply Kd.R_drew)); exact HO305.out) hb); have n1_ := Aside0.mk (Kd.R_below (by (with_reducible repeat (first | apply Kd.R_alloc | apply Kd.R_drewN | apply Kd.R_drew)); exact HO309.out) hb); have n2_ := Aside0.mk (Kd.R_below (by (with_reducible repeat (first | apply Kd.R_alloc | apply Kd.R_drewN | apply Kd.R_drew)); exact HO318.out) hb); have n3_ := Aside0.mk (Kd.R_below (by (with_reducible repeat (first | apply Kd.R_alloc | apply Kd.R_drewN | apply Kd.R_drew)); exact HO322.out) hb); have n4_ := Aside0.mk (Kd.R_below (by (with_reducible repeat (first | apply Kd.R_alloc | apply Kd.R_drewN | apply Kd.R_drew)); exact HO325.out) hb); have n5_ := Aside0.mk (Kd.R_lower (Kd.R_newB (Kd.R_newB (Kd.R_newB ho53 (g := gb300) (o := .cells #[.int .i64 t285, .int .i64 t286, .int .i64 t287, .int .i64 t288, .int .i64 t289] 50 (0, 0)) (by (with_reducible repeat (first | refine blk_drewN ?_ _ | refine blk_drew ?_ | refine blk_alloc ?_ _)); exact BK300.out)) (g := gb301) (o := .cells #[.int .i64 t290, .int .i64 t291, .int .i64 t292, .int .i64 t293, .int .i64 t294] 50 (0, 0)) (by (with_reducible repeat (first | refine blk_drewN ?_ _ | refine blk_drew ?_ | refine blk_alloc ?_ _)); exact BK301.out)) (g := gb302) (o := .cells #[.int .i64 t295, .int .i64 t296, .int .i64 t297, .int .i64 t298, .int .i64 t299] 50 (0, 0)) (by (with_reducible repeat (first | refine blk_drewN ?_ _ | refine blk_drew ?_ | refine blk_alloc ?_ _)); exact BK302.out)) (below_size (by repeat (first | (with_reducible first | exact HB.out | apply below_alloc | apply pw_below_drewN | apply below_drew1 | refine below_set ?_ GE300.out | refine below_set ?_ GE301.out | refine below_set ?_ GE302.out) | exact HB.out)))); have n6_ := Aside0.mk (blk_below (g := gb300) (o := .cells #[.int .i64 t285, .int .i64 t286, .int .i64 t287, .int .i64 t288, .int .i64 t289] 50 (0, 0)) (by (with_reducible repeat (first | refine blk_drewN ?_ _ | refine blk_drew ?_ | refine blk_alloc ?_ _)); exact BK300.out) hb); have n7_ := Aside0.mk (blk_below (g := gb301) (o := .cells #[.int .i64 t290, .int .i64 t291, .int .i64 t292, .int .i64 t293, .int .i64 t294] 50 (0, 0)) (by (with_reducible repeat (first | refine blk_drewN ?_ _ | refine blk_drew ?_ | refine blk_alloc ?_ _)); exact BK301.out) hb); have n8_ := Aside0.mk (blk_below (g := gb302) (o := .cells #[.int .i64 t295, .int .i64 t296, .int .i64 t297, .int .i64 t298, .int .i64 t299] 50 (0, 0)) (by (with_reducible repeat (first | refine blk_drewN ?_ _ | refine blk_drew ?_ | refine blk_alloc ?_ _)); exact BK302.out) hb); have n9_ := Aside0.mk (below_step (by repeat (first | (with_reducible first | exact HB.out | apply below_alloc | apply pw_below_drewN | apply below_drew1 | refine below_set ?_ GE300.out | refine below_set ?_ GE301.out | refine below_set ?_ GE302.out) | exact HB.out)) hb); clear HO305; clear HO309; clear HO318; clear HO322; clear HO325; clear BK300; clear BK301; clear BK302; clear HB; have HO305 := n0_; have HO309 := n1_; have HO318 := n2_; have HO322 := n3_; have HO325 := n4_; have HO329 := n5_; have BK300 := n6_; have BK301 := n7_; have BK302 := n8_; have HB := n9_; clear n0_ n1_ n2_ n3_ n4_ n5_ n6_ n7_ n8_ n9_; clear hb ho53; obtain ⟨Ao54, co54, eo54⟩ := Kd.R_slice HO329.out; subst eo54) | ((with_reducible refine gate_callee (f := 29) rfl ?_); refine goesL_ (some 43) rfl rfl Try.func29 (by kernel_rfl) rfl #[.slice Ao54 y327.length co54, .slice none 0 0, .int .i64 5, .slice none 0 0, .int .i64 7] rfl (by (try simp only [List.map_toArray, List.map_cons, List.map_nil]); first | done | rfl | (simp only [List.length_drop, List.length_take]; rfl)) ?_; (refine (medium_Catch.calls k _ _ y327 _ _ ([] : List (S25)) 5 _ _ ([] : List (S42)) 7 t330 t331 _ ?side1 ?side2 ?side3 ?side4 ?side5 ?side6 A12.out).mono ?_); (case side1 => repeat (first | exact (Kd.R_reads' HO329.out).2.2 | (with_reducible refine Kd.C_alloc ?_ _) | (with_reducible refine Kd.C_drewN ?_ _) | (with_reducible refine Kd.C_drew ?_))); (case side2 => exact (Kd.R_reads' HO329.out).2.1); (case side3 => exact Kd.C_nil _ _); (case side4 => exact Nat.le_refl _); (case side5 => exact Kd.C_nil _ _); (case side6 => exact Nat.le_refl _); rintro e w55 ⟨v332, rfl, ho0, hb⟩; refine ⟨_, rfl, ?_⟩; have n0_ := Aside0.mk (Kd.R_elder' (by (with_reducible repeat (first | apply Kd.R_alloc | apply Kd.R_drewN | apply Kd.R_drew)); exact HO305.out) (Kd.R_base ho0) hb); have n1_ := Aside0.mk (Kd.R_elder' (by (with_reducible repeat (first | apply Kd.R_alloc | apply Kd.R_drewN | apply Kd.R_drew)); exact HO309.out) (Kd.R_base ho0) hb); have n2_ := Aside0.mk (Kd.R_elder' (by (with_reducible repeat (first | apply Kd.R_alloc | apply Kd.R_drewN | apply Kd.R_drew)); exact HO318.out) (Kd.R_base ho0) hb); have n3_ := Aside0.mk (Kd.R_below (by (with_reducible repeat (first | apply Kd.R_alloc | apply Kd.R_drewN | apply Kd.R_drew)); exact HO322.out) hb); have n4_ := Aside0.mk (Kd.R_elder' (by (with_reducible repeat (first | apply Kd.R_alloc | apply Kd.R_drewN | apply Kd.R_drew)); exact HO325.out) (Kd.R_base ho0) hb); have n5_ := Aside0.mk (Kd.R_below (by (with_reducible repeat (first | apply Kd.R_alloc | apply Kd.R_drewN | apply Kd.R_drew)); exact HO329.out) hb); have n6_ := Aside0.mk (Kd.R_lower (Kd.R_new' (Kd.R_new' (Kd.R_new' (Kd.R_new' ho0 (Kd.R_lt (by (with_reducible repeat (first | apply Kd.R_alloc | apply Kd.R_drewN | apply Kd.R_drew)); exact HO305.out))) (Kd.R_lt (by (with_reducible repeat (first | apply Kd.R_alloc | apply Kd.R_drewN | apply Kd.R_drew)); exact HO309.out))) (Kd.R_lt (by (with_reducible repeat (first | apply Kd.R_alloc | apply Kd.R_drewN | apply Kd.R_drew)); exact HO318.out))) (Kd.R_lt (by (with_reducible repeat (first | apply Kd.R_alloc | apply Kd.R_drewN | apply Kd.R_drew)); exact HO325.out))) (below_size (by repeat (first | (with_reducible first | exact HB.out | apply below_alloc | apply pw_below_drewN | apply below_drew1 | refine below_set ?_ GE300.out | refine below_set ?_ GE301.out | refine below_set ?_ GE302.out) | exact HB.out)))); have n7_ := Aside0.mk (blk_below (g := gb300) (o := .cells #[.int .i64 t285, .int .i64 t286, .int .i64 t287, .int .i64 t288, .int .i64 t289] 50 (0, 0)) (by (with_reducible repeat (first | refine blk_drewN ?_ _ | refine blk_drew ?_ | refine blk_alloc ?_ _)); exact BK300.out) hb); have n8_ := Aside0.mk (blk_below (g := gb301) (o := .cells #[.int .i64 t290, .int .i64 t291, .int .i64 t292, .int .i64 t293, .int .i64 t294] 50 (0, 0)) (by (with_reducible repeat (first | refine blk_drewN ?_ _ | refine blk_drew ?_ | refine blk_alloc ?_ _)); exact BK301.out) hb); have n9_ := Aside0.mk (blk_below (g := gb302) (o := .cells #[.int .i64 t295, .int .i64 t296, .int .i64 t297, .int .i64 t298, .int .i64 t299] 50 (0, 0)) (by (with_reducible repeat (first | refine blk_drewN ?_ _ | refine blk_drew ?_ | refine blk_alloc ?_ _)); exact BK302.out) hb); have n10_ := Aside0.mk (below_step (by repeat (first | (with_reducible first | exact HB.out | apply below_alloc | apply pw_below_drewN | apply below_drew1 | refine below_set ?_ GE300.out | refine below_set ?_ GE301.out | refine below_set ?_ GE302.out) | exact HB.out)) hb); clear HO305; clear HO309; clear HO318; clear HO322; clear HO325; clear HO329; clear BK300; clear BK301; clear BK302; clear HB; have HO305 := n0_; have HO309 := n1_; have HO318 := n2_; have HO322 := n3_; have HO325 := n4_; have HO329 := n5_; have HO333 := n6_; have BK300 := n7_; have BK301 := n8_; have BK302 := n9_; have HB := n10_; clear n0_ n1_ n2_ n3_ n4_ n5_ n6_ n7_ n8_ n9_ n10_; (try clear hb); (try clear hb2); (try clear hk); (try clear hi); (try clear ho0)))
     go_ret
     exact ⟨by first | rfl | (simp [errW_none, errW_some] <;> rfl) | (simp [*, errW_none, errW_some] <;> rfl), by repeat (first | (with_reducible first | exact HB.out | apply below_alloc | apply pw_below_drewN | apply below_drew1 | refine below_set ?_ GE300.out | refine below_set ?_ GE301.out | refine below_set ?_ GE302.out) | exact HB.out)⟩
    ·
     replace c13 := Bool.eq_false_iff.mpr c13
     subst c13
     rw [if_neg (show ¬ (false = true) by decide)] at H
     exact absurd (Option.some.inj H) (by rw [HRT.out]; decide)
   ·
    replace c10 := Bool.eq_false_iff.mpr c10
    subst c10
    rw [if_neg (show ¬ (false = true) by decide)] at H
    obtain ⟨y334, hy334⟩ : ∃ y_ : List (S50), y_ = (([(⟨t285, t286, t287, (⟨t288, t289⟩ : S48)⟩ : S50)] : List (S50))) := ⟨_, rfl⟩
    rw [← hy334] at H
    have Ny334 := Aside0.mk hy334
    clear hy334
    replace H := Option.bind_eq_some_iff.mp H
    obtain ⟨⟨t337, t338⟩, A980, H⟩ := H
    replace H : (some false) = some r := H
    have A98 := Aside0.mk A980
    clear A980
    exact absurd (Option.some.inj H) (by rw [HRT.out]; decide)
  ·
   replace c7 := Bool.eq_false_iff.mpr c7
   subst c7
   rw [if_neg (show ¬ (false = true) by decide)] at H
   obtain ⟨y341, hy341⟩ : ∃ y_ : List (S50), y_ = (([(⟨t285, t286, t287, (⟨t288, t289⟩ : S48)⟩ : S50)] : List (S50))) := ⟨_, rfl⟩
   rw [← hy341] at H
   have Ny341 := Aside0.mk hy341
   clear hy341
   replace H := Option.bind_eq_some_iff.mp H
   obtain ⟨⟨t344, t345⟩, A1320, H⟩ := H
   replace H : (some false) = some r := H
   have A132 := Aside0.mk A1320
   clear A1320
   exact absurd (Option.some.inj H) (by rw [HRT.out]; decide)
 ·
  replace c5 := Bool.eq_false_iff.mpr c5
  subst c5
  rw [if_neg (show ¬ (false = true) by decide)] at H
  obtain ⟨y348, hy348⟩ : ∃ y_ : List (S50), y_ = (([(⟨t285, t286, t287, (⟨t288, t289⟩ : S48)⟩ : S50)] : List (S50))) := ⟨_, rfl⟩
  rw [← hy348] at H
  have Ny348 := Aside0.mk hy348
  clear hy348
  replace H := Option.bind_eq_some_iff.mp H
  obtain ⟨⟨t351, t352⟩, A1600, H⟩ := H
  replace H : (some false) = some r := H
  have A160 := Aside0.mk A1600
  clear A1600
  exact absurd (Option.some.inj H) (by rw [HRT.out]; decide)
end Go.Proofs.Ytcgbfkplhlngjaa.PA
