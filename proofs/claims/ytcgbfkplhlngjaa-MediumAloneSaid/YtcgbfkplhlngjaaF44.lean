/- What slotmeshref17_Valid (function 44) computes, as a Lean function, and that its call comes to just that; made by a program of this session in the manner of the print. -/
import Derived.Test.YtcgbfkplhlngjaaT0
import Derived.Test.YtcgbfkplhlngjaaF26
namespace Go.Proofs.Ytcgbfkplhlngjaa.PA
open Go.RowKit Go.Proofs.YtcgbfkplhlngjaaW.PrintWords Go.Proofs.YtcgbfkplhlngjaaW.PrintLast Go.Proofs.YtcgbfkplhlngjaaW.PrintMore
attribute [local go_sem] max2_int min2_int max_two min_two max_three min_three max_four min_four   -- for this text's walks alone
set_option linter.unusedVariables false
set_option linter.unusedSimpArgs false

/-! ### slotmeshref17_Valid: function 44 -/
mutual
def slotmeshref17_Valid.j0 : Nat → List (S50) → List (S25) → Bool → Option (Bool)
  | 0, _, _, _ => none
  | k + 1, x0, x1, x36 => if x36 = true then (some false) else (slotmeshref17_Valid.l0 k x0 x1 0)
def slotmeshref17_Valid.l0 : Nat → List (S50) → List (S25) → Int → Option (Bool)
  | 0, _, _, _ => none
  | k + 1, x0, x1, x9 => if x9 < (x0.length : Int) then (if 0 ≤ x9 then (if x9 < (x1.length : Int) then ((slotmeshref16_Valid.f ((rd_T25 x1 x9).f0) ((rd_T25 x1 x9).f1)).bind fun t215 => (if t215 = true then (if ((rd_T50 x0 x9).f0) < 0 then (slotmeshref17_Valid.j2 k x0 x1 x9 true ((rd_T50 x0 x9).f0) ((rd_T50 x0 x9).f1) ((rd_T50 x0 x9).f2) ((rd_T50 x0 x9).f3.f0) ((rd_T50 x0 x9).f3.f1)) else (slotmeshref17_Valid.j2 k x0 x1 x9 (decide (((rd_T50 x0 x9).f0) > 2)) ((rd_T50 x0 x9).f0) ((rd_T50 x0 x9).f1) ((rd_T50 x0 x9).f2) ((rd_T50 x0 x9).f3.f0) ((rd_T50 x0 x9).f3.f1))) else (slotmeshref17_Valid.j2 k x0 x1 x9 true ((rd_T50 x0 x9).f0) ((rd_T50 x0 x9).f1) ((rd_T50 x0 x9).f2) ((rd_T50 x0 x9).f3.f0) ((rd_T50 x0 x9).f3.f1)))) else (none)) else (none)) else (some true)
def slotmeshref17_Valid.j2 : Nat → List (S50) → List (S25) → Int → Bool → Int → Int → Int → Int → Int → Option (Bool)
  | 0, _, _, _, _, _, _, _, _, _ => none
  | k + 1, x0, x1, x9, x62, x214000, x214001, x214002, x214003, x214004 => if x62 = true then (some false) else (if x214000 = 0 then (slotmeshref17_Valid.l0 k x0 x1 (wrap64 (x9 + 1))) else (if x214001 < 0 then (some false) else (if x214001 ≥ 16 then (some false) else (slotmeshref17_Valid.l0 k x0 x1 (wrap64 (x9 + 1))))))
end
def slotmeshref17_Valid.f (k : Nat) (l0 : List (S50)) (l1 : List (S25)) (a2 : Int) (a3 : Int) : Option (Bool) := if (l0.length : Int) = (l1.length : Int) then (if (l0.length : Int) > 200 then (slotmeshref17_Valid.j0 k l0 l1 true) else (if a2 < 0 then (slotmeshref17_Valid.j0 k l0 l1 true) else (if a2 > 20000 then (slotmeshref17_Valid.j0 k l0 l1 true) else (if a3 < 0 then (slotmeshref17_Valid.j0 k l0 l1 true) else (slotmeshref17_Valid.j0 k l0 l1 (decide (a3 > 1000000000))))))) else (slotmeshref17_Valid.j0 k l0 l1 true)
theorem slotmeshref17_Valid.mono_l : ∀ k, (∀ y0 y1 y2, LeO (slotmeshref17_Valid.j0 k y0 y1 y2) (slotmeshref17_Valid.j0 (k + 1) y0 y1 y2)) ∧ (∀ y0 y1 y2, LeO (slotmeshref17_Valid.l0 k y0 y1 y2) (slotmeshref17_Valid.l0 (k + 1) y0 y1 y2)) ∧ (∀ y0 y1 y2 y3 y4 y5 y6 y7 y8, LeO (slotmeshref17_Valid.j2 k y0 y1 y2 y3 y4 y5 y6 y7 y8) (slotmeshref17_Valid.j2 (k + 1) y0 y1 y2 y3 y4 y5 y6 y7 y8))
  | 0 => ⟨fun _ _ _ r h => by simp [slotmeshref17_Valid.j0] at h, fun _ _ _ r h => by simp [slotmeshref17_Valid.l0] at h, fun _ _ _ _ _ _ _ _ _ r h => by simp [slotmeshref17_Valid.j2] at h⟩
  | k + 1 => by
    obtain ⟨ih0, ih1, ih2⟩ := slotmeshref17_Valid.mono_l k
    refine ⟨?_, ?_, ?_⟩
    · intro y0 y1 y2
      unfold slotmeshref17_Valid.j0
      repeat' first
      | (with_reducible exact ih0 _ _ _)
      | (with_reducible exact ih1 _ _ _)
      | (with_reducible exact ih2 _ _ _ _ _ _ _ _ _)
      | (with_reducible exact LeO.refl _)
      | (with_reducible exact LeO.none _)
      | (with_reducible refine LeO.ite ?_ ?_)
      | (with_reducible refine LeO.bind ?_ (fun _ => ?_))
      | exact ih0 _ _ _
      | exact ih1 _ _ _
      | exact ih2 _ _ _ _ _ _ _ _ _
      | exact LeO.none _
      | refine LeO.ite ?_ ?_
      | refine LeO.bind ?_ (fun _ => ?_)
    · intro y0 y1 y2
      unfold slotmeshref17_Valid.l0
      repeat' first
      | (with_reducible exact ih0 _ _ _)
      | (with_reducible exact ih1 _ _ _)
      | (with_reducible exact ih2 _ _ _ _ _ _ _ _ _)
      | (with_reducible exact LeO.refl _)
      | (with_reducible exact LeO.none _)
      | (with_reducible refine LeO.ite ?_ ?_)
      | (with_reducible refine LeO.bind ?_ (fun _ => ?_))
      | exact ih0 _ _ _
      | exact ih1 _ _ _
      | exact ih2 _ _ _ _ _ _ _ _ _
      | exact LeO.none _
      | refine LeO.ite ?_ ?_
      | refine LeO.bind ?_ (fun _ => ?_)
    · intro y0 y1 y2 y3 y4 y5 y6 y7 y8
      unfold slotmeshref17_Valid.j2
      repeat' first
      | (with_reducible exact ih0 _ _ _)
      | (with_reducible exact ih1 _ _ _)
      | (with_reducible exact ih2 _ _ _ _ _ _ _ _ _)
      | (with_reducible exact LeO.refl _)
      | (with_reducible exact LeO.none _)
      | (with_reducible refine LeO.ite ?_ ?_)
      | (with_reducible refine LeO.bind ?_ (fun _ => ?_))
      | exact ih0 _ _ _
      | exact ih1 _ _ _
      | exact ih2 _ _ _ _ _ _ _ _ _
      | exact LeO.none _
      | refine LeO.ite ?_ ?_
      | refine LeO.bind ?_ (fun _ => ?_)
theorem slotmeshref17_Valid.mono : ∀ a0 a1 a2 a3 k, LeO (slotmeshref17_Valid.f k a0 a1 a2 a3) (slotmeshref17_Valid.f (k + 1) a0 a1 a2 a3) := by
  intro a0 a1 a2 a3 k
  obtain ⟨ih0, ih1, ih2⟩ := slotmeshref17_Valid.mono_l k
  unfold slotmeshref17_Valid.f
  repeat' first
      | (with_reducible exact ih0 _ _ _)
      | (with_reducible exact ih1 _ _ _)
      | (with_reducible exact ih2 _ _ _ _ _ _ _ _ _)
      | (with_reducible exact LeO.refl _)
      | (with_reducible exact LeO.none _)
      | (with_reducible refine LeO.ite ?_ ?_)
      | (with_reducible refine LeO.bind ?_ (fun _ => ?_))
      | exact ih0 _ _ _
      | exact ih1 _ _ _
      | exact ih2 _ _ _ _ _ _ _ _ _
      | exact LeO.none _
      | refine LeO.ite ?_ ?_
      | refine LeO.bind ?_ (fun _ => ?_)
set_option maxHeartbeats 8000000 in
set_option maxRecDepth 100000 in
theorem slotmeshref17_Valid.calls (k : Nat) (A0 : Option Addr) (c0 : Nat) (l0 : List (S50)) (A1 : Option Addr) (c1 : Nat) (l1 : List (S25)) (a2 : Int) (a3 : Int) (r : Bool) (w : World) (hr0 : Kd.C k50 w A0 l0.length l0) (hc0 : l0.length ≤ c0) (hr1 : Kd.C k25 w A1 l1.length l1) (hc1 : l1.length ≤ c1) (h : slotmeshref17_Valid.f k l0 l1 a2 a3 = some r) :
    Calls Try.prog 44 #[.slice A0 l0.length c0, .slice A1 l1.length c1, .int .i64 a2, .int .i64 a3] w fun e w' => e = .returned (.bool r) ∧ Below w.heap.size w w' := by
  have hu50 := Try.underlying50
  have hu25 := Try.underlying25
  have HR0 := Aside0.mk hr0
  have HC0 := Aside0.mk hc0
  clear hr0 hc0
  have HR1 := Aside0.mk hr1
  have HC1 := Aside0.mk hc1
  clear hr1 hc1
  have HB := Aside0.mk (Below.refl w.heap.size w)
  have H : (if (l0.length : Int) = (l1.length : Int) then (if (l0.length : Int) > 200 then (slotmeshref17_Valid.j0 k l0 l1 true) else (if a2 < 0 then (slotmeshref17_Valid.j0 k l0 l1 true) else (if a2 > 20000 then (slotmeshref17_Valid.j0 k l0 l1 true) else (if a3 < 0 then (slotmeshref17_Valid.j0 k l0 l1 true) else (slotmeshref17_Valid.j0 k l0 l1 (decide (a3 > 1000000000))))))) else (slotmeshref17_Valid.j0 k l0 l1 true)) = some r := h
  clear h
  have HC5 := Aside0.mk H
  clear H
  go_enter Try.func44, Try.ntmps44
  go_upto_region 1 with (fail)
  go_cut [36] (fun v36 wc => ∃ (kq : Nat) (x36_4 : Bool), v36 = .bool x36_4 ∧ Aside0 (slotmeshref17_Valid.j0 kq l0 l1 x36_4 = some r) ∧ Aside0 (kq ≤ k) ∧ Aside0 (Below w.heap.size w wc))
  case first =>
    have H := HC5.out
    clear HC5
    by_cases c6 : (l0.length : Int) = (l1.length : Int)
    · rw [if_pos c6] at H
      have c6b0 : ((l0.length : Int) == (l1.length : Int)) = true := beq_iff_eq.mpr c6
      have c6b1 : ((l0.length : Int) != (l1.length : Int)) = false := bne_eq_false_iff_eq.mpr c6
      have c6b2 : (l0.length == l1.length) = true := by first | simpa using c6 | (simp at c6 ⊢; omega)
      clear c6
      (first | rw [c6b0] | (simp only [i64_w, i32_w]; rw [c6b0]) | skip)
      by_cases c7 : (l0.length : Int) > 200
      · rw [if_pos c7] at H
        have c7b0 : decide (200 < (l0.length : Int)) = true := decide_eq_true c7
        have c7b1 : decide (200 < l0.length) = true := decide_eq_true (by omega)
        clear c7
        have H' := Aside0.mk H
        clear H
        go_wp2
        go_meet
        case rel => exact ⟨_, (true), (by first | rfl | (simp; done) | (simp [*]; done)), H', ⟨by first | omega | exact Nat.le_refl _⟩, ⟨by repeat (first | (with_reducible first | exact HB.out | apply below_alloc | apply pw_below_drewN | apply below_drew1) | exact HB.out)⟩⟩
      · rw [if_neg c7] at H
        have c7b0 : decide (200 < (l0.length : Int)) = false := decide_eq_false c7
        have c7b1 : decide (200 < l0.length) = false := decide_eq_false (by omega)
        clear c7
        by_cases c8 : a2 < 0
        · rw [if_pos c8] at H
          have c8b0 : decide (a2 < 0) = true := decide_eq_true c8
          clear c8
          have H' := Aside0.mk H
          clear H
          go_wp2
          go_meet
          case rel => exact ⟨_, (true), (by first | rfl | (simp; done) | (simp [*]; done)), H', ⟨by first | omega | exact Nat.le_refl _⟩, ⟨by repeat (first | (with_reducible first | exact HB.out | apply below_alloc | apply pw_below_drewN | apply below_drew1) | exact HB.out)⟩⟩
        · rw [if_neg c8] at H
          have c8b0 : decide (a2 < 0) = false := decide_eq_false c8
          clear c8
          by_cases c9 : a2 > 20000
          · rw [if_pos c9] at H
            have c9b0 : decide (20000 < a2) = true := decide_eq_true c9
            clear c9
            have H' := Aside0.mk H
            clear H
            go_wp2
            go_meet
            case rel => exact ⟨_, (true), (by first | rfl | (simp; done) | (simp [*]; done)), H', ⟨by first | omega | exact Nat.le_refl _⟩, ⟨by repeat (first | (with_reducible first | exact HB.out | apply below_alloc | apply pw_below_drewN | apply below_drew1) | exact HB.out)⟩⟩
          · rw [if_neg c9] at H
            have c9b0 : decide (20000 < a2) = false := decide_eq_false c9
            clear c9
            by_cases c10 : a3 < 0
            · rw [if_pos c10] at H
              have c10b0 : decide (a3 < 0) = true := decide_eq_true c10
              clear c10
              have H' := Aside0.mk H
              clear H
              go_wp2
              go_meet
              case rel => exact ⟨_, (true), (by first | rfl | (simp; done) | (simp [*]; done)), H', ⟨by first | omega | exact Nat.le_refl _⟩, ⟨by repeat (first | (with_reducible first | exact HB.out | apply below_alloc | apply pw_below_drewN | apply below_drew1) | exact HB.out)⟩⟩
            · rw [if_neg c10] at H
              have c10b0 : decide (a3 < 0) = false := decide_eq_false c10
              clear c10
              have H' := Aside0.mk H
              clear H
              go_wp2
              go_meet
              case rel => exact ⟨_, (decide (a3 > 1000000000)), (by first | rfl | (simp; done) | (simp [*]; done)), H', ⟨by first | omega | exact Nat.le_refl _⟩, ⟨by repeat (first | (with_reducible first | exact HB.out | apply below_alloc | apply pw_below_drewN | apply below_drew1) | exact HB.out)⟩⟩
    · rw [if_neg c6] at H
      have c6b0 : ((l0.length : Int) == (l1.length : Int)) = false := beq_eq_false_iff_ne.mpr c6
      have c6b1 : ((l0.length : Int) != (l1.length : Int)) = true := bne_iff_ne.mpr c6
      have c6b2 : (l0.length == l1.length) = false := by first | simpa using c6 | (simp at c6 ⊢; omega)
      (first | rw [c6b0] | (simp only [i64_w, i32_w]; rw [c6b0]) | skip)
      have H' := Aside0.mk H
      clear H
      go_wp2
      go_meet
      case rel => exact ⟨_, (true), (by first | rfl | (simp; done) | (simp [*]; done)), H', ⟨by first | omega | exact Nat.le_refl _⟩, ⟨by repeat (first | (with_reducible first | exact HB.out | apply below_alloc | apply pw_below_drewN | apply below_drew1) | exact HB.out)⟩⟩
  case rest =>
    clear HC5
    try clear c1
    try clear p2
    try clear c4
    try clear c6
    try clear c6b0
    try clear c6b1
    try clear c6b2
    try clear c7
    try clear c7b0
    try clear c7b1
    try clear c8
    try clear c8b0
    try clear c9
    try clear c9b0
    try clear c10
    try clear c10b0
    obtain ⟨kq, x36_4, rfl, HA, HJ4, HB⟩ := hcut
    cases kq with
    | zero => exact absurd HA.out (by simp [slotmeshref17_Valid.j0])
    | succ kj4 =>
      have H := HA.out
      clear HA
      simp only [slotmeshref17_Valid.j0] at H
      by_cases c11 : x36_4 = true
      · subst c11
        have H1 : (some false) = some r := by rw [if_pos rfl] at H; exact H
        clear H
        have H := H1
        clear H1
        obtain rfl := Option.some.inj H
        go_wp2
        go_ret
        exact ⟨by first | rfl | (simp [errW_none, errW_some] <;> rfl) | (simp [*, errW_none, errW_some] <;> rfl), by repeat (first | (with_reducible first | exact HB.out | apply below_alloc | apply pw_below_drewN | apply below_drew1) | exact HB.out)⟩
      · replace c11 := Bool.eq_false_iff.mpr c11
        subst c11
        have H1 : (slotmeshref17_Valid.l0 kj4 l0 l1 0) = some r := by rw [if_neg (show ¬ (false = true) by decide)] at H; exact H
        clear H
        have H := H1
        clear H1
        have H' := Aside0.mk H
        clear H
        go_wp2
        go_loopg [9] kj4 (fun kq v9 w' => ∃ (x9_2 : Int), v9 = .int .i64 x9_2 ∧ Aside0 (slotmeshref17_Valid.l0 kq l0 l1 x9_2 = some r) ∧ Aside0 (kq ≤ kj4) ∧ Aside0 (Below w.heap.size w w'))
        case atStart => exact ⟨(0), (by first | rfl | (simp; done) | (simp [*]; done)), H', ⟨Nat.le_refl _⟩, ⟨by repeat (first | (with_reducible first | exact HB.out | apply below_alloc | apply pw_below_drewN | apply below_drew1) | exact HB.out)⟩⟩
        case round =>
          clear H'
          try clear c1
          try clear p2
          try clear c4
          try clear c6
          try clear c6b0
          try clear c6b1
          try clear c6b2
          try clear c7
          try clear c7b0
          try clear c7b1
          try clear c8
          try clear c8b0
          try clear c9
          try clear c9b0
          try clear c10
          try clear c10b0
          try clear c11
          try clear p2
          obtain ⟨x9_2, rfl, HA, HK2, HB⟩ := hrel
          cases gk with
          | zero => exact absurd HA.out (by simp [slotmeshref17_Valid.l0])
          | succ k2 =>
            have H := HA.out
            clear HA
            simp only [slotmeshref17_Valid.l0] at H
            by_cases c12 : x9_2 < (l0.length : Int)
            · rw [if_pos c12] at H
              have c12b0 : decide (x9_2 < (l0.length : Int)) = true := decide_eq_true c12
              clear c12
              by_cases c13 : 0 ≤ x9_2
              · rw [if_pos c13] at H
                have c13b0 : decide (0 ≤ x9_2) = true := decide_eq_true c13
                clear c13
                have HC14 := Aside0.mk H
                clear H
                have p212 : 0 ≤ (x9_2 : Int) := of_decide_eq_true (by first | (with_reducible assumption) | assumption)
                have q212 : x9_2 < (l0.length : Int) := of_decide_eq_true (by first | (with_reducible assumption) | assumption)
                obtain ⟨ad212, e212, hx212_0, hx212_1, hx212_2, hx212_3, hx212_4⟩ := at_T50 HR0.out x9_2 p212 q212
                cases e212
                replace hx212_0 := (HB.out.cell (World.block_lt_of_cell? w _ hx212_0)).trans hx212_0
                replace hx212_1 := (HB.out.cell (World.block_lt_of_cell? w _ hx212_1)).trans hx212_1
                replace hx212_2 := (HB.out.cell (World.block_lt_of_cell? w _ hx212_2)).trans hx212_2
                replace hx212_3 := (HB.out.cell (World.block_lt_of_cell? w _ hx212_3)).trans hx212_3
                replace hx212_4 := (HB.out.cell (World.block_lt_of_cell? w _ hx212_4)).trans hx212_4
                replace p212 := eq_true p212
                replace q212 := eq_true q212
                go_upto_region 7 with (first | ((with_reducible refine gate_dst (N := 10) rfl ?_); (try (refine gate_guard (by rfl) ?_; dsimp only)); refine box_event ?hg (N := 10) ?hd (cs := #[.int .i64 0, .int .i64 0, .int .i64 0, .int .i64 0, .int .i64 0]) (t := 50) ?hr ?_; (case hd => rfl); (case hg => rfl); (case hr => first | (go_simp; done) | (go_simp; rfl)); intro gb213 hg w15 hbox hb; have n0_ := Aside0.mk (below_step (by repeat (first | (with_reducible first | exact HB.out | apply below_alloc | apply pw_below_drewN | apply below_drew1) | exact HB.out)) hb); have n1_ := Aside0.mk (hbox); have n2_ := Aside0.mk ((by rw [hg]; exact (below_size (by repeat (first | (with_reducible first | exact HB.out | apply below_alloc | apply pw_below_drewN | apply below_drew1) | exact HB.out))) : w.heap.size ≤ gb213)); have n3_ := Aside0.mk ((by rw [hg]; exact (below_size (by repeat (first | (with_reducible first | exact HB.out | apply below_alloc | apply pw_below_drewN | apply below_drew1) | exact HB.out))) : w.heap.size ≤ gb213)); clear HB; have HB := n0_; have BK213 := n1_; have GW213 := n2_; have GE213 := n3_; clear n0_ n1_ n2_ n3_; clear hb hbox hg; have hcz16_0 : w15.cell? ⟨gb213, 0, none⟩ = some (.int .i64 0) := (blk_cell BK213.out 0).trans rfl; have hcz16_1 : w15.cell? ⟨gb213, 1, none⟩ = some (.int .i64 0) := (blk_cell BK213.out 1).trans rfl; have hcz16_2 : w15.cell? ⟨gb213, 2, none⟩ = some (.int .i64 0) := (blk_cell BK213.out 2).trans rfl; have hcz16_3 : w15.cell? ⟨gb213, 3, none⟩ = some (.int .i64 0) := (blk_cell BK213.out 3).trans rfl; have hcz16_4 : w15.cell? ⟨gb213, 4, none⟩ = some (.int .i64 0) := (blk_cell BK213.out 4).trans rfl; have hfz16_0 := blk_frozen BK213.out 0; have hfz16_1 := blk_frozen BK213.out 1; have hfz16_2 := blk_frozen BK213.out 2; have hfz16_3 := blk_frozen BK213.out 3; have hfz16_4 := blk_frozen BK213.out 4))
                (try simp only [Act.put, List.setIfInBounds_toArray, List.set_cons_zero, List.set_cons_succ])
                go_cut [62] (fun v62 wc => ∃ (kq : Nat) (x62_13 : Bool), v62 = .bool x62_13 ∧ Aside0 (slotmeshref17_Valid.j2 kq l0 l1 x9_2 x62_13 ((rd_T50 l0 x9_2).f0) ((rd_T50 l0 x9_2).f1) ((rd_T50 l0 x9_2).f2) ((rd_T50 l0 x9_2).f3.f0) ((rd_T50 l0 x9_2).f3.f1) = some r) ∧ Aside0 (kq ≤ k2) ∧ Aside0 (wc.heap[gb213]? = some (.cells #[.int .i64 ((rd_T50 l0 x9_2).f0), .int .i64 ((rd_T50 l0 x9_2).f1), .int .i64 ((rd_T50 l0 x9_2).f2), .int .i64 ((rd_T50 l0 x9_2).f3.f0), .int .i64 ((rd_T50 l0 x9_2).f3.f1)] 50 (0, 0))) ∧ Aside0 (Below w.heap.size w wc))
                case first =>
                  have H := HC14.out
                  clear HC14
                  by_cases c17 : x9_2 < (l1.length : Int)
                  · rw [if_pos c17] at H
                    have c17b0 : decide (x9_2 < (l1.length : Int)) = true := decide_eq_true c17
                    clear c17
                    (first | rw [c17b0] | (simp only [i64_w, i32_w]; rw [c17b0]) | skip)
                    replace H := Option.bind_eq_some_iff.mp H
                    obtain ⟨t215, A180, H⟩ := H
                    replace H : (if t215 = true then (if ((rd_T50 l0 x9_2).f0) < 0 then (slotmeshref17_Valid.j2 k2 l0 l1 x9_2 true ((rd_T50 l0 x9_2).f0) ((rd_T50 l0 x9_2).f1) ((rd_T50 l0 x9_2).f2) ((rd_T50 l0 x9_2).f3.f0) ((rd_T50 l0 x9_2).f3.f1)) else (slotmeshref17_Valid.j2 k2 l0 l1 x9_2 (decide (((rd_T50 l0 x9_2).f0) > 2)) ((rd_T50 l0 x9_2).f0) ((rd_T50 l0 x9_2).f1) ((rd_T50 l0 x9_2).f2) ((rd_T50 l0 x9_2).f3.f0) ((rd_T50 l0 x9_2).f3.f1))) else (slotmeshref17_Valid.j2 k2 l0 l1 x9_2 true ((rd_T50 l0 x9_2).f0) ((rd_T50 l0 x9_2).f1) ((rd_T50 l0 x9_2).f2) ((rd_T50 l0 x9_2).f3.f0) ((rd_T50 l0 x9_2).f3.f1))) = some r := H
                    have A18 := Aside0.mk A180
                    clear A180
                    by_cases c19 : t215 = true
                    · subst c19
                      have H1 : (if ((rd_T50 l0 x9_2).f0) < 0 then (slotmeshref17_Valid.j2 k2 l0 l1 x9_2 true ((rd_T50 l0 x9_2).f0) ((rd_T50 l0 x9_2).f1) ((rd_T50 l0 x9_2).f2) ((rd_T50 l0 x9_2).f3.f0) ((rd_T50 l0 x9_2).f3.f1)) else (slotmeshref17_Valid.j2 k2 l0 l1 x9_2 (decide (((rd_T50 l0 x9_2).f0) > 2)) ((rd_T50 l0 x9_2).f0) ((rd_T50 l0 x9_2).f1) ((rd_T50 l0 x9_2).f2) ((rd_T50 l0 x9_2).f3.f0) ((rd_T50 l0 x9_2).f3.f1))) = some r := by rw [if_pos rfl] at H; exact H
                      clear H
                      have H := H1
                      clear H1
                      by_cases c20 : ((rd_T50 l0 x9_2).f0) < 0
                      · rw [if_pos c20] at H
                        have c20b0 : decide (((rd_T50 l0 x9_2).f0) < 0) = true := decide_eq_true c20
                        clear c20
                        have H' := Aside0.mk H
                        clear H
                        have p214 : 0 ≤ (x9_2 : Int) := of_decide_eq_true (by first | (with_reducible assumption) | assumption)
                        have q214 : x9_2 < (l1.length : Int) := of_decide_eq_true (by first | (with_reducible assumption) | assumption)
                        obtain ⟨ad214, e214, hx214_0, hx214_1⟩ := at_T25 HR1.out x9_2 p214 q214
                        cases e214
                        have hn214_0 : ad214.block ≠ gb213 := Nat.ne_of_lt (Nat.lt_of_lt_of_le (by have := World.block_lt_of_cell? _ _ hx214_0; first | rwa [add_block] at this | exact this) GW213.out)
                        have hn214_1 : ad214.block ≠ gb213 := Nat.ne_of_lt (Nat.lt_of_lt_of_le (by have := World.block_lt_of_cell? _ _ hx214_0; first | rwa [add_block] at this | exact this) GW213.out)
                        have hn214_2 : ad214.block ≠ gb213 := Nat.ne_of_lt (Nat.lt_of_lt_of_le (by have := World.block_lt_of_cell? _ _ hx214_0; first | rwa [add_block] at this | exact this) GW213.out)
                        have hn214_3 : ad214.block ≠ gb213 := Nat.ne_of_lt (Nat.lt_of_lt_of_le (by have := World.block_lt_of_cell? _ _ hx214_0; first | rwa [add_block] at this | exact this) GW213.out)
                        have hn214_4 : ad214.block ≠ gb213 := Nat.ne_of_lt (Nat.lt_of_lt_of_le (by have := World.block_lt_of_cell? _ _ hx214_0; first | rwa [add_block] at this | exact this) GW213.out)
                        replace hx214_0 := (HB.out.cell (World.block_lt_of_cell? w _ hx214_0)).trans hx214_0
                        replace hx214_1 := (HB.out.cell (World.block_lt_of_cell? w _ hx214_1)).trans hx214_1
                        replace hx214_0 := (cell_far (p := ⟨gb213, 0, none⟩) (by first | (rw [add_block]; exact hn214_0) | (show (Addr.add _ _).block ≠ _; rw [add_block]; exact hn214_0) | exact hn214_0) (.int .i64 ((rd_T50 l0 x9_2).f0))).trans hx214_0
                        replace hx214_1 := (cell_far (p := ⟨gb213, 0, none⟩) (by first | (rw [add_block]; exact hn214_0) | (show (Addr.add _ _).block ≠ _; rw [add_block]; exact hn214_0) | exact hn214_0) (.int .i64 ((rd_T50 l0 x9_2).f0))).trans hx214_1
                        replace hx214_0 := (cell_far (p := ⟨gb213, 1, none⟩) (by first | (rw [add_block]; exact hn214_1) | (show (Addr.add _ _).block ≠ _; rw [add_block]; exact hn214_1) | exact hn214_1) (.int .i64 ((rd_T50 l0 x9_2).f1))).trans hx214_0
                        replace hx214_1 := (cell_far (p := ⟨gb213, 1, none⟩) (by first | (rw [add_block]; exact hn214_1) | (show (Addr.add _ _).block ≠ _; rw [add_block]; exact hn214_1) | exact hn214_1) (.int .i64 ((rd_T50 l0 x9_2).f1))).trans hx214_1
                        replace hx214_0 := (cell_far (p := ⟨gb213, 2, none⟩) (by first | (rw [add_block]; exact hn214_2) | (show (Addr.add _ _).block ≠ _; rw [add_block]; exact hn214_2) | exact hn214_2) (.int .i64 ((rd_T50 l0 x9_2).f2))).trans hx214_0
                        replace hx214_1 := (cell_far (p := ⟨gb213, 2, none⟩) (by first | (rw [add_block]; exact hn214_2) | (show (Addr.add _ _).block ≠ _; rw [add_block]; exact hn214_2) | exact hn214_2) (.int .i64 ((rd_T50 l0 x9_2).f2))).trans hx214_1
                        replace hx214_0 := (cell_far (p := ⟨gb213, 3, none⟩) (by first | (rw [add_block]; exact hn214_3) | (show (Addr.add _ _).block ≠ _; rw [add_block]; exact hn214_3) | exact hn214_3) (.int .i64 ((rd_T50 l0 x9_2).f3.f0))).trans hx214_0
                        replace hx214_1 := (cell_far (p := ⟨gb213, 3, none⟩) (by first | (rw [add_block]; exact hn214_3) | (show (Addr.add _ _).block ≠ _; rw [add_block]; exact hn214_3) | exact hn214_3) (.int .i64 ((rd_T50 l0 x9_2).f3.f0))).trans hx214_1
                        replace hx214_0 := (cell_far (p := ⟨gb213, 4, none⟩) (by first | (rw [add_block]; exact hn214_4) | (show (Addr.add _ _).block ≠ _; rw [add_block]; exact hn214_4) | exact hn214_4) (.int .i64 ((rd_T50 l0 x9_2).f3.f1))).trans hx214_0
                        replace hx214_1 := (cell_far (p := ⟨gb213, 4, none⟩) (by first | (rw [add_block]; exact hn214_4) | (show (Addr.add _ _).block ≠ _; rw [add_block]; exact hn214_4) | exact hn214_4) (.int .i64 ((rd_T50 l0 x9_2).f3.f1))).trans hx214_1
                        clear hn214_0
                        clear hn214_1
                        clear hn214_2
                        clear hn214_3
                        clear hn214_4
                        replace p214 := eq_true p214
                        replace q214 := eq_true q214
                        go_wp2_with (first | ((with_reducible refine gate_callee (f := 26) rfl ?_); refine goesL_ (some 51) rfl rfl Try.func26 (by kernel_rfl) rfl #[.agg #[.int .i64 ((rd_T25 l1 x9_2).f0), .int .i64 ((rd_T25 l1 x9_2).f1)]] rfl (by (try simp only [List.map_toArray, List.map_cons, List.map_nil]); first | done | rfl | (simp only [List.length_drop, List.length_take]; rfl)) ?_; (with_reducible refine (slotmeshref16_Valid.calls ((rd_T25 l1 x9_2).f0) ((rd_T25 l1 x9_2).f1) true _ A18.out).mono ?_); rintro e w21 ⟨rfl, hb⟩; refine ⟨_, rfl, ?_⟩; have n0_ := Aside0.mk (blk_below (g := gb213) (o := .cells #[.int .i64 ((rd_T50 l0 x9_2).f0), .int .i64 ((rd_T50 l0 x9_2).f1), .int .i64 ((rd_T50 l0 x9_2).f2), .int .i64 ((rd_T50 l0 x9_2).f3.f0), .int .i64 ((rd_T50 l0 x9_2).f3.f1)] 50 (0, 0)) (by (with_reducible repeat (first | refine blk_drewN ?_ _ | refine blk_drew ?_ | refine blk_alloc ?_ _)); refine blk_put (cs := #[.int .i64 ((rd_T50 l0 x9_2).f0), .int .i64 ((rd_T50 l0 x9_2).f1), .int .i64 ((rd_T50 l0 x9_2).f2), .int .i64 ((rd_T50 l0 x9_2).f3.f0), .int .i64 0]) ?_ 4 _ rfl; (with_reducible repeat (first | refine blk_drewN ?_ _ | refine blk_drew ?_ | refine blk_alloc ?_ _)); refine blk_put (cs := #[.int .i64 ((rd_T50 l0 x9_2).f0), .int .i64 ((rd_T50 l0 x9_2).f1), .int .i64 ((rd_T50 l0 x9_2).f2), .int .i64 0, .int .i64 0]) ?_ 3 _ rfl; (with_reducible repeat (first | refine blk_drewN ?_ _ | refine blk_drew ?_ | refine blk_alloc ?_ _)); refine blk_put (cs := #[.int .i64 ((rd_T50 l0 x9_2).f0), .int .i64 ((rd_T50 l0 x9_2).f1), .int .i64 0, .int .i64 0, .int .i64 0]) ?_ 2 _ rfl; (with_reducible repeat (first | refine blk_drewN ?_ _ | refine blk_drew ?_ | refine blk_alloc ?_ _)); refine blk_put (cs := #[.int .i64 ((rd_T50 l0 x9_2).f0), .int .i64 0, .int .i64 0, .int .i64 0, .int .i64 0]) ?_ 1 _ rfl; (with_reducible repeat (first | refine blk_drewN ?_ _ | refine blk_drew ?_ | refine blk_alloc ?_ _)); refine blk_put (cs := #[.int .i64 0, .int .i64 0, .int .i64 0, .int .i64 0, .int .i64 0]) ?_ 0 _ rfl; (with_reducible repeat (first | refine blk_drewN ?_ _ | refine blk_drew ?_ | refine blk_alloc ?_ _)); exact BK213.out) hb); have n1_ := Aside0.mk (below_step (by repeat (first | (with_reducible first | exact HB.out | apply below_alloc | apply pw_below_drewN | apply below_drew1 | refine below_set ?_ GE213.out) | exact HB.out)) hb); clear BK213; clear HB; have BK213 := n0_; have HB := n1_; clear n0_ n1_; (try clear hb); (try clear hb2); (try clear hk); (try clear hi); have hcz22_0 : w21.cell? ⟨gb213, 0, none⟩ = some (.int .i64 ((rd_T50 l0 x9_2).f0)) := (blk_cell BK213.out 0).trans rfl; have hcz22_1 : w21.cell? ⟨gb213, 1, none⟩ = some (.int .i64 ((rd_T50 l0 x9_2).f1)) := (blk_cell BK213.out 1).trans rfl; have hcz22_2 : w21.cell? ⟨gb213, 2, none⟩ = some (.int .i64 ((rd_T50 l0 x9_2).f2)) := (blk_cell BK213.out 2).trans rfl; have hcz22_3 : w21.cell? ⟨gb213, 3, none⟩ = some (.int .i64 ((rd_T50 l0 x9_2).f3.f0)) := (blk_cell BK213.out 3).trans rfl; have hcz22_4 : w21.cell? ⟨gb213, 4, none⟩ = some (.int .i64 ((rd_T50 l0 x9_2).f3.f1)) := (blk_cell BK213.out 4).trans rfl; have hfz22_0 := blk_frozen BK213.out 0; have hfz22_1 := blk_frozen BK213.out 1; have hfz22_2 := blk_frozen BK213.out 2; have hfz22_3 := blk_frozen BK213.out 3; have hfz22_4 := blk_frozen BK213.out 4))
                        go_meet
                        case rel => exact ⟨_, (true), (by first | rfl | (simp; done) | (simp [*]; done)), H', ⟨by have := HJ4.out; have := HK2.out; first | omega | exact Nat.le_refl _⟩, ⟨by (with_reducible repeat (first | refine blk_drewN ?_ _ | refine blk_drew ?_ | refine blk_alloc ?_ _)); exact BK213.out⟩, ⟨by repeat (first | (with_reducible first | exact HB.out | apply below_alloc | apply pw_below_drewN | apply below_drew1 | refine below_set ?_ GE213.out) | exact HB.out)⟩⟩
                      · rw [if_neg c20] at H
                        have c20b0 : decide (((rd_T50 l0 x9_2).f0) < 0) = false := decide_eq_false c20
                        clear c20
                        have H' := Aside0.mk H
                        clear H
                        have p214 : 0 ≤ (x9_2 : Int) := of_decide_eq_true (by first | (with_reducible assumption) | assumption)
                        have q214 : x9_2 < (l1.length : Int) := of_decide_eq_true (by first | (with_reducible assumption) | assumption)
                        obtain ⟨ad214, e214, hx214_0, hx214_1⟩ := at_T25 HR1.out x9_2 p214 q214
                        cases e214
                        have hn214_0 : ad214.block ≠ gb213 := Nat.ne_of_lt (Nat.lt_of_lt_of_le (by have := World.block_lt_of_cell? _ _ hx214_0; first | rwa [add_block] at this | exact this) GW213.out)
                        have hn214_1 : ad214.block ≠ gb213 := Nat.ne_of_lt (Nat.lt_of_lt_of_le (by have := World.block_lt_of_cell? _ _ hx214_0; first | rwa [add_block] at this | exact this) GW213.out)
                        have hn214_2 : ad214.block ≠ gb213 := Nat.ne_of_lt (Nat.lt_of_lt_of_le (by have := World.block_lt_of_cell? _ _ hx214_0; first | rwa [add_block] at this | exact this) GW213.out)
                        have hn214_3 : ad214.block ≠ gb213 := Nat.ne_of_lt (Nat.lt_of_lt_of_le (by have := World.block_lt_of_cell? _ _ hx214_0; first | rwa [add_block] at this | exact this) GW213.out)
                        have hn214_4 : ad214.block ≠ gb213 := Nat.ne_of_lt (Nat.lt_of_lt_of_le (by have := World.block_lt_of_cell? _ _ hx214_0; first | rwa [add_block] at this | exact this) GW213.out)
                        replace hx214_0 := (HB.out.cell (World.block_lt_of_cell? w _ hx214_0)).trans hx214_0
                        replace hx214_1 := (HB.out.cell (World.block_lt_of_cell? w _ hx214_1)).trans hx214_1
                        replace hx214_0 := (cell_far (p := ⟨gb213, 0, none⟩) (by first | (rw [add_block]; exact hn214_0) | (show (Addr.add _ _).block ≠ _; rw [add_block]; exact hn214_0) | exact hn214_0) (.int .i64 ((rd_T50 l0 x9_2).f0))).trans hx214_0
                        replace hx214_1 := (cell_far (p := ⟨gb213, 0, none⟩) (by first | (rw [add_block]; exact hn214_0) | (show (Addr.add _ _).block ≠ _; rw [add_block]; exact hn214_0) | exact hn214_0) (.int .i64 ((rd_T50 l0 x9_2).f0))).trans hx214_1
                        replace hx214_0 := (cell_far (p := ⟨gb213, 1, none⟩) (by first | (rw [add_block]; exact hn214_1) | (show (Addr.add _ _).block ≠ _; rw [add_block]; exact hn214_1) | exact hn214_1) (.int .i64 ((rd_T50 l0 x9_2).f1))).trans hx214_0
                        replace hx214_1 := (cell_far (p := ⟨gb213, 1, none⟩) (by first | (rw [add_block]; exact hn214_1) | (show (Addr.add _ _).block ≠ _; rw [add_block]; exact hn214_1) | exact hn214_1) (.int .i64 ((rd_T50 l0 x9_2).f1))).trans hx214_1
                        replace hx214_0 := (cell_far (p := ⟨gb213, 2, none⟩) (by first | (rw [add_block]; exact hn214_2) | (show (Addr.add _ _).block ≠ _; rw [add_block]; exact hn214_2) | exact hn214_2) (.int .i64 ((rd_T50 l0 x9_2).f2))).trans hx214_0
                        replace hx214_1 := (cell_far (p := ⟨gb213, 2, none⟩) (by first | (rw [add_block]; exact hn214_2) | (show (Addr.add _ _).block ≠ _; rw [add_block]; exact hn214_2) | exact hn214_2) (.int .i64 ((rd_T50 l0 x9_2).f2))).trans hx214_1
                        replace hx214_0 := (cell_far (p := ⟨gb213, 3, none⟩) (by first | (rw [add_block]; exact hn214_3) | (show (Addr.add _ _).block ≠ _; rw [add_block]; exact hn214_3) | exact hn214_3) (.int .i64 ((rd_T50 l0 x9_2).f3.f0))).trans hx214_0
                        replace hx214_1 := (cell_far (p := ⟨gb213, 3, none⟩) (by first | (rw [add_block]; exact hn214_3) | (show (Addr.add _ _).block ≠ _; rw [add_block]; exact hn214_3) | exact hn214_3) (.int .i64 ((rd_T50 l0 x9_2).f3.f0))).trans hx214_1
                        replace hx214_0 := (cell_far (p := ⟨gb213, 4, none⟩) (by first | (rw [add_block]; exact hn214_4) | (show (Addr.add _ _).block ≠ _; rw [add_block]; exact hn214_4) | exact hn214_4) (.int .i64 ((rd_T50 l0 x9_2).f3.f1))).trans hx214_0
                        replace hx214_1 := (cell_far (p := ⟨gb213, 4, none⟩) (by first | (rw [add_block]; exact hn214_4) | (show (Addr.add _ _).block ≠ _; rw [add_block]; exact hn214_4) | exact hn214_4) (.int .i64 ((rd_T50 l0 x9_2).f3.f1))).trans hx214_1
                        clear hn214_0
                        clear hn214_1
                        clear hn214_2
                        clear hn214_3
                        clear hn214_4
                        replace p214 := eq_true p214
                        replace q214 := eq_true q214
                        go_wp2_with (first | ((with_reducible refine gate_callee (f := 26) rfl ?_); refine goesL_ (some 51) rfl rfl Try.func26 (by kernel_rfl) rfl #[.agg #[.int .i64 ((rd_T25 l1 x9_2).f0), .int .i64 ((rd_T25 l1 x9_2).f1)]] rfl (by (try simp only [List.map_toArray, List.map_cons, List.map_nil]); first | done | rfl | (simp only [List.length_drop, List.length_take]; rfl)) ?_; (with_reducible refine (slotmeshref16_Valid.calls ((rd_T25 l1 x9_2).f0) ((rd_T25 l1 x9_2).f1) true _ A18.out).mono ?_); rintro e w23 ⟨rfl, hb⟩; refine ⟨_, rfl, ?_⟩; have n0_ := Aside0.mk (blk_below (g := gb213) (o := .cells #[.int .i64 ((rd_T50 l0 x9_2).f0), .int .i64 ((rd_T50 l0 x9_2).f1), .int .i64 ((rd_T50 l0 x9_2).f2), .int .i64 ((rd_T50 l0 x9_2).f3.f0), .int .i64 ((rd_T50 l0 x9_2).f3.f1)] 50 (0, 0)) (by (with_reducible repeat (first | refine blk_drewN ?_ _ | refine blk_drew ?_ | refine blk_alloc ?_ _)); refine blk_put (cs := #[.int .i64 ((rd_T50 l0 x9_2).f0), .int .i64 ((rd_T50 l0 x9_2).f1), .int .i64 ((rd_T50 l0 x9_2).f2), .int .i64 ((rd_T50 l0 x9_2).f3.f0), .int .i64 0]) ?_ 4 _ rfl; (with_reducible repeat (first | refine blk_drewN ?_ _ | refine blk_drew ?_ | refine blk_alloc ?_ _)); refine blk_put (cs := #[.int .i64 ((rd_T50 l0 x9_2).f0), .int .i64 ((rd_T50 l0 x9_2).f1), .int .i64 ((rd_T50 l0 x9_2).f2), .int .i64 0, .int .i64 0]) ?_ 3 _ rfl; (with_reducible repeat (first | refine blk_drewN ?_ _ | refine blk_drew ?_ | refine blk_alloc ?_ _)); refine blk_put (cs := #[.int .i64 ((rd_T50 l0 x9_2).f0), .int .i64 ((rd_T50 l0 x9_2).f1), .int .i64 0, .int .i64 0, .int .i64 0]) ?_ 2 _ rfl; (with_reducible repeat (first | refine blk_drewN ?_ _ | refine blk_drew ?_ | refine blk_alloc ?_ _)); refine blk_put (cs := #[.int .i64 ((rd_T50 l0 x9_2).f0), .int .i64 0, .int .i64 0, .int .i64 0, .int .i64 0]) ?_ 1 _ rfl; (with_reducible repeat (first | refine blk_drewN ?_ _ | refine blk_drew ?_ | refine blk_alloc ?_ _)); refine blk_put (cs := #[.int .i64 0, .int .i64 0, .int .i64 0, .int .i64 0, .int .i64 0]) ?_ 0 _ rfl; (with_reducible repeat (first | refine blk_drewN ?_ _ | refine blk_drew ?_ | refine blk_alloc ?_ _)); exact BK213.out) hb); have n1_ := Aside0.mk (below_step (by repeat (first | (with_reducible first | exact HB.out | apply below_alloc | apply pw_below_drewN | apply below_drew1 | refine below_set ?_ GE213.out) | exact HB.out)) hb); clear BK213; clear HB; have BK213 := n0_; have HB := n1_; clear n0_ n1_; (try clear hb); (try clear hb2); (try clear hk); (try clear hi); have hcz24_0 : w23.cell? ⟨gb213, 0, none⟩ = some (.int .i64 ((rd_T50 l0 x9_2).f0)) := (blk_cell BK213.out 0).trans rfl; have hcz24_1 : w23.cell? ⟨gb213, 1, none⟩ = some (.int .i64 ((rd_T50 l0 x9_2).f1)) := (blk_cell BK213.out 1).trans rfl; have hcz24_2 : w23.cell? ⟨gb213, 2, none⟩ = some (.int .i64 ((rd_T50 l0 x9_2).f2)) := (blk_cell BK213.out 2).trans rfl; have hcz24_3 : w23.cell? ⟨gb213, 3, none⟩ = some (.int .i64 ((rd_T50 l0 x9_2).f3.f0)) := (blk_cell BK213.out 3).trans rfl; have hcz24_4 : w23.cell? ⟨gb213, 4, none⟩ = some (.int .i64 ((rd_T50 l0 x9_2).f3.f1)) := (blk_cell BK213.out 4).trans rfl; have hfz24_0 := blk_frozen BK213.out 0; have hfz24_1 := blk_frozen BK213.out 1; have hfz24_2 := blk_frozen BK213.out 2; have hfz24_3 := blk_frozen BK213.out 3; have hfz24_4 := blk_frozen BK213.out 4))
                        go_meet
                        case rel => exact ⟨_, (decide (((rd_T50 l0 x9_2).f0) > 2)), (by first | rfl | (simp; done) | (simp [*]; done)), H', ⟨by have := HJ4.out; have := HK2.out; first | omega | exact Nat.le_refl _⟩, ⟨by (with_reducible repeat (first | refine blk_drewN ?_ _ | refine blk_drew ?_ | refine blk_alloc ?_ _)); exact BK213.out⟩, ⟨by repeat (first | (with_reducible first | exact HB.out | apply below_alloc | apply pw_below_drewN | apply below_drew1 | refine below_set ?_ GE213.out) | exact HB.out)⟩⟩
                    · replace c19 := Bool.eq_false_iff.mpr c19
                      subst c19
                      have H1 : (slotmeshref17_Valid.j2 k2 l0 l1 x9_2 true ((rd_T50 l0 x9_2).f0) ((rd_T50 l0 x9_2).f1) ((rd_T50 l0 x9_2).f2) ((rd_T50 l0 x9_2).f3.f0) ((rd_T50 l0 x9_2).f3.f1)) = some r := by rw [if_neg (show ¬ (false = true) by decide)] at H; exact H
                      clear H
                      have H := H1
                      clear H1
                      have H' := Aside0.mk H
                      clear H
                      have p214 : 0 ≤ (x9_2 : Int) := of_decide_eq_true (by first | (with_reducible assumption) | assumption)
                      have q214 : x9_2 < (l1.length : Int) := of_decide_eq_true (by first | (with_reducible assumption) | assumption)
                      obtain ⟨ad214, e214, hx214_0, hx214_1⟩ := at_T25 HR1.out x9_2 p214 q214
                      cases e214
                      have hn214_0 : ad214.block ≠ gb213 := Nat.ne_of_lt (Nat.lt_of_lt_of_le (by have := World.block_lt_of_cell? _ _ hx214_0; first | rwa [add_block] at this | exact this) GW213.out)
                      have hn214_1 : ad214.block ≠ gb213 := Nat.ne_of_lt (Nat.lt_of_lt_of_le (by have := World.block_lt_of_cell? _ _ hx214_0; first | rwa [add_block] at this | exact this) GW213.out)
                      have hn214_2 : ad214.block ≠ gb213 := Nat.ne_of_lt (Nat.lt_of_lt_of_le (by have := World.block_lt_of_cell? _ _ hx214_0; first | rwa [add_block] at this | exact this) GW213.out)
                      have hn214_3 : ad214.block ≠ gb213 := Nat.ne_of_lt (Nat.lt_of_lt_of_le (by have := World.block_lt_of_cell? _ _ hx214_0; first | rwa [add_block] at this | exact this) GW213.out)
                      have hn214_4 : ad214.block ≠ gb213 := Nat.ne_of_lt (Nat.lt_of_lt_of_le (by have := World.block_lt_of_cell? _ _ hx214_0; first | rwa [add_block] at this | exact this) GW213.out)
                      replace hx214_0 := (HB.out.cell (World.block_lt_of_cell? w _ hx214_0)).trans hx214_0
                      replace hx214_1 := (HB.out.cell (World.block_lt_of_cell? w _ hx214_1)).trans hx214_1
                      replace hx214_0 := (cell_far (p := ⟨gb213, 0, none⟩) (by first | (rw [add_block]; exact hn214_0) | (show (Addr.add _ _).block ≠ _; rw [add_block]; exact hn214_0) | exact hn214_0) (.int .i64 ((rd_T50 l0 x9_2).f0))).trans hx214_0
                      replace hx214_1 := (cell_far (p := ⟨gb213, 0, none⟩) (by first | (rw [add_block]; exact hn214_0) | (show (Addr.add _ _).block ≠ _; rw [add_block]; exact hn214_0) | exact hn214_0) (.int .i64 ((rd_T50 l0 x9_2).f0))).trans hx214_1
                      replace hx214_0 := (cell_far (p := ⟨gb213, 1, none⟩) (by first | (rw [add_block]; exact hn214_1) | (show (Addr.add _ _).block ≠ _; rw [add_block]; exact hn214_1) | exact hn214_1) (.int .i64 ((rd_T50 l0 x9_2).f1))).trans hx214_0
                      replace hx214_1 := (cell_far (p := ⟨gb213, 1, none⟩) (by first | (rw [add_block]; exact hn214_1) | (show (Addr.add _ _).block ≠ _; rw [add_block]; exact hn214_1) | exact hn214_1) (.int .i64 ((rd_T50 l0 x9_2).f1))).trans hx214_1
                      replace hx214_0 := (cell_far (p := ⟨gb213, 2, none⟩) (by first | (rw [add_block]; exact hn214_2) | (show (Addr.add _ _).block ≠ _; rw [add_block]; exact hn214_2) | exact hn214_2) (.int .i64 ((rd_T50 l0 x9_2).f2))).trans hx214_0
                      replace hx214_1 := (cell_far (p := ⟨gb213, 2, none⟩) (by first | (rw [add_block]; exact hn214_2) | (show (Addr.add _ _).block ≠ _; rw [add_block]; exact hn214_2) | exact hn214_2) (.int .i64 ((rd_T50 l0 x9_2).f2))).trans hx214_1
                      replace hx214_0 := (cell_far (p := ⟨gb213, 3, none⟩) (by first | (rw [add_block]; exact hn214_3) | (show (Addr.add _ _).block ≠ _; rw [add_block]; exact hn214_3) | exact hn214_3) (.int .i64 ((rd_T50 l0 x9_2).f3.f0))).trans hx214_0
                      replace hx214_1 := (cell_far (p := ⟨gb213, 3, none⟩) (by first | (rw [add_block]; exact hn214_3) | (show (Addr.add _ _).block ≠ _; rw [add_block]; exact hn214_3) | exact hn214_3) (.int .i64 ((rd_T50 l0 x9_2).f3.f0))).trans hx214_1
                      replace hx214_0 := (cell_far (p := ⟨gb213, 4, none⟩) (by first | (rw [add_block]; exact hn214_4) | (show (Addr.add _ _).block ≠ _; rw [add_block]; exact hn214_4) | exact hn214_4) (.int .i64 ((rd_T50 l0 x9_2).f3.f1))).trans hx214_0
                      replace hx214_1 := (cell_far (p := ⟨gb213, 4, none⟩) (by first | (rw [add_block]; exact hn214_4) | (show (Addr.add _ _).block ≠ _; rw [add_block]; exact hn214_4) | exact hn214_4) (.int .i64 ((rd_T50 l0 x9_2).f3.f1))).trans hx214_1
                      clear hn214_0
                      clear hn214_1
                      clear hn214_2
                      clear hn214_3
                      clear hn214_4
                      replace p214 := eq_true p214
                      replace q214 := eq_true q214
                      go_wp2_with (first | ((with_reducible refine gate_callee (f := 26) rfl ?_); refine goesL_ (some 51) rfl rfl Try.func26 (by kernel_rfl) rfl #[.agg #[.int .i64 ((rd_T25 l1 x9_2).f0), .int .i64 ((rd_T25 l1 x9_2).f1)]] rfl (by (try simp only [List.map_toArray, List.map_cons, List.map_nil]); first | done | rfl | (simp only [List.length_drop, List.length_take]; rfl)) ?_; (with_reducible refine (slotmeshref16_Valid.calls ((rd_T25 l1 x9_2).f0) ((rd_T25 l1 x9_2).f1) false _ A18.out).mono ?_); rintro e w25 ⟨rfl, hb⟩; refine ⟨_, rfl, ?_⟩; have n0_ := Aside0.mk (blk_below (g := gb213) (o := .cells #[.int .i64 ((rd_T50 l0 x9_2).f0), .int .i64 ((rd_T50 l0 x9_2).f1), .int .i64 ((rd_T50 l0 x9_2).f2), .int .i64 ((rd_T50 l0 x9_2).f3.f0), .int .i64 ((rd_T50 l0 x9_2).f3.f1)] 50 (0, 0)) (by (with_reducible repeat (first | refine blk_drewN ?_ _ | refine blk_drew ?_ | refine blk_alloc ?_ _)); refine blk_put (cs := #[.int .i64 ((rd_T50 l0 x9_2).f0), .int .i64 ((rd_T50 l0 x9_2).f1), .int .i64 ((rd_T50 l0 x9_2).f2), .int .i64 ((rd_T50 l0 x9_2).f3.f0), .int .i64 0]) ?_ 4 _ rfl; (with_reducible repeat (first | refine blk_drewN ?_ _ | refine blk_drew ?_ | refine blk_alloc ?_ _)); refine blk_put (cs := #[.int .i64 ((rd_T50 l0 x9_2).f0), .int .i64 ((rd_T50 l0 x9_2).f1), .int .i64 ((rd_T50 l0 x9_2).f2), .int .i64 0, .int .i64 0]) ?_ 3 _ rfl; (with_reducible repeat (first | refine blk_drewN ?_ _ | refine blk_drew ?_ | refine blk_alloc ?_ _)); refine blk_put (cs := #[.int .i64 ((rd_T50 l0 x9_2).f0), .int .i64 ((rd_T50 l0 x9_2).f1), .int .i64 0, .int .i64 0, .int .i64 0]) ?_ 2 _ rfl; (with_reducible repeat (first | refine blk_drewN ?_ _ | refine blk_drew ?_ | refine blk_alloc ?_ _)); refine blk_put (cs := #[.int .i64 ((rd_T50 l0 x9_2).f0), .int .i64 0, .int .i64 0, .int .i64 0, .int .i64 0]) ?_ 1 _ rfl; (with_reducible repeat (first | refine blk_drewN ?_ _ | refine blk_drew ?_ | refine blk_alloc ?_ _)); refine blk_put (cs := #[.int .i64 0, .int .i64 0, .int .i64 0, .int .i64 0, .int .i64 0]) ?_ 0 _ rfl; (with_reducible repeat (first | refine blk_drewN ?_ _ | refine blk_drew ?_ | refine blk_alloc ?_ _)); exact BK213.out) hb); have n1_ := Aside0.mk (below_step (by repeat (first | (with_reducible first | exact HB.out | apply below_alloc | apply pw_below_drewN | apply below_drew1 | refine below_set ?_ GE213.out) | exact HB.out)) hb); clear BK213; clear HB; have BK213 := n0_; have HB := n1_; clear n0_ n1_; (try clear hb); (try clear hb2); (try clear hk); (try clear hi)))
                      go_meet
                      case rel => exact ⟨_, (true), (by first | rfl | (simp; done) | (simp [*]; done)), H', ⟨by have := HJ4.out; have := HK2.out; first | omega | exact Nat.le_refl _⟩, ⟨by (with_reducible repeat (first | refine blk_drewN ?_ _ | refine blk_drew ?_ | refine blk_alloc ?_ _)); exact BK213.out⟩, ⟨by repeat (first | (with_reducible first | exact HB.out | apply below_alloc | apply pw_below_drewN | apply below_drew1 | refine below_set ?_ GE213.out) | exact HB.out)⟩⟩
                  · rw [if_neg c17] at H
                    exact absurd H (by simp)
                case rest =>
                  clear HC14
                  try clear c1
                  try clear c2
                  try clear p2
                  try clear q2
                  try clear hx2
                  try clear c4
                  try clear c6
                  try clear c6b0
                  try clear c6b1
                  try clear c6b2
                  try clear c7
                  try clear c7b0
                  try clear c7b1
                  try clear c8
                  try clear c8b0
                  try clear c9
                  try clear c9b0
                  try clear c10
                  try clear c10b0
                  try clear c11
                  try clear c12
                  try clear c12b0
                  try clear c13
                  try clear c13b0
                  try clear c17
                  try clear c17b0
                  try clear c19
                  try clear c20
                  try clear c20b0
                  try clear p21
                  try clear q21
                  try clear hx21
                  try clear hcz16_0
                  try clear hcz16_1
                  try clear hcz16_2
                  try clear hcz16_3
                  try clear hcz16_4
                  try clear hcz22_0
                  try clear hcz22_1
                  try clear hcz22_2
                  try clear hcz22_3
                  try clear hcz22_4
                  try clear hcz24_0
                  try clear hcz24_1
                  try clear hcz24_2
                  try clear hcz24_3
                  try clear hcz24_4
                  try clear hfz16_0
                  try clear hfz16_1
                  try clear hfz16_2
                  try clear hfz16_3
                  try clear hfz16_4
                  try clear hfz22_0
                  try clear hfz22_1
                  try clear hfz22_2
                  try clear hfz22_3
                  try clear hfz22_4
                  try clear hfz24_0
                  try clear hfz24_1
                  try clear hfz24_2
                  try clear hfz24_3
                  try clear hfz24_4
                  try clear hx212_0
                  try clear hx212_1
                  try clear hx212_2
                  try clear hx212_3
                  try clear hx212_4
                  try clear hx214_0
                  try clear hx214_1
                  try clear p2
                  try clear p212
                  try clear p214
                  try clear q212
                  try clear q214
                  obtain ⟨kq, x62_13, rfl, HA, HJ13, BK213, HB⟩ := hcut
                  cases kq with
                  | zero => exact absurd HA.out (by simp [slotmeshref17_Valid.j2])
                  | succ kj13 =>
                    have H := HA.out
                    clear HA
                    simp only [slotmeshref17_Valid.j2] at H
                    by_cases c26 : x62_13 = true
                    · subst c26
                      have H1 : (some false) = some r := by rw [if_pos rfl] at H; exact H
                      clear H
                      have H := H1
                      clear H1
                      obtain rfl := Option.some.inj H
                      go_wp2
                      go_ret
                      exact ⟨by first | rfl | (simp [errW_none, errW_some] <;> rfl) | (simp [*, errW_none, errW_some] <;> rfl), by repeat (first | (with_reducible first | exact HB.out | apply below_alloc | apply pw_below_drewN | apply below_drew1 | refine below_set ?_ GE213.out) | exact HB.out)⟩
                    · replace c26 := Bool.eq_false_iff.mpr c26
                      subst c26
                      have H1 : (if ((rd_T50 l0 x9_2).f0) = 0 then (slotmeshref17_Valid.l0 kj13 l0 l1 (wrap64 (x9_2 + 1))) else (if ((rd_T50 l0 x9_2).f1) < 0 then (some false) else (if ((rd_T50 l0 x9_2).f1) ≥ 16 then (some false) else (slotmeshref17_Valid.l0 kj13 l0 l1 (wrap64 (x9_2 + 1)))))) = some r := by rw [if_neg (show ¬ (false = true) by decide)] at H; exact H
                      clear H
                      have H := H1
                      clear H1
                      by_cases c27 : ((rd_T50 l0 x9_2).f0) = 0
                      · rw [if_pos c27] at H
                        have c27b0 : (((rd_T50 l0 x9_2).f0) == 0) = true := beq_iff_eq.mpr c27
                        have c27b1 : (((rd_T50 l0 x9_2).f0) != 0) = false := bne_eq_false_iff_eq.mpr c27
                        clear c27
                        have H' := Aside0.mk H
                        clear H
                        have hcz28_0 : wc.cell? ⟨gb213, 0, none⟩ = some (.int .i64 ((rd_T50 l0 x9_2).f0)) := (blk_cell BK213.out 0).trans rfl
                        have hcz28_1 : wc.cell? ⟨gb213, 1, none⟩ = some (.int .i64 ((rd_T50 l0 x9_2).f1)) := (blk_cell BK213.out 1).trans rfl
                        have hcz28_2 : wc.cell? ⟨gb213, 2, none⟩ = some (.int .i64 ((rd_T50 l0 x9_2).f2)) := (blk_cell BK213.out 2).trans rfl
                        have hcz28_3 : wc.cell? ⟨gb213, 3, none⟩ = some (.int .i64 ((rd_T50 l0 x9_2).f3.f0)) := (blk_cell BK213.out 3).trans rfl
                        have hcz28_4 : wc.cell? ⟨gb213, 4, none⟩ = some (.int .i64 ((rd_T50 l0 x9_2).f3.f1)) := (blk_cell BK213.out 4).trans rfl
                        have hfz28_0 := blk_frozen BK213.out 0
                        have hfz28_1 := blk_frozen BK213.out 1
                        have hfz28_2 := blk_frozen BK213.out 2
                        have hfz28_3 := blk_frozen BK213.out 3
                        have hfz28_4 := blk_frozen BK213.out 4
                        go_wp2
                        go_roundg kj13
                        case measure => have := HJ4.out; have := HK2.out; have := HJ13.out; omega
                        case rel => exact ⟨(wrap64 (x9_2 + 1)), (by first | rfl | (simp; done) | (simp [*]; done)), H', ⟨by have := HJ4.out; have := HK2.out; have := HJ13.out; omega⟩, ⟨by repeat (first | (with_reducible first | exact HB.out | apply below_alloc | apply pw_below_drewN | apply below_drew1 | refine below_set ?_ GE213.out) | exact HB.out)⟩⟩
                      · rw [if_neg c27] at H
                        have c27b0 : (((rd_T50 l0 x9_2).f0) == 0) = false := beq_eq_false_iff_ne.mpr c27
                        have c27b1 : (((rd_T50 l0 x9_2).f0) != 0) = true := bne_iff_ne.mpr c27
                        by_cases c29 : ((rd_T50 l0 x9_2).f1) < 0
                        · rw [if_pos c29] at H
                          have c29b0 : decide (((rd_T50 l0 x9_2).f1) < 0) = true := decide_eq_true c29
                          clear c29
                          obtain rfl := Option.some.inj H
                          have hcz30_0 : wc.cell? ⟨gb213, 0, none⟩ = some (.int .i64 ((rd_T50 l0 x9_2).f0)) := (blk_cell BK213.out 0).trans rfl
                          have hcz30_1 : wc.cell? ⟨gb213, 1, none⟩ = some (.int .i64 ((rd_T50 l0 x9_2).f1)) := (blk_cell BK213.out 1).trans rfl
                          have hcz30_2 : wc.cell? ⟨gb213, 2, none⟩ = some (.int .i64 ((rd_T50 l0 x9_2).f2)) := (blk_cell BK213.out 2).trans rfl
                          have hcz30_3 : wc.cell? ⟨gb213, 3, none⟩ = some (.int .i64 ((rd_T50 l0 x9_2).f3.f0)) := (blk_cell BK213.out 3).trans rfl
                          have hcz30_4 : wc.cell? ⟨gb213, 4, none⟩ = some (.int .i64 ((rd_T50 l0 x9_2).f3.f1)) := (blk_cell BK213.out 4).trans rfl
                          have hfz30_0 := blk_frozen BK213.out 0
                          have hfz30_1 := blk_frozen BK213.out 1
                          have hfz30_2 := blk_frozen BK213.out 2
                          have hfz30_3 := blk_frozen BK213.out 3
                          have hfz30_4 := blk_frozen BK213.out 4
                          go_wp2
                          go_ret
                          exact ⟨by first | rfl | (simp [errW_none, errW_some] <;> rfl) | (simp [*, errW_none, errW_some] <;> rfl), by repeat (first | (with_reducible first | exact HB.out | apply below_alloc | apply pw_below_drewN | apply below_drew1 | refine below_set ?_ GE213.out) | exact HB.out)⟩
                        · rw [if_neg c29] at H
                          have c29b0 : decide (((rd_T50 l0 x9_2).f1) < 0) = false := decide_eq_false c29
                          clear c29
                          by_cases c31 : ((rd_T50 l0 x9_2).f1) ≥ 16
                          · rw [if_pos c31] at H
                            have c31b0 : decide (16 ≤ ((rd_T50 l0 x9_2).f1)) = true := decide_eq_true c31
                            clear c31
                            obtain rfl := Option.some.inj H
                            have hcz32_0 : wc.cell? ⟨gb213, 0, none⟩ = some (.int .i64 ((rd_T50 l0 x9_2).f0)) := (blk_cell BK213.out 0).trans rfl
                            have hcz32_1 : wc.cell? ⟨gb213, 1, none⟩ = some (.int .i64 ((rd_T50 l0 x9_2).f1)) := (blk_cell BK213.out 1).trans rfl
                            have hcz32_2 : wc.cell? ⟨gb213, 2, none⟩ = some (.int .i64 ((rd_T50 l0 x9_2).f2)) := (blk_cell BK213.out 2).trans rfl
                            have hcz32_3 : wc.cell? ⟨gb213, 3, none⟩ = some (.int .i64 ((rd_T50 l0 x9_2).f3.f0)) := (blk_cell BK213.out 3).trans rfl
                            have hcz32_4 : wc.cell? ⟨gb213, 4, none⟩ = some (.int .i64 ((rd_T50 l0 x9_2).f3.f1)) := (blk_cell BK213.out 4).trans rfl
                            have hfz32_0 := blk_frozen BK213.out 0
                            have hfz32_1 := blk_frozen BK213.out 1
                            have hfz32_2 := blk_frozen BK213.out 2
                            have hfz32_3 := blk_frozen BK213.out 3
                            have hfz32_4 := blk_frozen BK213.out 4
                            go_wp2
                            go_ret
                            exact ⟨by first | rfl | (simp [errW_none, errW_some] <;> rfl) | (simp [*, errW_none, errW_some] <;> rfl), by repeat (first | (with_reducible first | exact HB.out | apply below_alloc | apply pw_below_drewN | apply below_drew1 | refine below_set ?_ GE213.out) | exact HB.out)⟩
                          · rw [if_neg c31] at H
                            have c31b0 : decide (16 ≤ ((rd_T50 l0 x9_2).f1)) = false := decide_eq_false c31
                            clear c31
                            have H' := Aside0.mk H
                            clear H
                            have hcz33_0 : wc.cell? ⟨gb213, 0, none⟩ = some (.int .i64 ((rd_T50 l0 x9_2).f0)) := (blk_cell BK213.out 0).trans rfl
                            have hcz33_1 : wc.cell? ⟨gb213, 1, none⟩ = some (.int .i64 ((rd_T50 l0 x9_2).f1)) := (blk_cell BK213.out 1).trans rfl
                            have hcz33_2 : wc.cell? ⟨gb213, 2, none⟩ = some (.int .i64 ((rd_T50 l0 x9_2).f2)) := (blk_cell BK213.out 2).trans rfl
                            have hcz33_3 : wc.cell? ⟨gb213, 3, none⟩ = some (.int .i64 ((rd_T50 l0 x9_2).f3.f0)) := (blk_cell BK213.out 3).trans rfl
                            have hcz33_4 : wc.cell? ⟨gb213, 4, none⟩ = some (.int .i64 ((rd_T50 l0 x9_2).f3.f1)) := (blk_cell BK213.out 4).trans rfl
                            have hfz33_0 := blk_frozen BK213.out 0
                            have hfz33_1 := blk_frozen BK213.out 1
                            have hfz33_2 := blk_frozen BK213.out 2
                            have hfz33_3 := blk_frozen BK213.out 3
                            have hfz33_4 := blk_frozen BK213.out 4
                            go_wp2
                            go_roundg kj13
                            case measure => have := HJ4.out; have := HK2.out; have := HJ13.out; omega
                            case rel => exact ⟨(wrap64 (x9_2 + 1)), (by first | rfl | (simp; done) | (simp [*]; done)), H', ⟨by have := HJ4.out; have := HK2.out; have := HJ13.out; omega⟩, ⟨by repeat (first | (with_reducible first | exact HB.out | apply below_alloc | apply pw_below_drewN | apply below_drew1 | refine below_set ?_ GE213.out) | exact HB.out)⟩⟩
              · rw [if_neg c13] at H
                exact absurd H (by simp)
            · rw [if_neg c12] at H
              have c12b0 : decide (x9_2 < (l0.length : Int)) = false := decide_eq_false c12
              clear c12
              obtain rfl := Option.some.inj H
              go_wp2
              go_ret
              exact ⟨by first | rfl | (simp [errW_none, errW_some] <;> rfl) | (simp [*, errW_none, errW_some] <;> rfl), by repeat (first | (with_reducible first | exact HB.out | apply below_alloc | apply pw_below_drewN | apply below_drew1) | exact HB.out)⟩
end Go.Proofs.Ytcgbfkplhlngjaa.PA
