/- The law's own test whether one radio is heard by another one. -/
import Derived.Test.YtcgbfkplhlngjaaMedC
namespace Go.Proofs.Ytcgbfkplhlngjaa.PA
open Go.RowKit Go.Shelf Go.Proofs.YtcgbfkplhlngjaaW.PrintWords Go.Proofs.YtcgbfkplhlngjaaW.PrintLast Go.Proofs.YtcgbfkplhlngjaaW.PrintMore
set_option linter.unusedVariables false
set_option linter.unusedSimpArgs false
attribute [local go_sem] Oper.semAt_some

def hear4B (y z : S50) (p q : S25) (r : Int) : Bool := decide (y.f0 = 2) && decide (z.f0 = 1) && decide (y.f1 = z.f1) && nearB p q r
/-- Both indices lie in both lists. -/
def in4B (n0 n1 : Nat) (a b : Int) : Bool := decide (0 ≤ a) && decide (a < n0) && decide (a < n1) && decide (0 ≤ b) && decide (b < n0) && decide (b < n1)
def slotmeshlaw17_heard.f (l0 : List (S50)) (l1 : List (S25)) (a2 : Int) (a3 : Int) (a4 : Int) : Option (Bool) := if in4B l0.length l1.length a3 a4 = true then some (hear4B (rd_T50 l0 a3) (rd_T50 l0 a4) (rd_T25 l1 a3) (rd_T25 l1 a4) a2) else none

set_option maxRecDepth 100000 in
set_option maxHeartbeats 4000000 in
theorem slotmeshlaw17_heard.calls (A0 : Option Addr) (c0 : Nat) (l0 : List (S50)) (A1 : Option Addr) (c1 : Nat) (l1 : List (S25)) (a2 : Int) (a3 : Int) (a4 : Int) (r : Bool) (w : World) (hr0 : Kd.C k50 w A0 l0.length l0) (hc0 : l0.length ≤ c0) (hr1 : Kd.C k25 w A1 l1.length l1) (hc1 : l1.length ≤ c1) (h : slotmeshlaw17_heard.f l0 l1 a2 a3 a4 = some r) :
    Calls Try.prog 34 #[.slice A0 l0.length c0, .slice A1 l1.length c1, .int .i64 a2, .int .i64 a3, .int .i64 a4] w fun e w' => e = .returned (.bool r) ∧ Below w.heap.size w w' := by
  unfold slotmeshlaw17_heard.f at h
  by_cases hin : in4B l0.length l1.length a3 a4 = true
  · rw [if_pos hin] at h
    obtain rfl := Option.some.inj h
    clear h
    simp only [in4B, Bool.and_eq_true, decide_eq_true_eq] at hin
    obtain ⟨⟨⟨⟨⟨h30, h3a⟩, h3b⟩, h40⟩, h4a⟩, h4b⟩ := hin
    obtain ⟨ad, e, x0, x1, x2, x3, x4⟩ := at_T50 hr0 a3 h30 h3a
    subst e
    obtain ⟨_, e, y0, y1, y2, y3, y4⟩ := at_T50 hr0 a4 h40 h4a
    cases e
    obtain ⟨bd, e, p0, p1⟩ := at_T25 hr1 a3 h30 h3b
    subst e
    obtain ⟨_, e, q0, q1⟩ := at_T25 hr1 a4 h40 h4b
    cases e
    clear hr0 hr1 hc0 hc1
    generalize rd_T50 l0 a3 = y at *
    generalize rd_T50 l0 a4 = z at *
    generalize rd_T25 l1 a3 = p at *
    generalize rd_T25 l1 a4 = q at *
    have hnear := fun w => near_any p q a2 w
    generalize hres : hear4B y z p q a2 = res
    have nb0 := World.new_ne w _ x0
    have nb1 := World.new_ne w _ y0
    go_enter Try.func34, Try.ntmps34
    go_upto_region 1 with (fail)
    go_region_held3 (fun w' => w'.cell? (ad.add (a3.toNat * 5)) = some (.int .i64 y.f0) ∧ w'.cell? ⟨(ad.add (a3.toNat * 5)).block, (ad.add (a3.toNat * 5)).off + 1, none⟩ = some (.int .i64 y.f1) ∧ w'.cell? ⟨(ad.add (a3.toNat * 5)).block, (ad.add (a3.toNat * 5)).off + 2, none⟩ = some (.int .i64 y.f2) ∧ w'.cell? ⟨(ad.add (a3.toNat * 5)).block, (ad.add (a3.toNat * 5)).off + 3, none⟩ = some (.int .i64 y.f3.f0) ∧ w'.cell? ⟨(ad.add (a3.toNat * 5)).block, (ad.add (a3.toNat * 5)).off + 4, none⟩ = some (.int .i64 y.f3.f1) ∧ w'.cell? (ad.add (a4.toNat * 5)) = some (.int .i64 z.f0) ∧ w'.cell? ⟨(ad.add (a4.toNat * 5)).block, (ad.add (a4.toNat * 5)).off + 1, none⟩ = some (.int .i64 z.f1) ∧ w'.cell? ⟨(ad.add (a4.toNat * 5)).block, (ad.add (a4.toNat * 5)).off + 2, none⟩ = some (.int .i64 z.f2) ∧ w'.cell? ⟨(ad.add (a4.toNat * 5)).block, (ad.add (a4.toNat * 5)).off + 3, none⟩ = some (.int .i64 z.f3.f0) ∧ w'.cell? ⟨(ad.add (a4.toNat * 5)).block, (ad.add (a4.toNat * 5)).off + 4, none⟩ = some (.int .i64 z.f3.f1)) (go_keep) (fail)
    · rename_i hHx
      clear hHx
      have e1 := World.size_alloc (w := w) (o := .cells #[.int .i64 y.f0, .int .i64 y.f1, .int .i64 y.f2, .int .i64 y.f3.f0, .int .i64 y.f3.f1] 50)
      have n1 := World.alloc_heap_new w (.cells #[.int .i64 y.f0, .int .i64 y.f1, .int .i64 y.f2, .int .i64 y.f3.f0, .int .i64 y.f3.f1] 50)
      have n1' : (((w.alloc (.cells #[.int .i64 y.f0, .int .i64 y.f1, .int .i64 y.f2, .int .i64 y.f3.f0, .int .i64 y.f3.f1] 50)).alloc (.cells #[.int .i64 z.f0, .int .i64 z.f1, .int .i64 z.f2, .int .i64 z.f3.f0, .int .i64 z.f3.f1] 50))).heap[w.heap.size]? = some (.cells #[.int .i64 y.f0, .int .i64 y.f1, .int .i64 y.f2, .int .i64 y.f3.f0, .int .i64 y.f3.f1] 50) := (Below.heap_alloc _ _ _ (by rw [e1]; omega)).trans n1
      have n2 := World.alloc_heap_new (w.alloc (.cells #[.int .i64 y.f0, .int .i64 y.f1, .int .i64 y.f2, .int .i64 y.f3.f0, .int .i64 y.f3.f1] 50)) (.cells #[.int .i64 z.f0, .int .i64 z.f1, .int .i64 z.f2, .int .i64 z.f3.f0, .int .i64 z.f3.f1] 50)
      rw [e1] at n2
      have hB2 := below_alloc (below_alloc (Below.refl w.heap.size w) (.cells #[.int .i64 y.f0, .int .i64 y.f1, .int .i64 y.f2, .int .i64 y.f3.f0, .int .i64 y.f3.f1] 50)) (.cells #[.int .i64 z.f0, .int .i64 z.f1, .int .i64 z.f2, .int .i64 z.f3.f0, .int .i64 z.f3.f1] 50)
      have b0 : ((w.alloc (.cells #[.int .i64 y.f0, .int .i64 y.f1, .int .i64 y.f2, .int .i64 y.f3.f0, .int .i64 y.f3.f1] 50)).alloc (.cells #[.int .i64 z.f0, .int .i64 z.f1, .int .i64 z.f2, .int .i64 z.f3.f0, .int .i64 z.f3.f1] 50)).cell? ⟨w.heap.size, 0, none⟩ = some (.int .i64 y.f0) := cellOf n1' rfl
      have b1 : ((w.alloc (.cells #[.int .i64 y.f0, .int .i64 y.f1, .int .i64 y.f2, .int .i64 y.f3.f0, .int .i64 y.f3.f1] 50)).alloc (.cells #[.int .i64 z.f0, .int .i64 z.f1, .int .i64 z.f2, .int .i64 z.f3.f0, .int .i64 z.f3.f1] 50)).cell? ⟨w.heap.size, 1, none⟩ = some (.int .i64 y.f1) := cellOf n1' rfl
      have d0 : ((w.alloc (.cells #[.int .i64 y.f0, .int .i64 y.f1, .int .i64 y.f2, .int .i64 y.f3.f0, .int .i64 y.f3.f1] 50)).alloc (.cells #[.int .i64 z.f0, .int .i64 z.f1, .int .i64 z.f2, .int .i64 z.f3.f0, .int .i64 z.f3.f1] 50)).cell? ⟨w.heap.size + 1, 0, none⟩ = some (.int .i64 z.f0) := cellOf n2 rfl
      have d1 : ((w.alloc (.cells #[.int .i64 y.f0, .int .i64 y.f1, .int .i64 y.f2, .int .i64 y.f3.f0, .int .i64 y.f3.f1] 50)).alloc (.cells #[.int .i64 z.f0, .int .i64 z.f1, .int .i64 z.f2, .int .i64 z.f3.f0, .int .i64 z.f3.f1] 50)).cell? ⟨w.heap.size + 1, 1, none⟩ = some (.int .i64 z.f1) := cellOf n2 rfl
      have r0 := pw_cell_below hB2 p0
      have r1 := pw_cell_below hB2 p1
      have t0 := pw_cell_below hB2 q0
      have t1 := pw_cell_below hB2 q1
      have HB2 := Aside0.mk hB2
      clear hB2 n1 n1' n2 e1
      by_cases g1 : y.f0 = 2
      · have H1 : (y.f0 == 2) = true := by simp [g1]
        by_cases g2 : z.f0 = 1
        · have H2 : (z.f0 == 1) = true := by simp [g2]
          by_cases g3 : y.f1 = z.f1
          · have H3 : (y.f1 == z.f1) = true := by simp [g3]
            have e : res = nearB p q a2 := by rw [← hres]; simp [hear4B, g1, g2, g3]
            simp only [← e] at hnear
            clear e hres g1 g2 g3
            go_upto_region 2 with (fail)
            go_region_held3 (fun w' => w'.cell? ⟨w.heap.size, 0, none⟩ = some (.int .i64 y.f0) ∧ w'.cell? ⟨w.heap.size, 1, none⟩ = some (.int .i64 y.f1) ∧ w'.cell? ⟨w.heap.size + 1, 0, none⟩ = some (.int .i64 z.f0) ∧ w'.cell? ⟨w.heap.size + 1, 1, none⟩ = some (.int .i64 z.f1) ∧ w'.cell? (bd.add (a3.toNat * 2)) = some (.int .i64 p.f0) ∧ w'.cell? ⟨(bd.add (a3.toNat * 2)).block, (bd.add (a3.toNat * 2)).off + 1, none⟩ = some (.int .i64 p.f1) ∧ w'.cell? (bd.add (a4.toNat * 2)) = some (.int .i64 q.f0) ∧ w'.cell? ⟨(bd.add (a4.toNat * 2)).block, (bd.add (a4.toNat * 2)).off + 1, none⟩ = some (.int .i64 q.f1)) (first | go_keep | (refine ⟨?_, ?_, ?_, ?_, ?_, ?_, ?_, ?_⟩ <;> (refine pw_cell_below (by assumption) ?_; assumption))) (first | (go_at_call 21; refine (hnear _).mono ?_; rintro e w' ⟨rfl, hb⟩))
            have BN := Aside0.mk (HB2.out.trans (((Below.refl _ _).drew.drew.trans hb).mono HB2.out.size))
            clear hb
            go_wp2
            go_ret
            exact ⟨rfl, BN.out⟩
          · have H3 : (y.f1 == z.f1) = false := by simp [g3]
            have e : res = false := by rw [← hres]; simp [hear4B, g3]
            subst e
            clear hres g1 g2 g3 hnear
            go_upto_region 2 with (fail)
            refine (wpIn_wide (n := 5)).1 ?_
            refine startF (fun w' => w'.cell? ⟨w.heap.size, 0, none⟩ = some (.int .i64 y.f0) ∧ w'.cell? ⟨w.heap.size, 1, none⟩ = some (.int .i64 y.f1) ∧ w'.cell? ⟨w.heap.size + 1, 0, none⟩ = some (.int .i64 z.f0) ∧ w'.cell? ⟨w.heap.size + 1, 1, none⟩ = some (.int .i64 z.f1) ∧ w'.cell? (bd.add (a3.toNat * 2)) = some (.int .i64 p.f0) ∧ w'.cell? ⟨(bd.add (a3.toNat * 2)).block, (bd.add (a3.toNat * 2)).off + 1, none⟩ = some (.int .i64 p.f1) ∧ w'.cell? (bd.add (a4.toNat * 2)) = some (.int .i64 q.f0) ∧ w'.cell? ⟨(bd.add (a4.toNat * 2)).block, (bd.add (a4.toNat * 2)).off + 1, none⟩ = some (.int .i64 q.f1)) [] #[false, false, false, false, false, false, false, false, false, false, false, false, false, false, false, false, false, false, false, false, false, false, false, false, false, false, false, false] 28 (by kernel_rfl) (by kernel_rfl) ⟨b0, b1, d0, d1, r0, r1, t0, t1⟩ (fun hHeld => ?_)
            refine takeF (v := ?_) 0 (some 21) #[true, false, false, false, false, false, false, false, false, false, false, false, false, false, false, false, false, false, false, false, false, false, false, false, false, false, false, false] ?_ rfl rfl (by kernel_rfl) (fun _ _ _ h => h) ⟨Or.inl ⟨by rfl, ?_⟩, fun _ _ _ => trivial⟩ ?_ hHeld ?_
            rotate_left 2
            · (rintro w' ⟨s0, s1, s2, s3, s4, s5, s6, s7⟩; go_simp; with_reducible rfl)
            · (simp only [Act.put, List.setIfInBounds_toArray, List.set_cons_zero, List.set_cons_succ]; rfl)
            refine takeF (v := ?_) 1 (some 22) #[true, true, false, false, false, false, false, false, false, false, false, false, false, false, false, false, false, false, false, false, false, false, false, false, false, false, false, false] ?_ rfl rfl (by kernel_rfl) (fun _ _ _ h => h) ⟨Or.inl ⟨by rfl, ?_⟩, fun _ _ _ => trivial⟩ ?_ hHeld ?_
            rotate_left 2
            · (rintro w' ⟨s0, s1, s2, s3, s4, s5, s6, s7⟩; go_simp; with_reducible rfl)
            · (simp only [Act.put, List.setIfInBounds_toArray, List.set_cons_zero, List.set_cons_succ]; rfl)
            refine takeF (v := ?_) 2 (some 23) #[true, true, true, false, false, false, false, false, false, false, false, false, false, false, false, false, false, false, false, false, false, false, false, false, false, false, false, false] ?_ rfl rfl (by kernel_rfl) (fun _ _ _ h => h) ⟨Or.inl ⟨by rfl, ?_⟩, fun _ _ _ => trivial⟩ ?_ hHeld ?_
            rotate_left 2
            · (rintro w' ⟨s0, s1, s2, s3, s4, s5, s6, s7⟩; go_simp; with_reducible rfl)
            · (simp only [Act.put, List.setIfInBounds_toArray, List.set_cons_zero, List.set_cons_succ]; rfl)
            refine takeF (v := ?_) 3 (some 24) #[true, true, true, true, false, false, false, false, false, false, false, false, false, false, false, false, false, false, false, false, false, false, false, false, false, false, false, false] ?_ rfl rfl (by kernel_rfl) (fun _ _ _ h => h) ⟨Or.inl ⟨by rfl, ?_⟩, fun _ _ _ => trivial⟩ ?_ hHeld ?_
            rotate_left 2
            · (rintro w' ⟨s0, s1, s2, s3, s4, s5, s6, s7⟩; go_simp; with_reducible rfl)
            · (simp only [Act.put, List.setIfInBounds_toArray, List.set_cons_zero, List.set_cons_succ]; rfl)
            refine takeF (v := ?_) 4 (some 25) #[true, true, true, true, true, false, false, false, false, false, false, false, false, false, false, false, false, false, false, false, false, false, false, false, false, false, false, false] ?_ rfl rfl (by kernel_rfl) (fun _ _ _ h => h) ⟨Or.inl ⟨by rfl, ?_⟩, fun _ _ _ => trivial⟩ ?_ hHeld ?_
            rotate_left 2
            · (rintro w' ⟨s0, s1, s2, s3, s4, s5, s6, s7⟩; go_simp; with_reducible rfl)
            · (simp only [Act.put, List.setIfInBounds_toArray, List.set_cons_zero, List.set_cons_succ]; rfl)
            refine takeF (v := ?_) 5 (some 26) #[true, true, true, true, true, true, false, false, false, false, false, false, false, false, false, false, false, false, false, false, false, false, false, false, false, false, false, false] ?_ rfl rfl (by kernel_rfl) (fun _ _ _ h => h) ⟨Or.inl ⟨by rfl, ?_⟩, fun _ _ _ => trivial⟩ ?_ hHeld ?_
            rotate_left 2
            · (rintro w' ⟨s0, s1, s2, s3, s4, s5, s6, s7⟩; go_simp; with_reducible rfl)
            · (simp only [Act.put, List.setIfInBounds_toArray, List.set_cons_zero, List.set_cons_succ]; rfl)
            refine takeF (v := ?_) 6 (some 27) #[true, true, true, true, true, true, true, false, false, false, false, false, false, false, false, false, false, false, false, false, false, false, false, false, false, false, false, false] ?_ rfl rfl (by kernel_rfl) (fun _ _ _ h => h) ⟨Or.inl ⟨by rfl, ?_⟩, fun _ _ _ => trivial⟩ ?_ hHeld ?_
            rotate_left 2
            · (rintro w' ⟨s0, s1, s2, s3, s4, s5, s6, s7⟩; go_simp; with_reducible rfl)
            · (simp only [Act.put, List.setIfInBounds_toArray, List.set_cons_zero, List.set_cons_succ]; rfl)
            refine takeF (v := ?_) 7 (some 28) #[true, true, true, true, true, true, true, true, false, false, false, false, false, false, false, false, false, false, false, false, false, false, false, false, false, false, false, false] ?_ rfl rfl (by kernel_rfl) (fun _ _ _ h => h) ⟨Or.inl ⟨by rfl, ?_⟩, fun _ _ _ => trivial⟩ ?_ hHeld ?_
            rotate_left 2
            · (rintro w' ⟨s0, s1, s2, s3, s4, s5, s6, s7⟩; go_simp; with_reducible rfl)
            · (simp only [Act.put, List.setIfInBounds_toArray, List.set_cons_zero, List.set_cons_succ]; rfl)
            refine takeF (v := ?_) 8 (some 29) #[true, true, true, true, true, true, true, true, true, false, false, false, false, false, false, false, false, false, false, false, false, false, false, false, false, false, false, false] ?_ rfl rfl (by kernel_rfl) (fun _ _ _ h => h) ⟨Or.inl ⟨by rfl, ?_⟩, fun _ _ _ => trivial⟩ ?_ hHeld ?_
            rotate_left 2
            · (rintro w' ⟨s0, s1, s2, s3, s4, s5, s6, s7⟩; go_simp; with_reducible rfl)
            · (simp only [Act.put, List.setIfInBounds_toArray, List.set_cons_zero, List.set_cons_succ]; rfl)
            refine takeF (v := ?_) 9 (some 30) #[true, true, true, true, true, true, true, true, true, true, false, false, false, false, false, false, false, false, false, false, false, false, false, false, false, false, false, false] ?_ rfl rfl (by kernel_rfl) (fun _ _ _ h => h) ⟨Or.inl ⟨by rfl, ?_⟩, fun _ _ _ => trivial⟩ ?_ hHeld ?_
            rotate_left 2
            · (rintro w' ⟨s0, s1, s2, s3, s4, s5, s6, s7⟩; go_simp; with_reducible rfl)
            · (simp only [Act.put, List.setIfInBounds_toArray, List.set_cons_zero, List.set_cons_succ]; rfl)
            refine takeF (v := ?_) 10 (some 31) #[true, true, true, true, true, true, true, true, true, true, true, false, false, false, false, false, false, false, false, false, false, false, false, false, false, false, false, false] ?_ rfl rfl (by kernel_rfl) (fun _ _ _ h => h) ⟨Or.inl ⟨by rfl, ?_⟩, fun _ _ _ => trivial⟩ ?_ hHeld ?_
            rotate_left 2
            · (rintro w' ⟨s0, s1, s2, s3, s4, s5, s6, s7⟩; go_simp; with_reducible rfl)
            · (simp only [Act.put, List.setIfInBounds_toArray, List.set_cons_zero, List.set_cons_succ]; rfl)
            refine takeF (v := ?_) 11 (some 32) #[true, true, true, true, true, true, true, true, true, true, true, true, false, false, false, false, false, false, false, false, false, false, false, false, false, false, false, false] ?_ rfl rfl (by kernel_rfl) (fun _ _ _ h => h) ⟨Or.inl ⟨by rfl, ?_⟩, fun _ _ _ => trivial⟩ ?_ hHeld ?_
            rotate_left 2
            · (rintro w' ⟨s0, s1, s2, s3, s4, s5, s6, s7⟩; go_simp; with_reducible rfl)
            · (simp only [Act.put, List.setIfInBounds_toArray, List.set_cons_zero, List.set_cons_succ]; rfl)
            refine takeF (v := ?_) 12 (some 33) #[true, true, true, true, true, true, true, true, true, true, true, true, true, false, false, false, false, false, false, false, false, false, false, false, false, false, false, false] ?_ rfl rfl (by kernel_rfl) (fun _ _ _ h => h) ⟨Or.inl ⟨by rfl, ?_⟩, fun _ _ _ => trivial⟩ ?_ hHeld ?_
            rotate_left 2
            · (rintro w' ⟨s0, s1, s2, s3, s4, s5, s6, s7⟩; go_simp; with_reducible rfl)
            · (simp only [Act.put, List.setIfInBounds_toArray, List.set_cons_zero, List.set_cons_succ]; rfl)
            refine takeF (v := ?_) 13 (some 34) #[true, true, true, true, true, true, true, true, true, true, true, true, true, true, false, false, false, false, false, false, false, false, false, false, false, false, false, false] ?_ rfl rfl (by kernel_rfl) (fun _ _ _ h => h) ⟨Or.inl ⟨by rfl, ?_⟩, fun _ _ _ => trivial⟩ ?_ hHeld ?_
            rotate_left 2
            · (rintro w' ⟨s0, s1, s2, s3, s4, s5, s6, s7⟩; go_simp; with_reducible rfl)
            · (simp only [Act.put, List.setIfInBounds_toArray, List.set_cons_zero, List.set_cons_succ]; rfl)
            refine takeF (v := ?_) 14 (some 35) #[true, true, true, true, true, true, true, true, true, true, true, true, true, true, true, false, false, false, false, false, false, false, false, false, false, false, false, false] ?_ rfl rfl (by kernel_rfl) (fun _ _ _ h => h) ⟨Or.inl ⟨by rfl, ?_⟩, fun _ _ _ => trivial⟩ ?_ hHeld ?_
            rotate_left 2
            · (rintro w' ⟨s0, s1, s2, s3, s4, s5, s6, s7⟩; go_simp; with_reducible rfl)
            · (simp only [Act.put, List.setIfInBounds_toArray, List.set_cons_zero, List.set_cons_succ]; rfl)
            refine takeF (v := ?_) 15 (some 36) #[true, true, true, true, true, true, true, true, true, true, true, true, true, true, true, true, false, false, false, false, false, false, false, false, false, false, false, false] ?_ rfl rfl (by kernel_rfl) (fun _ _ _ h => h) ⟨Or.inl ⟨by rfl, ?_⟩, fun _ _ _ => trivial⟩ ?_ hHeld ?_
            rotate_left 2
            · (rintro w' ⟨s0, s1, s2, s3, s4, s5, s6, s7⟩; go_simp; with_reducible rfl)
            · (simp only [Act.put, List.setIfInBounds_toArray, List.set_cons_zero, List.set_cons_succ]; rfl)
            refine pureF (v := undef) 16 (some 37) #[true, true, true, true, true, true, true, true, true, true, true, true, true, true, true, true, true, false, false, false, false, false, false, false, false, false, false, false] ?_ rfl rfl (by kernel_rfl) (fun _ _ _ h => h) ⟨Or.inr ⟨by rfl, rfl⟩, fun _ _ _ => trivial⟩ ?_ ?_
            rotate_left 1
            · (simp only [Act.put, List.setIfInBounds_toArray, List.set_cons_zero, List.set_cons_succ]; rfl)
            refine pureF (v := undef) 17 (some 38) #[true, true, true, true, true, true, true, true, true, true, true, true, true, true, true, true, true, true, false, false, false, false, false, false, false, false, false, false] ?_ rfl rfl (by kernel_rfl) (fun _ _ _ h => h) ⟨Or.inr ⟨by rfl, rfl⟩, fun _ _ _ => trivial⟩ ?_ ?_
            rotate_left 1
            · (simp only [Act.put, List.setIfInBounds_toArray, List.set_cons_zero, List.set_cons_succ]; rfl)
            refine pureF (v := undef) 18 (some 39) #[true, true, true, true, true, true, true, true, true, true, true, true, true, true, true, true, true, true, true, false, false, false, false, false, false, false, false, false] ?_ rfl rfl (by kernel_rfl) (fun _ _ _ h => h) ⟨Or.inr ⟨by rfl, rfl⟩, fun _ _ _ => trivial⟩ ?_ ?_
            rotate_left 1
            · (simp only [Act.put, List.setIfInBounds_toArray, List.set_cons_zero, List.set_cons_succ]; rfl)
            refine pureF (v := undef) 19 (some 40) #[true, true, true, true, true, true, true, true, true, true, true, true, true, true, true, true, true, true, true, true, false, false, false, false, false, false, false, false] ?_ rfl rfl (by kernel_rfl) (fun _ _ _ h => h) ⟨Or.inr ⟨by rfl, rfl⟩, fun _ _ _ => trivial⟩ ?_ ?_
            rotate_left 1
            · (simp only [Act.put, List.setIfInBounds_toArray, List.set_cons_zero, List.set_cons_succ]; rfl)
            refine pureF (v := undef) 20 (some 41) #[true, true, true, true, true, true, true, true, true, true, true, true, true, true, true, true, true, true, true, true, true, false, false, false, false, false, false, false] ?_ rfl rfl (by kernel_rfl) (fun _ _ _ h => h) ⟨Or.inr ⟨by rfl, rfl⟩, fun _ _ _ => trivial⟩ ?_ ?_
            rotate_left 1
            · (simp only [Act.put, List.setIfInBounds_toArray, List.set_cons_zero, List.set_cons_succ]; rfl)
            refine pureF (v := undef) 21 (some 42) #[true, true, true, true, true, true, true, true, true, true, true, true, true, true, true, true, true, true, true, true, true, true, false, false, false, false, false, false] ?_ rfl rfl (by kernel_rfl) (fun _ _ _ h => h) ⟨Or.inr ⟨by rfl, rfl⟩, fun _ _ _ => trivial⟩ ?_ ?_
            rotate_left 1
            · (simp only [Act.put, List.setIfInBounds_toArray, List.set_cons_zero, List.set_cons_succ]; rfl)
            refine pureF (v := undef) 22 (some 43) #[true, true, true, true, true, true, true, true, true, true, true, true, true, true, true, true, true, true, true, true, true, true, true, false, false, false, false, false] ?_ rfl rfl (by kernel_rfl) (fun _ _ _ h => h) ⟨Or.inr ⟨by rfl, rfl⟩, fun _ _ _ => trivial⟩ ?_ ?_
            rotate_left 1
            · (simp only [Act.put, List.setIfInBounds_toArray, List.set_cons_zero, List.set_cons_succ]; rfl)
            refine pureF (v := undef) 23 (some 44) #[true, true, true, true, true, true, true, true, true, true, true, true, true, true, true, true, true, true, true, true, true, true, true, true, false, false, false, false] ?_ rfl rfl (by kernel_rfl) (fun _ _ _ h => h) ⟨Or.inr ⟨by rfl, rfl⟩, fun _ _ _ => trivial⟩ ?_ ?_
            rotate_left 1
            · (simp only [Act.put, List.setIfInBounds_toArray, List.set_cons_zero, List.set_cons_succ]; rfl)
            refine pureF (v := undef) 24 (some 45) #[true, true, true, true, true, true, true, true, true, true, true, true, true, true, true, true, true, true, true, true, true, true, true, true, true, false, false, false] ?_ rfl rfl (by kernel_rfl) (fun _ _ _ h => h) ⟨Or.inr ⟨by rfl, rfl⟩, fun _ _ _ => trivial⟩ ?_ ?_
            rotate_left 1
            · (simp only [Act.put, List.setIfInBounds_toArray, List.set_cons_zero, List.set_cons_succ]; rfl)
            refine pureF (v := undef) 25 (some 46) #[true, true, true, true, true, true, true, true, true, true, true, true, true, true, true, true, true, true, true, true, true, true, true, true, true, true, false, false] ?_ rfl rfl (by kernel_rfl) (fun _ _ _ h => h) ⟨Or.inr ⟨by rfl, rfl⟩, fun _ _ _ => trivial⟩ ?_ ?_
            rotate_left 1
            · (simp only [Act.put, List.setIfInBounds_toArray, List.set_cons_zero, List.set_cons_succ]; rfl)
            refine pureF (v := ?_) 26 (some 47) #[true, true, true, true, true, true, true, true, true, true, true, true, true, true, true, true, true, true, true, true, true, true, true, true, true, true, true, false] ?_ rfl rfl (by kernel_rfl) (fun _ _ _ h => h) ⟨Or.inl ⟨by rfl, ?_⟩, fun _ _ _ => trivial⟩ ?_ ?_
            rotate_left 2
            · (intro w' _; go_simp; with_reducible rfl)
            · (simp only [Act.put, List.setIfInBounds_toArray, List.set_cons_zero, List.set_cons_succ]; rfl)
            refine pureF (v := ?_) 27 (some 10) #[true, true, true, true, true, true, true, true, true, true, true, true, true, true, true, true, true, true, true, true, true, true, true, true, true, true, true, true] ?_ rfl rfl (by kernel_rfl) (fun _ _ _ h => h) ⟨Or.inl ⟨by rfl, ?_⟩, fun _ _ _ => trivial⟩ ?_ ?_
            rotate_left 2
            · (intro w' _; go_simp; with_reducible rfl)
            · (simp only [Act.put, List.setIfInBounds_toArray, List.set_cons_zero, List.set_cons_succ]; rfl)
            clear hHeld
            refine doneF (by kernel_rfl) ?_
            go_wp2
            go_ret
            exact ⟨rfl, below_drew1 (below_drew1 HB2.out)⟩
        · have H2 : (z.f0 == 1) = false := by simp [g2]
          have e : res = false := by rw [← hres]; simp [hear4B, g2]
          subst e
          clear hres g1 g2 hnear
          go_upto_region 2 with (fail)
          refine (wpIn_wide (n := 5)).1 ?_
          refine startF (fun w' => w'.cell? ⟨w.heap.size, 0, none⟩ = some (.int .i64 y.f0) ∧ w'.cell? ⟨w.heap.size, 1, none⟩ = some (.int .i64 y.f1) ∧ w'.cell? ⟨w.heap.size + 1, 0, none⟩ = some (.int .i64 z.f0) ∧ w'.cell? ⟨w.heap.size + 1, 1, none⟩ = some (.int .i64 z.f1) ∧ w'.cell? (bd.add (a3.toNat * 2)) = some (.int .i64 p.f0) ∧ w'.cell? ⟨(bd.add (a3.toNat * 2)).block, (bd.add (a3.toNat * 2)).off + 1, none⟩ = some (.int .i64 p.f1) ∧ w'.cell? (bd.add (a4.toNat * 2)) = some (.int .i64 q.f0) ∧ w'.cell? ⟨(bd.add (a4.toNat * 2)).block, (bd.add (a4.toNat * 2)).off + 1, none⟩ = some (.int .i64 q.f1)) [] #[false, false, false, false, false, false, false, false, false, false, false, false, false, false, false, false, false, false, false, false, false, false, false, false, false, false, false, false] 28 (by kernel_rfl) (by kernel_rfl) ⟨b0, b1, d0, d1, r0, r1, t0, t1⟩ (fun hHeld => ?_)
          refine takeF (v := ?_) 0 (some 21) #[true, false, false, false, false, false, false, false, false, false, false, false, false, false, false, false, false, false, false, false, false, false, false, false, false, false, false, false] ?_ rfl rfl (by kernel_rfl) (fun _ _ _ h => h) ⟨Or.inl ⟨by rfl, ?_⟩, fun _ _ _ => trivial⟩ ?_ hHeld ?_
          rotate_left 2
          · (rintro w' ⟨s0, s1, s2, s3, s4, s5, s6, s7⟩; go_simp; with_reducible rfl)
          · (simp only [Act.put, List.setIfInBounds_toArray, List.set_cons_zero, List.set_cons_succ]; rfl)
          refine takeF (v := ?_) 1 (some 22) #[true, true, false, false, false, false, false, false, false, false, false, false, false, false, false, false, false, false, false, false, false, false, false, false, false, false, false, false] ?_ rfl rfl (by kernel_rfl) (fun _ _ _ h => h) ⟨Or.inl ⟨by rfl, ?_⟩, fun _ _ _ => trivial⟩ ?_ hHeld ?_
          rotate_left 2
          · (rintro w' ⟨s0, s1, s2, s3, s4, s5, s6, s7⟩; go_simp; with_reducible rfl)
          · (simp only [Act.put, List.setIfInBounds_toArray, List.set_cons_zero, List.set_cons_succ]; rfl)
          refine takeF (v := ?_) 2 (some 23) #[true, true, true, false, false, false, false, false, false, false, false, false, false, false, false, false, false, false, false, false, false, false, false, false, false, false, false, false] ?_ rfl rfl (by kernel_rfl) (fun _ _ _ h => h) ⟨Or.inl ⟨by rfl, ?_⟩, fun _ _ _ => trivial⟩ ?_ hHeld ?_
          rotate_left 2
          · (rintro w' ⟨s0, s1, s2, s3, s4, s5, s6, s7⟩; go_simp; with_reducible rfl)
          · (simp only [Act.put, List.setIfInBounds_toArray, List.set_cons_zero, List.set_cons_succ]; rfl)
          refine takeF (v := ?_) 3 (some 24) #[true, true, true, true, false, false, false, false, false, false, false, false, false, false, false, false, false, false, false, false, false, false, false, false, false, false, false, false] ?_ rfl rfl (by kernel_rfl) (fun _ _ _ h => h) ⟨Or.inl ⟨by rfl, ?_⟩, fun _ _ _ => trivial⟩ ?_ hHeld ?_
          rotate_left 2
          · (rintro w' ⟨s0, s1, s2, s3, s4, s5, s6, s7⟩; go_simp; with_reducible rfl)
          · (simp only [Act.put, List.setIfInBounds_toArray, List.set_cons_zero, List.set_cons_succ]; rfl)
          refine takeF (v := ?_) 4 (some 25) #[true, true, true, true, true, false, false, false, false, false, false, false, false, false, false, false, false, false, false, false, false, false, false, false, false, false, false, false] ?_ rfl rfl (by kernel_rfl) (fun _ _ _ h => h) ⟨Or.inl ⟨by rfl, ?_⟩, fun _ _ _ => trivial⟩ ?_ hHeld ?_
          rotate_left 2
          · (rintro w' ⟨s0, s1, s2, s3, s4, s5, s6, s7⟩; go_simp; with_reducible rfl)
          · (simp only [Act.put, List.setIfInBounds_toArray, List.set_cons_zero, List.set_cons_succ]; rfl)
          refine takeF (v := ?_) 5 (some 26) #[true, true, true, true, true, true, false, false, false, false, false, false, false, false, false, false, false, false, false, false, false, false, false, false, false, false, false, false] ?_ rfl rfl (by kernel_rfl) (fun _ _ _ h => h) ⟨Or.inl ⟨by rfl, ?_⟩, fun _ _ _ => trivial⟩ ?_ hHeld ?_
          rotate_left 2
          · (rintro w' ⟨s0, s1, s2, s3, s4, s5, s6, s7⟩; go_simp; with_reducible rfl)
          · (simp only [Act.put, List.setIfInBounds_toArray, List.set_cons_zero, List.set_cons_succ]; rfl)
          refine takeF (v := ?_) 6 (some 27) #[true, true, true, true, true, true, true, false, false, false, false, false, false, false, false, false, false, false, false, false, false, false, false, false, false, false, false, false] ?_ rfl rfl (by kernel_rfl) (fun _ _ _ h => h) ⟨Or.inl ⟨by rfl, ?_⟩, fun _ _ _ => trivial⟩ ?_ hHeld ?_
          rotate_left 2
          · (rintro w' ⟨s0, s1, s2, s3, s4, s5, s6, s7⟩; go_simp; with_reducible rfl)
          · (simp only [Act.put, List.setIfInBounds_toArray, List.set_cons_zero, List.set_cons_succ]; rfl)
          refine takeF (v := ?_) 7 (some 28) #[true, true, true, true, true, true, true, true, false, false, false, false, false, false, false, false, false, false, false, false, false, false, false, false, false, false, false, false] ?_ rfl rfl (by kernel_rfl) (fun _ _ _ h => h) ⟨Or.inl ⟨by rfl, ?_⟩, fun _ _ _ => trivial⟩ ?_ hHeld ?_
          rotate_left 2
          · (rintro w' ⟨s0, s1, s2, s3, s4, s5, s6, s7⟩; go_simp; with_reducible rfl)
          · (simp only [Act.put, List.setIfInBounds_toArray, List.set_cons_zero, List.set_cons_succ]; rfl)
          refine takeF (v := ?_) 8 (some 29) #[true, true, true, true, true, true, true, true, true, false, false, false, false, false, false, false, false, false, false, false, false, false, false, false, false, false, false, false] ?_ rfl rfl (by kernel_rfl) (fun _ _ _ h => h) ⟨Or.inl ⟨by rfl, ?_⟩, fun _ _ _ => trivial⟩ ?_ hHeld ?_
          rotate_left 2
          · (rintro w' ⟨s0, s1, s2, s3, s4, s5, s6, s7⟩; go_simp; with_reducible rfl)
          · (simp only [Act.put, List.setIfInBounds_toArray, List.set_cons_zero, List.set_cons_succ]; rfl)
          refine pureF (v := undef) 9 (some 30) #[true, true, true, true, true, true, true, true, true, true, false, false, false, false, false, false, false, false, false, false, false, false, false, false, false, false, false, false] ?_ rfl rfl (by kernel_rfl) (fun _ _ _ h => h) ⟨Or.inr ⟨by rfl, rfl⟩, fun _ _ _ => trivial⟩ ?_ ?_
          rotate_left 1
          · (simp only [Act.put, List.setIfInBounds_toArray, List.set_cons_zero, List.set_cons_succ]; rfl)
          refine pureF (v := undef) 10 (some 31) #[true, true, true, true, true, true, true, true, true, true, true, false, false, false, false, false, false, false, false, false, false, false, false, false, false, false, false, false] ?_ rfl rfl (by kernel_rfl) (fun _ _ _ h => h) ⟨Or.inr ⟨by rfl, rfl⟩, fun _ _ _ => trivial⟩ ?_ ?_
          rotate_left 1
          · (simp only [Act.put, List.setIfInBounds_toArray, List.set_cons_zero, List.set_cons_succ]; rfl)
          refine pureF (v := undef) 11 (some 32) #[true, true, true, true, true, true, true, true, true, true, true, true, false, false, false, false, false, false, false, false, false, false, false, false, false, false, false, false] ?_ rfl rfl (by kernel_rfl) (fun _ _ _ h => h) ⟨Or.inr ⟨by rfl, rfl⟩, fun _ _ _ => trivial⟩ ?_ ?_
          rotate_left 1
          · (simp only [Act.put, List.setIfInBounds_toArray, List.set_cons_zero, List.set_cons_succ]; rfl)
          refine pureF (v := undef) 12 (some 33) #[true, true, true, true, true, true, true, true, true, true, true, true, true, false, false, false, false, false, false, false, false, false, false, false, false, false, false, false] ?_ rfl rfl (by kernel_rfl) (fun _ _ _ h => h) ⟨Or.inr ⟨by rfl, rfl⟩, fun _ _ _ => trivial⟩ ?_ ?_
          rotate_left 1
          · (simp only [Act.put, List.setIfInBounds_toArray, List.set_cons_zero, List.set_cons_succ]; rfl)
          refine pureF (v := undef) 13 (some 34) #[true, true, true, true, true, true, true, true, true, true, true, true, true, true, false, false, false, false, false, false, false, false, false, false, false, false, false, false] ?_ rfl rfl (by kernel_rfl) (fun _ _ _ h => h) ⟨Or.inr ⟨by rfl, rfl⟩, fun _ _ _ => trivial⟩ ?_ ?_
          rotate_left 1
          · (simp only [Act.put, List.setIfInBounds_toArray, List.set_cons_zero, List.set_cons_succ]; rfl)
          refine pureF (v := ?_) 14 (some 35) #[true, true, true, true, true, true, true, true, true, true, true, true, true, true, true, false, false, false, false, false, false, false, false, false, false, false, false, false] ?_ rfl rfl (by kernel_rfl) (fun _ _ _ h => h) ⟨Or.inl ⟨by rfl, ?_⟩, fun _ _ _ => trivial⟩ ?_ ?_
          rotate_left 2
          · (intro w' _; go_simp; with_reducible rfl)
          · (simp only [Act.put, List.setIfInBounds_toArray, List.set_cons_zero, List.set_cons_succ]; rfl)
          refine pureF (v := ?_) 15 (some 36) #[true, true, true, true, true, true, true, true, true, true, true, true, true, true, true, true, false, false, false, false, false, false, false, false, false, false, false, false] ?_ rfl rfl (by kernel_rfl) (fun _ _ _ h => h) ⟨Or.inl ⟨by rfl, ?_⟩, fun _ _ _ => trivial⟩ ?_ ?_
          rotate_left 2
          · (intro w' _; go_simp; with_reducible rfl)
          · (simp only [Act.put, List.setIfInBounds_toArray, List.set_cons_zero, List.set_cons_succ]; rfl)
          refine pureF (v := undef) 16 (some 37) #[true, true, true, true, true, true, true, true, true, true, true, true, true, true, true, true, true, false, false, false, false, false, false, false, false, false, false, false] ?_ rfl rfl (by kernel_rfl) (fun _ _ _ h => h) ⟨Or.inr ⟨by rfl, rfl⟩, fun _ _ _ => trivial⟩ ?_ ?_
          rotate_left 1
          · (simp only [Act.put, List.setIfInBounds_toArray, List.set_cons_zero, List.set_cons_succ]; rfl)
          refine pureF (v := undef) 17 (some 38) #[true, true, true, true, true, true, true, true, true, true, true, true, true, true, true, true, true, true, false, false, false, false, false, false, false, false, false, false] ?_ rfl rfl (by kernel_rfl) (fun _ _ _ h => h) ⟨Or.inr ⟨by rfl, rfl⟩, fun _ _ _ => trivial⟩ ?_ ?_
          rotate_left 1
          · (simp only [Act.put, List.setIfInBounds_toArray, List.set_cons_zero, List.set_cons_succ]; rfl)
          refine pureF (v := undef) 18 (some 39) #[true, true, true, true, true, true, true, true, true, true, true, true, true, true, true, true, true, true, true, false, false, false, false, false, false, false, false, false] ?_ rfl rfl (by kernel_rfl) (fun _ _ _ h => h) ⟨Or.inr ⟨by rfl, rfl⟩, fun _ _ _ => trivial⟩ ?_ ?_
          rotate_left 1
          · (simp only [Act.put, List.setIfInBounds_toArray, List.set_cons_zero, List.set_cons_succ]; rfl)
          refine pureF (v := undef) 19 (some 40) #[true, true, true, true, true, true, true, true, true, true, true, true, true, true, true, true, true, true, true, true, false, false, false, false, false, false, false, false] ?_ rfl rfl (by kernel_rfl) (fun _ _ _ h => h) ⟨Or.inr ⟨by rfl, rfl⟩, fun _ _ _ => trivial⟩ ?_ ?_
          rotate_left 1
          · (simp only [Act.put, List.setIfInBounds_toArray, List.set_cons_zero, List.set_cons_succ]; rfl)
          refine pureF (v := undef) 20 (some 41) #[true, true, true, true, true, true, true, true, true, true, true, true, true, true, true, true, true, true, true, true, true, false, false, false, false, false, false, false] ?_ rfl rfl (by kernel_rfl) (fun _ _ _ h => h) ⟨Or.inr ⟨by rfl, rfl⟩, fun _ _ _ => trivial⟩ ?_ ?_
          rotate_left 1
          · (simp only [Act.put, List.setIfInBounds_toArray, List.set_cons_zero, List.set_cons_succ]; rfl)
          refine pureF (v := undef) 21 (some 42) #[true, true, true, true, true, true, true, true, true, true, true, true, true, true, true, true, true, true, true, true, true, true, false, false, false, false, false, false] ?_ rfl rfl (by kernel_rfl) (fun _ _ _ h => h) ⟨Or.inr ⟨by rfl, rfl⟩, fun _ _ _ => trivial⟩ ?_ ?_
          rotate_left 1
          · (simp only [Act.put, List.setIfInBounds_toArray, List.set_cons_zero, List.set_cons_succ]; rfl)
          refine pureF (v := undef) 22 (some 43) #[true, true, true, true, true, true, true, true, true, true, true, true, true, true, true, true, true, true, true, true, true, true, true, false, false, false, false, false] ?_ rfl rfl (by kernel_rfl) (fun _ _ _ h => h) ⟨Or.inr ⟨by rfl, rfl⟩, fun _ _ _ => trivial⟩ ?_ ?_
          rotate_left 1
          · (simp only [Act.put, List.setIfInBounds_toArray, List.set_cons_zero, List.set_cons_succ]; rfl)
          refine pureF (v := undef) 23 (some 44) #[true, true, true, true, true, true, true, true, true, true, true, true, true, true, true, true, true, true, true, true, true, true, true, true, false, false, false, false] ?_ rfl rfl (by kernel_rfl) (fun _ _ _ h => h) ⟨Or.inr ⟨by rfl, rfl⟩, fun _ _ _ => trivial⟩ ?_ ?_
          rotate_left 1
          · (simp only [Act.put, List.setIfInBounds_toArray, List.set_cons_zero, List.set_cons_succ]; rfl)
          refine pureF (v := undef) 24 (some 45) #[true, true, true, true, true, true, true, true, true, true, true, true, true, true, true, true, true, true, true, true, true, true, true, true, true, false, false, false] ?_ rfl rfl (by kernel_rfl) (fun _ _ _ h => h) ⟨Or.inr ⟨by rfl, rfl⟩, fun _ _ _ => trivial⟩ ?_ ?_
          rotate_left 1
          · (simp only [Act.put, List.setIfInBounds_toArray, List.set_cons_zero, List.set_cons_succ]; rfl)
          refine pureF (v := undef) 25 (some 46) #[true, true, true, true, true, true, true, true, true, true, true, true, true, true, true, true, true, true, true, true, true, true, true, true, true, true, false, false] ?_ rfl rfl (by kernel_rfl) (fun _ _ _ h => h) ⟨Or.inr ⟨by rfl, rfl⟩, fun _ _ _ => trivial⟩ ?_ ?_
          rotate_left 1
          · (simp only [Act.put, List.setIfInBounds_toArray, List.set_cons_zero, List.set_cons_succ]; rfl)
          refine pureF (v := ?_) 26 (some 47) #[true, true, true, true, true, true, true, true, true, true, true, true, true, true, true, true, true, true, true, true, true, true, true, true, true, true, true, false] ?_ rfl rfl (by kernel_rfl) (fun _ _ _ h => h) ⟨Or.inl ⟨by rfl, ?_⟩, fun _ _ _ => trivial⟩ ?_ ?_
          rotate_left 2
          · (intro w' _; go_simp; with_reducible rfl)
          · (simp only [Act.put, List.setIfInBounds_toArray, List.set_cons_zero, List.set_cons_succ]; rfl)
          refine pureF (v := ?_) 27 (some 10) #[true, true, true, true, true, true, true, true, true, true, true, true, true, true, true, true, true, true, true, true, true, true, true, true, true, true, true, true] ?_ rfl rfl (by kernel_rfl) (fun _ _ _ h => h) ⟨Or.inl ⟨by rfl, ?_⟩, fun _ _ _ => trivial⟩ ?_ ?_
          rotate_left 2
          · (intro w' _; go_simp; with_reducible rfl)
          · (simp only [Act.put, List.setIfInBounds_toArray, List.set_cons_zero, List.set_cons_succ]; rfl)
          clear hHeld
          refine doneF (by kernel_rfl) ?_
          go_wp2
          go_ret
          exact ⟨rfl, below_drew1 (below_drew1 HB2.out)⟩
      · have H1 : (y.f0 == 2) = false := by simp [g1]
        have e : res = false := by rw [← hres]; simp [hear4B, g1]
        subst e
        clear hres g1 hnear
        go_upto_region 2 with (fail)
        refine (wpIn_wide (n := 5)).1 ?_
        refine startF (fun w' => w'.cell? ⟨w.heap.size, 0, none⟩ = some (.int .i64 y.f0) ∧ w'.cell? ⟨w.heap.size, 1, none⟩ = some (.int .i64 y.f1) ∧ w'.cell? ⟨w.heap.size + 1, 0, none⟩ = some (.int .i64 z.f0) ∧ w'.cell? ⟨w.heap.size + 1, 1, none⟩ = some (.int .i64 z.f1) ∧ w'.cell? (bd.add (a3.toNat * 2)) = some (.int .i64 p.f0) ∧ w'.cell? ⟨(bd.add (a3.toNat * 2)).block, (bd.add (a3.toNat * 2)).off + 1, none⟩ = some (.int .i64 p.f1) ∧ w'.cell? (bd.add (a4.toNat * 2)) = some (.int .i64 q.f0) ∧ w'.cell? ⟨(bd.add (a4.toNat * 2)).block, (bd.add (a4.toNat * 2)).off + 1, none⟩ = some (.int .i64 q.f1)) [] #[false, false, false, false, false, false, false, false, false, false, false, false, false, false, false, false, false, false, false, false, false, false, false, false, false, false, false, false] 28 (by kernel_rfl) (by kernel_rfl) ⟨b0, b1, d0, d1, r0, r1, t0, t1⟩ (fun hHeld => ?_)
        refine takeF (v := ?_) 0 (some 21) #[true, false, false, false, false, false, false, false, false, false, false, false, false, false, false, false, false, false, false, false, false, false, false, false, false, false, false, false] ?_ rfl rfl (by kernel_rfl) (fun _ _ _ h => h) ⟨Or.inl ⟨by rfl, ?_⟩, fun _ _ _ => trivial⟩ ?_ hHeld ?_
        rotate_left 2
        · (rintro w' ⟨s0, s1, s2, s3, s4, s5, s6, s7⟩; go_simp; with_reducible rfl)
        · (simp only [Act.put, List.setIfInBounds_toArray, List.set_cons_zero, List.set_cons_succ]; rfl)
        refine takeF (v := ?_) 1 (some 22) #[true, true, false, false, false, false, false, false, false, false, false, false, false, false, false, false, false, false, false, false, false, false, false, false, false, false, false, false] ?_ rfl rfl (by kernel_rfl) (fun _ _ _ h => h) ⟨Or.inl ⟨by rfl, ?_⟩, fun _ _ _ => trivial⟩ ?_ hHeld ?_
        rotate_left 2
        · (rintro w' ⟨s0, s1, s2, s3, s4, s5, s6, s7⟩; go_simp; with_reducible rfl)
        · (simp only [Act.put, List.setIfInBounds_toArray, List.set_cons_zero, List.set_cons_succ]; rfl)
        refine takeF (v := ?_) 2 (some 23) #[true, true, true, false, false, false, false, false, false, false, false, false, false, false, false, false, false, false, false, false, false, false, false, false, false, false, false, false] ?_ rfl rfl (by kernel_rfl) (fun _ _ _ h => h) ⟨Or.inl ⟨by rfl, ?_⟩, fun _ _ _ => trivial⟩ ?_ hHeld ?_
        rotate_left 2
        · (rintro w' ⟨s0, s1, s2, s3, s4, s5, s6, s7⟩; go_simp; with_reducible rfl)
        · (simp only [Act.put, List.setIfInBounds_toArray, List.set_cons_zero, List.set_cons_succ]; rfl)
        refine takeF (v := ?_) 3 (some 24) #[true, true, true, true, false, false, false, false, false, false, false, false, false, false, false, false, false, false, false, false, false, false, false, false, false, false, false, false] ?_ rfl rfl (by kernel_rfl) (fun _ _ _ h => h) ⟨Or.inl ⟨by rfl, ?_⟩, fun _ _ _ => trivial⟩ ?_ hHeld ?_
        rotate_left 2
        · (rintro w' ⟨s0, s1, s2, s3, s4, s5, s6, s7⟩; go_simp; with_reducible rfl)
        · (simp only [Act.put, List.setIfInBounds_toArray, List.set_cons_zero, List.set_cons_succ]; rfl)
        refine pureF (v := undef) 4 (some 25) #[true, true, true, true, true, false, false, false, false, false, false, false, false, false, false, false, false, false, false, false, false, false, false, false, false, false, false, false] ?_ rfl rfl (by kernel_rfl) (fun _ _ _ h => h) ⟨Or.inr ⟨by rfl, rfl⟩, fun _ _ _ => trivial⟩ ?_ ?_
        rotate_left 1
        · (simp only [Act.put, List.setIfInBounds_toArray, List.set_cons_zero, List.set_cons_succ]; rfl)
        refine pureF (v := undef) 5 (some 26) #[true, true, true, true, true, true, false, false, false, false, false, false, false, false, false, false, false, false, false, false, false, false, false, false, false, false, false, false] ?_ rfl rfl (by kernel_rfl) (fun _ _ _ h => h) ⟨Or.inr ⟨by rfl, rfl⟩, fun _ _ _ => trivial⟩ ?_ ?_
        rotate_left 1
        · (simp only [Act.put, List.setIfInBounds_toArray, List.set_cons_zero, List.set_cons_succ]; rfl)
        refine pureF (v := undef) 6 (some 27) #[true, true, true, true, true, true, true, false, false, false, false, false, false, false, false, false, false, false, false, false, false, false, false, false, false, false, false, false] ?_ rfl rfl (by kernel_rfl) (fun _ _ _ h => h) ⟨Or.inr ⟨by rfl, rfl⟩, fun _ _ _ => trivial⟩ ?_ ?_
        rotate_left 1
        · (simp only [Act.put, List.setIfInBounds_toArray, List.set_cons_zero, List.set_cons_succ]; rfl)
        refine pureF (v := ?_) 7 (some 28) #[true, true, true, true, true, true, true, true, false, false, false, false, false, false, false, false, false, false, false, false, false, false, false, false, false, false, false, false] ?_ rfl rfl (by kernel_rfl) (fun _ _ _ h => h) ⟨Or.inl ⟨by rfl, ?_⟩, fun _ _ _ => trivial⟩ ?_ ?_
        rotate_left 2
        · (intro w' _; go_simp; with_reducible rfl)
        · (simp only [Act.put, List.setIfInBounds_toArray, List.set_cons_zero, List.set_cons_succ]; rfl)
        refine pureF (v := ?_) 8 (some 29) #[true, true, true, true, true, true, true, true, true, false, false, false, false, false, false, false, false, false, false, false, false, false, false, false, false, false, false, false] ?_ rfl rfl (by kernel_rfl) (fun _ _ _ h => h) ⟨Or.inl ⟨by rfl, ?_⟩, fun _ _ _ => trivial⟩ ?_ ?_
        rotate_left 2
        · (intro w' _; go_simp; with_reducible rfl)
        · (simp only [Act.put, List.setIfInBounds_toArray, List.set_cons_zero, List.set_cons_succ]; rfl)
        refine pureF (v := undef) 9 (some 30) #[true, true, true, true, true, true, true, true, true, true, false, false, false, false, false, false, false, false, false, false, false, false, false, false, false, false, false, false] ?_ rfl rfl (by kernel_rfl) (fun _ _ _ h => h) ⟨Or.inr ⟨by rfl, rfl⟩, fun _ _ _ => trivial⟩ ?_ ?_
        rotate_left 1
        · (simp only [Act.put, List.setIfInBounds_toArray, List.set_cons_zero, List.set_cons_succ]; rfl)
        refine pureF (v := undef) 10 (some 31) #[true, true, true, true, true, true, true, true, true, true, true, false, false, false, false, false, false, false, false, false, false, false, false, false, false, false, false, false] ?_ rfl rfl (by kernel_rfl) (fun _ _ _ h => h) ⟨Or.inr ⟨by rfl, rfl⟩, fun _ _ _ => trivial⟩ ?_ ?_
        rotate_left 1
        · (simp only [Act.put, List.setIfInBounds_toArray, List.set_cons_zero, List.set_cons_succ]; rfl)
        refine pureF (v := undef) 11 (some 32) #[true, true, true, true, true, true, true, true, true, true, true, true, false, false, false, false, false, false, false, false, false, false, false, false, false, false, false, false] ?_ rfl rfl (by kernel_rfl) (fun _ _ _ h => h) ⟨Or.inr ⟨by rfl, rfl⟩, fun _ _ _ => trivial⟩ ?_ ?_
        rotate_left 1
        · (simp only [Act.put, List.setIfInBounds_toArray, List.set_cons_zero, List.set_cons_succ]; rfl)
        refine pureF (v := undef) 12 (some 33) #[true, true, true, true, true, true, true, true, true, true, true, true, true, false, false, false, false, false, false, false, false, false, false, false, false, false, false, false] ?_ rfl rfl (by kernel_rfl) (fun _ _ _ h => h) ⟨Or.inr ⟨by rfl, rfl⟩, fun _ _ _ => trivial⟩ ?_ ?_
        rotate_left 1
        · (simp only [Act.put, List.setIfInBounds_toArray, List.set_cons_zero, List.set_cons_succ]; rfl)
        refine pureF (v := undef) 13 (some 34) #[true, true, true, true, true, true, true, true, true, true, true, true, true, true, false, false, false, false, false, false, false, false, false, false, false, false, false, false] ?_ rfl rfl (by kernel_rfl) (fun _ _ _ h => h) ⟨Or.inr ⟨by rfl, rfl⟩, fun _ _ _ => trivial⟩ ?_ ?_
        rotate_left 1
        · (simp only [Act.put, List.setIfInBounds_toArray, List.set_cons_zero, List.set_cons_succ]; rfl)
        refine pureF (v := ?_) 14 (some 35) #[true, true, true, true, true, true, true, true, true, true, true, true, true, true, true, false, false, false, false, false, false, false, false, false, false, false, false, false] ?_ rfl rfl (by kernel_rfl) (fun _ _ _ h => h) ⟨Or.inl ⟨by rfl, ?_⟩, fun _ _ _ => trivial⟩ ?_ ?_
        rotate_left 2
        · (intro w' _; go_simp; with_reducible rfl)
        · (simp only [Act.put, List.setIfInBounds_toArray, List.set_cons_zero, List.set_cons_succ]; rfl)
        refine pureF (v := ?_) 15 (some 36) #[true, true, true, true, true, true, true, true, true, true, true, true, true, true, true, true, false, false, false, false, false, false, false, false, false, false, false, false] ?_ rfl rfl (by kernel_rfl) (fun _ _ _ h => h) ⟨Or.inl ⟨by rfl, ?_⟩, fun _ _ _ => trivial⟩ ?_ ?_
        rotate_left 2
        · (intro w' _; go_simp; with_reducible rfl)
        · (simp only [Act.put, List.setIfInBounds_toArray, List.set_cons_zero, List.set_cons_succ]; rfl)
        refine pureF (v := undef) 16 (some 37) #[true, true, true, true, true, true, true, true, true, true, true, true, true, true, true, true, true, false, false, false, false, false, false, false, false, false, false, false] ?_ rfl rfl (by kernel_rfl) (fun _ _ _ h => h) ⟨Or.inr ⟨by rfl, rfl⟩, fun _ _ _ => trivial⟩ ?_ ?_
        rotate_left 1
        · (simp only [Act.put, List.setIfInBounds_toArray, List.set_cons_zero, List.set_cons_succ]; rfl)
        refine pureF (v := undef) 17 (some 38) #[true, true, true, true, true, true, true, true, true, true, true, true, true, true, true, true, true, true, false, false, false, false, false, false, false, false, false, false] ?_ rfl rfl (by kernel_rfl) (fun _ _ _ h => h) ⟨Or.inr ⟨by rfl, rfl⟩, fun _ _ _ => trivial⟩ ?_ ?_
        rotate_left 1
        · (simp only [Act.put, List.setIfInBounds_toArray, List.set_cons_zero, List.set_cons_succ]; rfl)
        refine pureF (v := undef) 18 (some 39) #[true, true, true, true, true, true, true, true, true, true, true, true, true, true, true, true, true, true, true, false, false, false, false, false, false, false, false, false] ?_ rfl rfl (by kernel_rfl) (fun _ _ _ h => h) ⟨Or.inr ⟨by rfl, rfl⟩, fun _ _ _ => trivial⟩ ?_ ?_
        rotate_left 1
        · (simp only [Act.put, List.setIfInBounds_toArray, List.set_cons_zero, List.set_cons_succ]; rfl)
        refine pureF (v := undef) 19 (some 40) #[true, true, true, true, true, true, true, true, true, true, true, true, true, true, true, true, true, true, true, true, false, false, false, false, false, false, false, false] ?_ rfl rfl (by kernel_rfl) (fun _ _ _ h => h) ⟨Or.inr ⟨by rfl, rfl⟩, fun _ _ _ => trivial⟩ ?_ ?_
        rotate_left 1
        · (simp only [Act.put, List.setIfInBounds_toArray, List.set_cons_zero, List.set_cons_succ]; rfl)
        refine pureF (v := undef) 20 (some 41) #[true, true, true, true, true, true, true, true, true, true, true, true, true, true, true, true, true, true, true, true, true, false, false, false, false, false, false, false] ?_ rfl rfl (by kernel_rfl) (fun _ _ _ h => h) ⟨Or.inr ⟨by rfl, rfl⟩, fun _ _ _ => trivial⟩ ?_ ?_
        rotate_left 1
        · (simp only [Act.put, List.setIfInBounds_toArray, List.set_cons_zero, List.set_cons_succ]; rfl)
        refine pureF (v := undef) 21 (some 42) #[true, true, true, true, true, true, true, true, true, true, true, true, true, true, true, true, true, true, true, true, true, true, false, false, false, false, false, false] ?_ rfl rfl (by kernel_rfl) (fun _ _ _ h => h) ⟨Or.inr ⟨by rfl, rfl⟩, fun _ _ _ => trivial⟩ ?_ ?_
        rotate_left 1
        · (simp only [Act.put, List.setIfInBounds_toArray, List.set_cons_zero, List.set_cons_succ]; rfl)
        refine pureF (v := undef) 22 (some 43) #[true, true, true, true, true, true, true, true, true, true, true, true, true, true, true, true, true, true, true, true, true, true, true, false, false, false, false, false] ?_ rfl rfl (by kernel_rfl) (fun _ _ _ h => h) ⟨Or.inr ⟨by rfl, rfl⟩, fun _ _ _ => trivial⟩ ?_ ?_
        rotate_left 1
        · (simp only [Act.put, List.setIfInBounds_toArray, List.set_cons_zero, List.set_cons_succ]; rfl)
        refine pureF (v := undef) 23 (some 44) #[true, true, true, true, true, true, true, true, true, true, true, true, true, true, true, true, true, true, true, true, true, true, true, true, false, false, false, false] ?_ rfl rfl (by kernel_rfl) (fun _ _ _ h => h) ⟨Or.inr ⟨by rfl, rfl⟩, fun _ _ _ => trivial⟩ ?_ ?_
        rotate_left 1
        · (simp only [Act.put, List.setIfInBounds_toArray, List.set_cons_zero, List.set_cons_succ]; rfl)
        refine pureF (v := undef) 24 (some 45) #[true, true, true, true, true, true, true, true, true, true, true, true, true, true, true, true, true, true, true, true, true, true, true, true, true, false, false, false] ?_ rfl rfl (by kernel_rfl) (fun _ _ _ h => h) ⟨Or.inr ⟨by rfl, rfl⟩, fun _ _ _ => trivial⟩ ?_ ?_
        rotate_left 1
        · (simp only [Act.put, List.setIfInBounds_toArray, List.set_cons_zero, List.set_cons_succ]; rfl)
        refine pureF (v := undef) 25 (some 46) #[true, true, true, true, true, true, true, true, true, true, true, true, true, true, true, true, true, true, true, true, true, true, true, true, true, true, false, false] ?_ rfl rfl (by kernel_rfl) (fun _ _ _ h => h) ⟨Or.inr ⟨by rfl, rfl⟩, fun _ _ _ => trivial⟩ ?_ ?_
        rotate_left 1
        · (simp only [Act.put, List.setIfInBounds_toArray, List.set_cons_zero, List.set_cons_succ]; rfl)
        refine pureF (v := ?_) 26 (some 47) #[true, true, true, true, true, true, true, true, true, true, true, true, true, true, true, true, true, true, true, true, true, true, true, true, true, true, true, false] ?_ rfl rfl (by kernel_rfl) (fun _ _ _ h => h) ⟨Or.inl ⟨by rfl, ?_⟩, fun _ _ _ => trivial⟩ ?_ ?_
        rotate_left 2
        · (intro w' _; go_simp; with_reducible rfl)
        · (simp only [Act.put, List.setIfInBounds_toArray, List.set_cons_zero, List.set_cons_succ]; rfl)
        refine pureF (v := ?_) 27 (some 10) #[true, true, true, true, true, true, true, true, true, true, true, true, true, true, true, true, true, true, true, true, true, true, true, true, true, true, true, true] ?_ rfl rfl (by kernel_rfl) (fun _ _ _ h => h) ⟨Or.inl ⟨by rfl, ?_⟩, fun _ _ _ => trivial⟩ ?_ ?_
        rotate_left 2
        · (intro w' _; go_simp; with_reducible rfl)
        · (simp only [Act.put, List.setIfInBounds_toArray, List.set_cons_zero, List.set_cons_succ]; rfl)
        clear hHeld
        refine doneF (by kernel_rfl) ?_
        go_wp2
        go_ret
        exact ⟨rfl, below_drew1 (below_drew1 HB2.out)⟩
    · rename_i hHx
      clear hHx
      have e1 := World.size_alloc (w := w) (o := .cells #[.int .i64 z.f0, .int .i64 z.f1, .int .i64 z.f2, .int .i64 z.f3.f0, .int .i64 z.f3.f1] 50)
      have n1 := World.alloc_heap_new w (.cells #[.int .i64 z.f0, .int .i64 z.f1, .int .i64 z.f2, .int .i64 z.f3.f0, .int .i64 z.f3.f1] 50)
      have n1' : (((w.alloc (.cells #[.int .i64 z.f0, .int .i64 z.f1, .int .i64 z.f2, .int .i64 z.f3.f0, .int .i64 z.f3.f1] 50)).alloc (.cells #[.int .i64 y.f0, .int .i64 y.f1, .int .i64 y.f2, .int .i64 y.f3.f0, .int .i64 y.f3.f1] 50))).heap[w.heap.size]? = some (.cells #[.int .i64 z.f0, .int .i64 z.f1, .int .i64 z.f2, .int .i64 z.f3.f0, .int .i64 z.f3.f1] 50) := (Below.heap_alloc _ _ _ (by rw [e1]; omega)).trans n1
      have n2 := World.alloc_heap_new (w.alloc (.cells #[.int .i64 z.f0, .int .i64 z.f1, .int .i64 z.f2, .int .i64 z.f3.f0, .int .i64 z.f3.f1] 50)) (.cells #[.int .i64 y.f0, .int .i64 y.f1, .int .i64 y.f2, .int .i64 y.f3.f0, .int .i64 y.f3.f1] 50)
      rw [e1] at n2
      have hB2 := below_alloc (below_alloc (Below.refl w.heap.size w) (.cells #[.int .i64 z.f0, .int .i64 z.f1, .int .i64 z.f2, .int .i64 z.f3.f0, .int .i64 z.f3.f1] 50)) (.cells #[.int .i64 y.f0, .int .i64 y.f1, .int .i64 y.f2, .int .i64 y.f3.f0, .int .i64 y.f3.f1] 50)
      have b0 : ((w.alloc (.cells #[.int .i64 z.f0, .int .i64 z.f1, .int .i64 z.f2, .int .i64 z.f3.f0, .int .i64 z.f3.f1] 50)).alloc (.cells #[.int .i64 y.f0, .int .i64 y.f1, .int .i64 y.f2, .int .i64 y.f3.f0, .int .i64 y.f3.f1] 50)).cell? ⟨w.heap.size + 1, 0, none⟩ = some (.int .i64 y.f0) := cellOf n2 rfl
      have b1 : ((w.alloc (.cells #[.int .i64 z.f0, .int .i64 z.f1, .int .i64 z.f2, .int .i64 z.f3.f0, .int .i64 z.f3.f1] 50)).alloc (.cells #[.int .i64 y.f0, .int .i64 y.f1, .int .i64 y.f2, .int .i64 y.f3.f0, .int .i64 y.f3.f1] 50)).cell? ⟨w.heap.size + 1, 1, none⟩ = some (.int .i64 y.f1) := cellOf n2 rfl
      have d0 : ((w.alloc (.cells #[.int .i64 z.f0, .int .i64 z.f1, .int .i64 z.f2, .int .i64 z.f3.f0, .int .i64 z.f3.f1] 50)).alloc (.cells #[.int .i64 y.f0, .int .i64 y.f1, .int .i64 y.f2, .int .i64 y.f3.f0, .int .i64 y.f3.f1] 50)).cell? ⟨w.heap.size, 0, none⟩ = some (.int .i64 z.f0) := cellOf n1' rfl
      have d1 : ((w.alloc (.cells #[.int .i64 z.f0, .int .i64 z.f1, .int .i64 z.f2, .int .i64 z.f3.f0, .int .i64 z.f3.f1] 50)).alloc (.cells #[.int .i64 y.f0, .int .i64 y.f1, .int .i64 y.f2, .int .i64 y.f3.f0, .int .i64 y.f3.f1] 50)).cell? ⟨w.heap.size, 1, none⟩ = some (.int .i64 z.f1) := cellOf n1' rfl
      have r0 := pw_cell_below hB2 p0
      have r1 := pw_cell_below hB2 p1
      have t0 := pw_cell_below hB2 q0
      have t1 := pw_cell_below hB2 q1
      have HB2 := Aside0.mk hB2
      clear hB2 n1 n1' n2 e1
      by_cases g1 : y.f0 = 2
      · have H1 : (y.f0 == 2) = true := by simp [g1]
        by_cases g2 : z.f0 = 1
        · have H2 : (z.f0 == 1) = true := by simp [g2]
          by_cases g3 : y.f1 = z.f1
          · have H3 : (y.f1 == z.f1) = true := by simp [g3]
            have e : res = nearB p q a2 := by rw [← hres]; simp [hear4B, g1, g2, g3]
            simp only [← e] at hnear
            clear e hres g1 g2 g3
            go_upto_region 2 with (fail)
            go_region_held3 (fun w' => w'.cell? ⟨w.heap.size + 1, 0, none⟩ = some (.int .i64 y.f0) ∧ w'.cell? ⟨w.heap.size + 1, 1, none⟩ = some (.int .i64 y.f1) ∧ w'.cell? ⟨w.heap.size, 0, none⟩ = some (.int .i64 z.f0) ∧ w'.cell? ⟨w.heap.size, 1, none⟩ = some (.int .i64 z.f1) ∧ w'.cell? (bd.add (a3.toNat * 2)) = some (.int .i64 p.f0) ∧ w'.cell? ⟨(bd.add (a3.toNat * 2)).block, (bd.add (a3.toNat * 2)).off + 1, none⟩ = some (.int .i64 p.f1) ∧ w'.cell? (bd.add (a4.toNat * 2)) = some (.int .i64 q.f0) ∧ w'.cell? ⟨(bd.add (a4.toNat * 2)).block, (bd.add (a4.toNat * 2)).off + 1, none⟩ = some (.int .i64 q.f1)) (first | go_keep | (refine ⟨?_, ?_, ?_, ?_, ?_, ?_, ?_, ?_⟩ <;> (refine pw_cell_below (by assumption) ?_; assumption))) (first | (go_at_call 21; refine (hnear _).mono ?_; rintro e w' ⟨rfl, hb⟩))
            have BN := Aside0.mk (HB2.out.trans (((Below.refl _ _).drew.drew.trans hb).mono HB2.out.size))
            clear hb
            go_wp2
            go_ret
            exact ⟨rfl, BN.out⟩
          · have H3 : (y.f1 == z.f1) = false := by simp [g3]
            have e : res = false := by rw [← hres]; simp [hear4B, g3]
            subst e
            clear hres g1 g2 g3 hnear
            go_upto_region 2 with (fail)
            refine (wpIn_wide (n := 5)).1 ?_
            refine startF (fun w' => w'.cell? ⟨w.heap.size + 1, 0, none⟩ = some (.int .i64 y.f0) ∧ w'.cell? ⟨w.heap.size + 1, 1, none⟩ = some (.int .i64 y.f1) ∧ w'.cell? ⟨w.heap.size, 0, none⟩ = some (.int .i64 z.f0) ∧ w'.cell? ⟨w.heap.size, 1, none⟩ = some (.int .i64 z.f1) ∧ w'.cell? (bd.add (a3.toNat * 2)) = some (.int .i64 p.f0) ∧ w'.cell? ⟨(bd.add (a3.toNat * 2)).block, (bd.add (a3.toNat * 2)).off + 1, none⟩ = some (.int .i64 p.f1) ∧ w'.cell? (bd.add (a4.toNat * 2)) = some (.int .i64 q.f0) ∧ w'.cell? ⟨(bd.add (a4.toNat * 2)).block, (bd.add (a4.toNat * 2)).off + 1, none⟩ = some (.int .i64 q.f1)) [] #[false, false, false, false, false, false, false, false, false, false, false, false, false, false, false, false, false, false, false, false, false, false, false, false, false, false, false, false] 28 (by kernel_rfl) (by kernel_rfl) ⟨b0, b1, d0, d1, r0, r1, t0, t1⟩ (fun hHeld => ?_)
            refine takeF (v := ?_) 0 (some 21) #[true, false, false, false, false, false, false, false, false, false, false, false, false, false, false, false, false, false, false, false, false, false, false, false, false, false, false, false] ?_ rfl rfl (by kernel_rfl) (fun _ _ _ h => h) ⟨Or.inl ⟨by rfl, ?_⟩, fun _ _ _ => trivial⟩ ?_ hHeld ?_
            rotate_left 2
            · (rintro w' ⟨s0, s1, s2, s3, s4, s5, s6, s7⟩; go_simp; with_reducible rfl)
            · (simp only [Act.put, List.setIfInBounds_toArray, List.set_cons_zero, List.set_cons_succ]; rfl)
            refine takeF (v := ?_) 1 (some 22) #[true, true, false, false, false, false, false, false, false, false, false, false, false, false, false, false, false, false, false, false, false, false, false, false, false, false, false, false] ?_ rfl rfl (by kernel_rfl) (fun _ _ _ h => h) ⟨Or.inl ⟨by rfl, ?_⟩, fun _ _ _ => trivial⟩ ?_ hHeld ?_
            rotate_left 2
            · (rintro w' ⟨s0, s1, s2, s3, s4, s5, s6, s7⟩; go_simp; with_reducible rfl)
            · (simp only [Act.put, List.setIfInBounds_toArray, List.set_cons_zero, List.set_cons_succ]; rfl)
            refine takeF (v := ?_) 2 (some 23) #[true, true, true, false, false, false, false, false, false, false, false, false, false, false, false, false, false, false, false, false, false, false, false, false, false, false, false, false] ?_ rfl rfl (by kernel_rfl) (fun _ _ _ h => h) ⟨Or.inl ⟨by rfl, ?_⟩, fun _ _ _ => trivial⟩ ?_ hHeld ?_
            rotate_left 2
            · (rintro w' ⟨s0, s1, s2, s3, s4, s5, s6, s7⟩; go_simp; with_reducible rfl)
            · (simp only [Act.put, List.setIfInBounds_toArray, List.set_cons_zero, List.set_cons_succ]; rfl)
            refine takeF (v := ?_) 3 (some 24) #[true, true, true, true, false, false, false, false, false, false, false, false, false, false, false, false, false, false, false, false, false, false, false, false, false, false, false, false] ?_ rfl rfl (by kernel_rfl) (fun _ _ _ h => h) ⟨Or.inl ⟨by rfl, ?_⟩, fun _ _ _ => trivial⟩ ?_ hHeld ?_
            rotate_left 2
            · (rintro w' ⟨s0, s1, s2, s3, s4, s5, s6, s7⟩; go_simp; with_reducible rfl)
            · (simp only [Act.put, List.setIfInBounds_toArray, List.set_cons_zero, List.set_cons_succ]; rfl)
            refine takeF (v := ?_) 4 (some 25) #[true, true, true, true, true, false, false, false, false, false, false, false, false, false, false, false, false, false, false, false, false, false, false, false, false, false, false, false] ?_ rfl rfl (by kernel_rfl) (fun _ _ _ h => h) ⟨Or.inl ⟨by rfl, ?_⟩, fun _ _ _ => trivial⟩ ?_ hHeld ?_
            rotate_left 2
            · (rintro w' ⟨s0, s1, s2, s3, s4, s5, s6, s7⟩; go_simp; with_reducible rfl)
            · (simp only [Act.put, List.setIfInBounds_toArray, List.set_cons_zero, List.set_cons_succ]; rfl)
            refine takeF (v := ?_) 5 (some 26) #[true, true, true, true, true, true, false, false, false, false, false, false, false, false, false, false, false, false, false, false, false, false, false, false, false, false, false, false] ?_ rfl rfl (by kernel_rfl) (fun _ _ _ h => h) ⟨Or.inl ⟨by rfl, ?_⟩, fun _ _ _ => trivial⟩ ?_ hHeld ?_
            rotate_left 2
            · (rintro w' ⟨s0, s1, s2, s3, s4, s5, s6, s7⟩; go_simp; with_reducible rfl)
            · (simp only [Act.put, List.setIfInBounds_toArray, List.set_cons_zero, List.set_cons_succ]; rfl)
            refine takeF (v := ?_) 6 (some 27) #[true, true, true, true, true, true, true, false, false, false, false, false, false, false, false, false, false, false, false, false, false, false, false, false, false, false, false, false] ?_ rfl rfl (by kernel_rfl) (fun _ _ _ h => h) ⟨Or.inl ⟨by rfl, ?_⟩, fun _ _ _ => trivial⟩ ?_ hHeld ?_
            rotate_left 2
            · (rintro w' ⟨s0, s1, s2, s3, s4, s5, s6, s7⟩; go_simp; with_reducible rfl)
            · (simp only [Act.put, List.setIfInBounds_toArray, List.set_cons_zero, List.set_cons_succ]; rfl)
            refine takeF (v := ?_) 7 (some 28) #[true, true, true, true, true, true, true, true, false, false, false, false, false, false, false, false, false, false, false, false, false, false, false, false, false, false, false, false] ?_ rfl rfl (by kernel_rfl) (fun _ _ _ h => h) ⟨Or.inl ⟨by rfl, ?_⟩, fun _ _ _ => trivial⟩ ?_ hHeld ?_
            rotate_left 2
            · (rintro w' ⟨s0, s1, s2, s3, s4, s5, s6, s7⟩; go_simp; with_reducible rfl)
            · (simp only [Act.put, List.setIfInBounds_toArray, List.set_cons_zero, List.set_cons_succ]; rfl)
            refine takeF (v := ?_) 8 (some 29) #[true, true, true, true, true, true, true, true, true, false, false, false, false, false, false, false, false, false, false, false, false, false, false, false, false, false, false, false] ?_ rfl rfl (by kernel_rfl) (fun _ _ _ h => h) ⟨Or.inl ⟨by rfl, ?_⟩, fun _ _ _ => trivial⟩ ?_ hHeld ?_
            rotate_left 2
            · (rintro w' ⟨s0, s1, s2, s3, s4, s5, s6, s7⟩; go_simp; with_reducible rfl)
            · (simp only [Act.put, List.setIfInBounds_toArray, List.set_cons_zero, List.set_cons_succ]; rfl)
            refine takeF (v := ?_) 9 (some 30) #[true, true, true, true, true, true, true, true, true, true, false, false, false, false, false, false, false, false, false, false, false, false, false, false, false, false, false, false] ?_ rfl rfl (by kernel_rfl) (fun _ _ _ h => h) ⟨Or.inl ⟨by rfl, ?_⟩, fun _ _ _ => trivial⟩ ?_ hHeld ?_
            rotate_left 2
            · (rintro w' ⟨s0, s1, s2, s3, s4, s5, s6, s7⟩; go_simp; with_reducible rfl)
            · (simp only [Act.put, List.setIfInBounds_toArray, List.set_cons_zero, List.set_cons_succ]; rfl)
            refine takeF (v := ?_) 10 (some 31) #[true, true, true, true, true, true, true, true, true, true, true, false, false, false, false, false, false, false, false, false, false, false, false, false, false, false, false, false] ?_ rfl rfl (by kernel_rfl) (fun _ _ _ h => h) ⟨Or.inl ⟨by rfl, ?_⟩, fun _ _ _ => trivial⟩ ?_ hHeld ?_
            rotate_left 2
            · (rintro w' ⟨s0, s1, s2, s3, s4, s5, s6, s7⟩; go_simp; with_reducible rfl)
            · (simp only [Act.put, List.setIfInBounds_toArray, List.set_cons_zero, List.set_cons_succ]; rfl)
            refine takeF (v := ?_) 11 (some 32) #[true, true, true, true, true, true, true, true, true, true, true, true, false, false, false, false, false, false, false, false, false, false, false, false, false, false, false, false] ?_ rfl rfl (by kernel_rfl) (fun _ _ _ h => h) ⟨Or.inl ⟨by rfl, ?_⟩, fun _ _ _ => trivial⟩ ?_ hHeld ?_
            rotate_left 2
            · (rintro w' ⟨s0, s1, s2, s3, s4, s5, s6, s7⟩; go_simp; with_reducible rfl)
            · (simp only [Act.put, List.setIfInBounds_toArray, List.set_cons_zero, List.set_cons_succ]; rfl)
            refine takeF (v := ?_) 12 (some 33) #[true, true, true, true, true, true, true, true, true, true, true, true, true, false, false, false, false, false, false, false, false, false, false, false, false, false, false, false] ?_ rfl rfl (by kernel_rfl) (fun _ _ _ h => h) ⟨Or.inl ⟨by rfl, ?_⟩, fun _ _ _ => trivial⟩ ?_ hHeld ?_
            rotate_left 2
            · (rintro w' ⟨s0, s1, s2, s3, s4, s5, s6, s7⟩; go_simp; with_reducible rfl)
            · (simp only [Act.put, List.setIfInBounds_toArray, List.set_cons_zero, List.set_cons_succ]; rfl)
            refine takeF (v := ?_) 13 (some 34) #[true, true, true, true, true, true, true, true, true, true, true, true, true, true, false, false, false, false, false, false, false, false, false, false, false, false, false, false] ?_ rfl rfl (by kernel_rfl) (fun _ _ _ h => h) ⟨Or.inl ⟨by rfl, ?_⟩, fun _ _ _ => trivial⟩ ?_ hHeld ?_
            rotate_left 2
            · (rintro w' ⟨s0, s1, s2, s3, s4, s5, s6, s7⟩; go_simp; with_reducible rfl)
            · (simp only [Act.put, List.setIfInBounds_toArray, List.set_cons_zero, List.set_cons_succ]; rfl)
            refine takeF (v := ?_) 14 (some 35) #[true, true, true, true, true, true, true, true, true, true, true, true, true, true, true, false, false, false, false, false, false, false, false, false, false, false, false, false] ?_ rfl rfl (by kernel_rfl) (fun _ _ _ h => h) ⟨Or.inl ⟨by rfl, ?_⟩, fun _ _ _ => trivial⟩ ?_ hHeld ?_
            rotate_left 2
            · (rintro w' ⟨s0, s1, s2, s3, s4, s5, s6, s7⟩; go_simp; with_reducible rfl)
            · (simp only [Act.put, List.setIfInBounds_toArray, List.set_cons_zero, List.set_cons_succ]; rfl)
            refine takeF (v := ?_) 15 (some 36) #[true, true, true, true, true, true, true, true, true, true, true, true, true, true, true, true, false, false, false, false, false, false, false, false, false, false, false, false] ?_ rfl rfl (by kernel_rfl) (fun _ _ _ h => h) ⟨Or.inl ⟨by rfl, ?_⟩, fun _ _ _ => trivial⟩ ?_ hHeld ?_
            rotate_left 2
            · (rintro w' ⟨s0, s1, s2, s3, s4, s5, s6, s7⟩; go_simp; with_reducible rfl)
            · (simp only [Act.put, List.setIfInBounds_toArray, List.set_cons_zero, List.set_cons_succ]; rfl)
            refine pureF (v := undef) 16 (some 37) #[true, true, true, true, true, true, true, true, true, true, true, true, true, true, true, true, true, false, false, false, false, false, false, false, false, false, false, false] ?_ rfl rfl (by kernel_rfl) (fun _ _ _ h => h) ⟨Or.inr ⟨by rfl, rfl⟩, fun _ _ _ => trivial⟩ ?_ ?_
            rotate_left 1
            · (simp only [Act.put, List.setIfInBounds_toArray, List.set_cons_zero, List.set_cons_succ]; rfl)
            refine pureF (v := undef) 17 (some 38) #[true, true, true, true, true, true, true, true, true, true, true, true, true, true, true, true, true, true, false, false, false, false, false, false, false, false, false, false] ?_ rfl rfl (by kernel_rfl) (fun _ _ _ h => h) ⟨Or.inr ⟨by rfl, rfl⟩, fun _ _ _ => trivial⟩ ?_ ?_
            rotate_left 1
            · (simp only [Act.put, List.setIfInBounds_toArray, List.set_cons_zero, List.set_cons_succ]; rfl)
            refine pureF (v := undef) 18 (some 39) #[true, true, true, true, true, true, true, true, true, true, true, true, true, true, true, true, true, true, true, false, false, false, false, false, false, false, false, false] ?_ rfl rfl (by kernel_rfl) (fun _ _ _ h => h) ⟨Or.inr ⟨by rfl, rfl⟩, fun _ _ _ => trivial⟩ ?_ ?_
            rotate_left 1
            · (simp only [Act.put, List.setIfInBounds_toArray, List.set_cons_zero, List.set_cons_succ]; rfl)
            refine pureF (v := undef) 19 (some 40) #[true, true, true, true, true, true, true, true, true, true, true, true, true, true, true, true, true, true, true, true, false, false, false, false, false, false, false, false] ?_ rfl rfl (by kernel_rfl) (fun _ _ _ h => h) ⟨Or.inr ⟨by rfl, rfl⟩, fun _ _ _ => trivial⟩ ?_ ?_
            rotate_left 1
            · (simp only [Act.put, List.setIfInBounds_toArray, List.set_cons_zero, List.set_cons_succ]; rfl)
            refine pureF (v := undef) 20 (some 41) #[true, true, true, true, true, true, true, true, true, true, true, true, true, true, true, true, true, true, true, true, true, false, false, false, false, false, false, false] ?_ rfl rfl (by kernel_rfl) (fun _ _ _ h => h) ⟨Or.inr ⟨by rfl, rfl⟩, fun _ _ _ => trivial⟩ ?_ ?_
            rotate_left 1
            · (simp only [Act.put, List.setIfInBounds_toArray, List.set_cons_zero, List.set_cons_succ]; rfl)
            refine pureF (v := undef) 21 (some 42) #[true, true, true, true, true, true, true, true, true, true, true, true, true, true, true, true, true, true, true, true, true, true, false, false, false, false, false, false] ?_ rfl rfl (by kernel_rfl) (fun _ _ _ h => h) ⟨Or.inr ⟨by rfl, rfl⟩, fun _ _ _ => trivial⟩ ?_ ?_
            rotate_left 1
            · (simp only [Act.put, List.setIfInBounds_toArray, List.set_cons_zero, List.set_cons_succ]; rfl)
            refine pureF (v := undef) 22 (some 43) #[true, true, true, true, true, true, true, true, true, true, true, true, true, true, true, true, true, true, true, true, true, true, true, false, false, false, false, false] ?_ rfl rfl (by kernel_rfl) (fun _ _ _ h => h) ⟨Or.inr ⟨by rfl, rfl⟩, fun _ _ _ => trivial⟩ ?_ ?_
            rotate_left 1
            · (simp only [Act.put, List.setIfInBounds_toArray, List.set_cons_zero, List.set_cons_succ]; rfl)
            refine pureF (v := undef) 23 (some 44) #[true, true, true, true, true, true, true, true, true, true, true, true, true, true, true, true, true, true, true, true, true, true, true, true, false, false, false, false] ?_ rfl rfl (by kernel_rfl) (fun _ _ _ h => h) ⟨Or.inr ⟨by rfl, rfl⟩, fun _ _ _ => trivial⟩ ?_ ?_
            rotate_left 1
            · (simp only [Act.put, List.setIfInBounds_toArray, List.set_cons_zero, List.set_cons_succ]; rfl)
            refine pureF (v := undef) 24 (some 45) #[true, true, true, true, true, true, true, true, true, true, true, true, true, true, true, true, true, true, true, true, true, true, true, true, true, false, false, false] ?_ rfl rfl (by kernel_rfl) (fun _ _ _ h => h) ⟨Or.inr ⟨by rfl, rfl⟩, fun _ _ _ => trivial⟩ ?_ ?_
            rotate_left 1
            · (simp only [Act.put, List.setIfInBounds_toArray, List.set_cons_zero, List.set_cons_succ]; rfl)
            refine pureF (v := undef) 25 (some 46) #[true, true, true, true, true, true, true, true, true, true, true, true, true, true, true, true, true, true, true, true, true, true, true, true, true, true, false, false] ?_ rfl rfl (by kernel_rfl) (fun _ _ _ h => h) ⟨Or.inr ⟨by rfl, rfl⟩, fun _ _ _ => trivial⟩ ?_ ?_
            rotate_left 1
            · (simp only [Act.put, List.setIfInBounds_toArray, List.set_cons_zero, List.set_cons_succ]; rfl)
            refine pureF (v := ?_) 26 (some 47) #[true, true, true, true, true, true, true, true, true, true, true, true, true, true, true, true, true, true, true, true, true, true, true, true, true, true, true, false] ?_ rfl rfl (by kernel_rfl) (fun _ _ _ h => h) ⟨Or.inl ⟨by rfl, ?_⟩, fun _ _ _ => trivial⟩ ?_ ?_
            rotate_left 2
            · (intro w' _; go_simp; with_reducible rfl)
            · (simp only [Act.put, List.setIfInBounds_toArray, List.set_cons_zero, List.set_cons_succ]; rfl)
            refine pureF (v := ?_) 27 (some 10) #[true, true, true, true, true, true, true, true, true, true, true, true, true, true, true, true, true, true, true, true, true, true, true, true, true, true, true, true] ?_ rfl rfl (by kernel_rfl) (fun _ _ _ h => h) ⟨Or.inl ⟨by rfl, ?_⟩, fun _ _ _ => trivial⟩ ?_ ?_
            rotate_left 2
            · (intro w' _; go_simp; with_reducible rfl)
            · (simp only [Act.put, List.setIfInBounds_toArray, List.set_cons_zero, List.set_cons_succ]; rfl)
            clear hHeld
            refine doneF (by kernel_rfl) ?_
            go_wp2
            go_ret
            exact ⟨rfl, below_drew1 (below_drew1 HB2.out)⟩
        · have H2 : (z.f0 == 1) = false := by simp [g2]
          have e : res = false := by rw [← hres]; simp [hear4B, g2]
          subst e
          clear hres g1 g2 hnear
          go_upto_region 2 with (fail)
          refine (wpIn_wide (n := 5)).1 ?_
          refine startF (fun w' => w'.cell? ⟨w.heap.size + 1, 0, none⟩ = some (.int .i64 y.f0) ∧ w'.cell? ⟨w.heap.size + 1, 1, none⟩ = some (.int .i64 y.f1) ∧ w'.cell? ⟨w.heap.size, 0, none⟩ = some (.int .i64 z.f0) ∧ w'.cell? ⟨w.heap.size, 1, none⟩ = some (.int .i64 z.f1) ∧ w'.cell? (bd.add (a3.toNat * 2)) = some (.int .i64 p.f0) ∧ w'.cell? ⟨(bd.add (a3.toNat * 2)).block, (bd.add (a3.toNat * 2)).off + 1, none⟩ = some (.int .i64 p.f1) ∧ w'.cell? (bd.add (a4.toNat * 2)) = some (.int .i64 q.f0) ∧ w'.cell? ⟨(bd.add (a4.toNat * 2)).block, (bd.add (a4.toNat * 2)).off + 1, none⟩ = some (.int .i64 q.f1)) [] #[false, false, false, false, false, false, false, false, false, false, false, false, false, false, false, false, false, false, false, false, false, false, false, false, false, false, false, false] 28 (by kernel_rfl) (by kernel_rfl) ⟨b0, b1, d0, d1, r0, r1, t0, t1⟩ (fun hHeld => ?_)
          refine takeF (v := ?_) 0 (some 21) #[true, false, false, false, false, false, false, false, false, false, false, false, false, false, false, false, false, false, false, false, false, false, false, false, false, false, false, false] ?_ rfl rfl (by kernel_rfl) (fun _ _ _ h => h) ⟨Or.inl ⟨by rfl, ?_⟩, fun _ _ _ => trivial⟩ ?_ hHeld ?_
          rotate_left 2
          · (rintro w' ⟨s0, s1, s2, s3, s4, s5, s6, s7⟩; go_simp; with_reducible rfl)
          · (simp only [Act.put, List.setIfInBounds_toArray, List.set_cons_zero, List.set_cons_succ]; rfl)
          refine takeF (v := ?_) 1 (some 22) #[true, true, false, false, false, false, false, false, false, false, false, false, false, false, false, false, false, false, false, false, false, false, false, false, false, false, false, false] ?_ rfl rfl (by kernel_rfl) (fun _ _ _ h => h) ⟨Or.inl ⟨by rfl, ?_⟩, fun _ _ _ => trivial⟩ ?_ hHeld ?_
          rotate_left 2
          · (rintro w' ⟨s0, s1, s2, s3, s4, s5, s6, s7⟩; go_simp; with_reducible rfl)
          · (simp only [Act.put, List.setIfInBounds_toArray, List.set_cons_zero, List.set_cons_succ]; rfl)
          refine takeF (v := ?_) 2 (some 23) #[true, true, true, false, false, false, false, false, false, false, false, false, false, false, false, false, false, false, false, false, false, false, false, false, false, false, false, false] ?_ rfl rfl (by kernel_rfl) (fun _ _ _ h => h) ⟨Or.inl ⟨by rfl, ?_⟩, fun _ _ _ => trivial⟩ ?_ hHeld ?_
          rotate_left 2
          · (rintro w' ⟨s0, s1, s2, s3, s4, s5, s6, s7⟩; go_simp; with_reducible rfl)
          · (simp only [Act.put, List.setIfInBounds_toArray, List.set_cons_zero, List.set_cons_succ]; rfl)
          refine takeF (v := ?_) 3 (some 24) #[true, true, true, true, false, false, false, false, false, false, false, false, false, false, false, false, false, false, false, false, false, false, false, false, false, false, false, false] ?_ rfl rfl (by kernel_rfl) (fun _ _ _ h => h) ⟨Or.inl ⟨by rfl, ?_⟩, fun _ _ _ => trivial⟩ ?_ hHeld ?_
          rotate_left 2
          · (rintro w' ⟨s0, s1, s2, s3, s4, s5, s6, s7⟩; go_simp; with_reducible rfl)
          · (simp only [Act.put, List.setIfInBounds_toArray, List.set_cons_zero, List.set_cons_succ]; rfl)
          refine takeF (v := ?_) 4 (some 25) #[true, true, true, true, true, false, false, false, false, false, false, false, false, false, false, false, false, false, false, false, false, false, false, false, false, false, false, false] ?_ rfl rfl (by kernel_rfl) (fun _ _ _ h => h) ⟨Or.inl ⟨by rfl, ?_⟩, fun _ _ _ => trivial⟩ ?_ hHeld ?_
          rotate_left 2
          · (rintro w' ⟨s0, s1, s2, s3, s4, s5, s6, s7⟩; go_simp; with_reducible rfl)
          · (simp only [Act.put, List.setIfInBounds_toArray, List.set_cons_zero, List.set_cons_succ]; rfl)
          refine takeF (v := ?_) 5 (some 26) #[true, true, true, true, true, true, false, false, false, false, false, false, false, false, false, false, false, false, false, false, false, false, false, false, false, false, false, false] ?_ rfl rfl (by kernel_rfl) (fun _ _ _ h => h) ⟨Or.inl ⟨by rfl, ?_⟩, fun _ _ _ => trivial⟩ ?_ hHeld ?_
          rotate_left 2
          · (rintro w' ⟨s0, s1, s2, s3, s4, s5, s6, s7⟩; go_simp; with_reducible rfl)
          · (simp only [Act.put, List.setIfInBounds_toArray, List.set_cons_zero, List.set_cons_succ]; rfl)
          refine takeF (v := ?_) 6 (some 27) #[true, true, true, true, true, true, true, false, false, false, false, false, false, false, false, false, false, false, false, false, false, false, false, false, false, false, false, false] ?_ rfl rfl (by kernel_rfl) (fun _ _ _ h => h) ⟨Or.inl ⟨by rfl, ?_⟩, fun _ _ _ => trivial⟩ ?_ hHeld ?_
          rotate_left 2
          · (rintro w' ⟨s0, s1, s2, s3, s4, s5, s6, s7⟩; go_simp; with_reducible rfl)
          · (simp only [Act.put, List.setIfInBounds_toArray, List.set_cons_zero, List.set_cons_succ]; rfl)
          refine takeF (v := ?_) 7 (some 28) #[true, true, true, true, true, true, true, true, false, false, false, false, false, false, false, false, false, false, false, false, false, false, false, false, false, false, false, false] ?_ rfl rfl (by kernel_rfl) (fun _ _ _ h => h) ⟨Or.inl ⟨by rfl, ?_⟩, fun _ _ _ => trivial⟩ ?_ hHeld ?_
          rotate_left 2
          · (rintro w' ⟨s0, s1, s2, s3, s4, s5, s6, s7⟩; go_simp; with_reducible rfl)
          · (simp only [Act.put, List.setIfInBounds_toArray, List.set_cons_zero, List.set_cons_succ]; rfl)
          refine takeF (v := ?_) 8 (some 29) #[true, true, true, true, true, true, true, true, true, false, false, false, false, false, false, false, false, false, false, false, false, false, false, false, false, false, false, false] ?_ rfl rfl (by kernel_rfl) (fun _ _ _ h => h) ⟨Or.inl ⟨by rfl, ?_⟩, fun _ _ _ => trivial⟩ ?_ hHeld ?_
          rotate_left 2
          · (rintro w' ⟨s0, s1, s2, s3, s4, s5, s6, s7⟩; go_simp; with_reducible rfl)
          · (simp only [Act.put, List.setIfInBounds_toArray, List.set_cons_zero, List.set_cons_succ]; rfl)
          refine pureF (v := undef) 9 (some 30) #[true, true, true, true, true, true, true, true, true, true, false, false, false, false, false, false, false, false, false, false, false, false, false, false, false, false, false, false] ?_ rfl rfl (by kernel_rfl) (fun _ _ _ h => h) ⟨Or.inr ⟨by rfl, rfl⟩, fun _ _ _ => trivial⟩ ?_ ?_
          rotate_left 1
          · (simp only [Act.put, List.setIfInBounds_toArray, List.set_cons_zero, List.set_cons_succ]; rfl)
          refine pureF (v := undef) 10 (some 31) #[true, true, true, true, true, true, true, true, true, true, true, false, false, false, false, false, false, false, false, false, false, false, false, false, false, false, false, false] ?_ rfl rfl (by kernel_rfl) (fun _ _ _ h => h) ⟨Or.inr ⟨by rfl, rfl⟩, fun _ _ _ => trivial⟩ ?_ ?_
          rotate_left 1
          · (simp only [Act.put, List.setIfInBounds_toArray, List.set_cons_zero, List.set_cons_succ]; rfl)
          refine pureF (v := undef) 11 (some 32) #[true, true, true, true, true, true, true, true, true, true, true, true, false, false, false, false, false, false, false, false, false, false, false, false, false, false, false, false] ?_ rfl rfl (by kernel_rfl) (fun _ _ _ h => h) ⟨Or.inr ⟨by rfl, rfl⟩, fun _ _ _ => trivial⟩ ?_ ?_
          rotate_left 1
          · (simp only [Act.put, List.setIfInBounds_toArray, List.set_cons_zero, List.set_cons_succ]; rfl)
          refine pureF (v := undef) 12 (some 33) #[true, true, true, true, true, true, true, true, true, true, true, true, true, false, false, false, false, false, false, false, false, false, false, false, false, false, false, false] ?_ rfl rfl (by kernel_rfl) (fun _ _ _ h => h) ⟨Or.inr ⟨by rfl, rfl⟩, fun _ _ _ => trivial⟩ ?_ ?_
          rotate_left 1
          · (simp only [Act.put, List.setIfInBounds_toArray, List.set_cons_zero, List.set_cons_succ]; rfl)
          refine pureF (v := undef) 13 (some 34) #[true, true, true, true, true, true, true, true, true, true, true, true, true, true, false, false, false, false, false, false, false, false, false, false, false, false, false, false] ?_ rfl rfl (by kernel_rfl) (fun _ _ _ h => h) ⟨Or.inr ⟨by rfl, rfl⟩, fun _ _ _ => trivial⟩ ?_ ?_
          rotate_left 1
          · (simp only [Act.put, List.setIfInBounds_toArray, List.set_cons_zero, List.set_cons_succ]; rfl)
          refine pureF (v := ?_) 14 (some 35) #[true, true, true, true, true, true, true, true, true, true, true, true, true, true, true, false, false, false, false, false, false, false, false, false, false, false, false, false] ?_ rfl rfl (by kernel_rfl) (fun _ _ _ h => h) ⟨Or.inl ⟨by rfl, ?_⟩, fun _ _ _ => trivial⟩ ?_ ?_
          rotate_left 2
          · (intro w' _; go_simp; with_reducible rfl)
          · (simp only [Act.put, List.setIfInBounds_toArray, List.set_cons_zero, List.set_cons_succ]; rfl)
          refine pureF (v := ?_) 15 (some 36) #[true, true, true, true, true, true, true, true, true, true, true, true, true, true, true, true, false, false, false, false, false, false, false, false, false, false, false, false] ?_ rfl rfl (by kernel_rfl) (fun _ _ _ h => h) ⟨Or.inl ⟨by rfl, ?_⟩, fun _ _ _ => trivial⟩ ?_ ?_
          rotate_left 2
          · (intro w' _; go_simp; with_reducible rfl)
          · (simp only [Act.put, List.setIfInBounds_toArray, List.set_cons_zero, List.set_cons_succ]; rfl)
          refine pureF (v := undef) 16 (some 37) #[true, true, true, true, true, true, true, true, true, true, true, true, true, true, true, true, true, false, false, false, false, false, false, false, false, false, false, false] ?_ rfl rfl (by kernel_rfl) (fun _ _ _ h => h) ⟨Or.inr ⟨by rfl, rfl⟩, fun _ _ _ => trivial⟩ ?_ ?_
          rotate_left 1
          · (simp only [Act.put, List.setIfInBounds_toArray, List.set_cons_zero, List.set_cons_succ]; rfl)
          refine pureF (v := undef) 17 (some 38) #[true, true, true, true, true, true, true, true, true, true, true, true, true, true, true, true, true, true, false, false, false, false, false, false, false, false, false, false] ?_ rfl rfl (by kernel_rfl) (fun _ _ _ h => h) ⟨Or.inr ⟨by rfl, rfl⟩, fun _ _ _ => trivial⟩ ?_ ?_
          rotate_left 1
          · (simp only [Act.put, List.setIfInBounds_toArray, List.set_cons_zero, List.set_cons_succ]; rfl)
          refine pureF (v := undef) 18 (some 39) #[true, true, true, true, true, true, true, true, true, true, true, true, true, true, true, true, true, true, true, false, false, false, false, false, false, false, false, false] ?_ rfl rfl (by kernel_rfl) (fun _ _ _ h => h) ⟨Or.inr ⟨by rfl, rfl⟩, fun _ _ _ => trivial⟩ ?_ ?_
          rotate_left 1
          · (simp only [Act.put, List.setIfInBounds_toArray, List.set_cons_zero, List.set_cons_succ]; rfl)
          refine pureF (v := undef) 19 (some 40) #[true, true, true, true, true, true, true, true, true, true, true, true, true, true, true, true, true, true, true, true, false, false, false, false, false, false, false, false] ?_ rfl rfl (by kernel_rfl) (fun _ _ _ h => h) ⟨Or.inr ⟨by rfl, rfl⟩, fun _ _ _ => trivial⟩ ?_ ?_
          rotate_left 1
          · (simp only [Act.put, List.setIfInBounds_toArray, List.set_cons_zero, List.set_cons_succ]; rfl)
          refine pureF (v := undef) 20 (some 41) #[true, true, true, true, true, true, true, true, true, true, true, true, true, true, true, true, true, true, true, true, true, false, false, false, false, false, false, false] ?_ rfl rfl (by kernel_rfl) (fun _ _ _ h => h) ⟨Or.inr ⟨by rfl, rfl⟩, fun _ _ _ => trivial⟩ ?_ ?_
          rotate_left 1
          · (simp only [Act.put, List.setIfInBounds_toArray, List.set_cons_zero, List.set_cons_succ]; rfl)
          refine pureF (v := undef) 21 (some 42) #[true, true, true, true, true, true, true, true, true, true, true, true, true, true, true, true, true, true, true, true, true, true, false, false, false, false, false, false] ?_ rfl rfl (by kernel_rfl) (fun _ _ _ h => h) ⟨Or.inr ⟨by rfl, rfl⟩, fun _ _ _ => trivial⟩ ?_ ?_
          rotate_left 1
          · (simp only [Act.put, List.setIfInBounds_toArray, List.set_cons_zero, List.set_cons_succ]; rfl)
          refine pureF (v := undef) 22 (some 43) #[true, true, true, true, true, true, true, true, true, true, true, true, true, true, true, true, true, true, true, true, true, true, true, false, false, false, false, false] ?_ rfl rfl (by kernel_rfl) (fun _ _ _ h => h) ⟨Or.inr ⟨by rfl, rfl⟩, fun _ _ _ => trivial⟩ ?_ ?_
          rotate_left 1
          · (simp only [Act.put, List.setIfInBounds_toArray, List.set_cons_zero, List.set_cons_succ]; rfl)
          refine pureF (v := undef) 23 (some 44) #[true, true, true, true, true, true, true, true, true, true, true, true, true, true, true, true, true, true, true, true, true, true, true, true, false, false, false, false] ?_ rfl rfl (by kernel_rfl) (fun _ _ _ h => h) ⟨Or.inr ⟨by rfl, rfl⟩, fun _ _ _ => trivial⟩ ?_ ?_
          rotate_left 1
          · (simp only [Act.put, List.setIfInBounds_toArray, List.set_cons_zero, List.set_cons_succ]; rfl)
          refine pureF (v := undef) 24 (some 45) #[true, true, true, true, true, true, true, true, true, true, true, true, true, true, true, true, true, true, true, true, true, true, true, true, true, false, false, false] ?_ rfl rfl (by kernel_rfl) (fun _ _ _ h => h) ⟨Or.inr ⟨by rfl, rfl⟩, fun _ _ _ => trivial⟩ ?_ ?_
          rotate_left 1
          · (simp only [Act.put, List.setIfInBounds_toArray, List.set_cons_zero, List.set_cons_succ]; rfl)
          refine pureF (v := undef) 25 (some 46) #[true, true, true, true, true, true, true, true, true, true, true, true, true, true, true, true, true, true, true, true, true, true, true, true, true, true, false, false] ?_ rfl rfl (by kernel_rfl) (fun _ _ _ h => h) ⟨Or.inr ⟨by rfl, rfl⟩, fun _ _ _ => trivial⟩ ?_ ?_
          rotate_left 1
          · (simp only [Act.put, List.setIfInBounds_toArray, List.set_cons_zero, List.set_cons_succ]; rfl)
          refine pureF (v := ?_) 26 (some 47) #[true, true, true, true, true, true, true, true, true, true, true, true, true, true, true, true, true, true, true, true, true, true, true, true, true, true, true, false] ?_ rfl rfl (by kernel_rfl) (fun _ _ _ h => h) ⟨Or.inl ⟨by rfl, ?_⟩, fun _ _ _ => trivial⟩ ?_ ?_
          rotate_left 2
          · (intro w' _; go_simp; with_reducible rfl)
          · (simp only [Act.put, List.setIfInBounds_toArray, List.set_cons_zero, List.set_cons_succ]; rfl)
          refine pureF (v := ?_) 27 (some 10) #[true, true, true, true, true, true, true, true, true, true, true, true, true, true, true, true, true, true, true, true, true, true, true, true, true, true, true, true] ?_ rfl rfl (by kernel_rfl) (fun _ _ _ h => h) ⟨Or.inl ⟨by rfl, ?_⟩, fun _ _ _ => trivial⟩ ?_ ?_
          rotate_left 2
          · (intro w' _; go_simp; with_reducible rfl)
          · (simp only [Act.put, List.setIfInBounds_toArray, List.set_cons_zero, List.set_cons_succ]; rfl)
          clear hHeld
          refine doneF (by kernel_rfl) ?_
          go_wp2
          go_ret
          exact ⟨rfl, below_drew1 (below_drew1 HB2.out)⟩
      · have H1 : (y.f0 == 2) = false := by simp [g1]
        have e : res = false := by rw [← hres]; simp [hear4B, g1]
        subst e
        clear hres g1 hnear
        go_upto_region 2 with (fail)
        refine (wpIn_wide (n := 5)).1 ?_
        refine startF (fun w' => w'.cell? ⟨w.heap.size + 1, 0, none⟩ = some (.int .i64 y.f0) ∧ w'.cell? ⟨w.heap.size + 1, 1, none⟩ = some (.int .i64 y.f1) ∧ w'.cell? ⟨w.heap.size, 0, none⟩ = some (.int .i64 z.f0) ∧ w'.cell? ⟨w.heap.size, 1, none⟩ = some (.int .i64 z.f1) ∧ w'.cell? (bd.add (a3.toNat * 2)) = some (.int .i64 p.f0) ∧ w'.cell? ⟨(bd.add (a3.toNat * 2)).block, (bd.add (a3.toNat * 2)).off + 1, none⟩ = some (.int .i64 p.f1) ∧ w'.cell? (bd.add (a4.toNat * 2)) = some (.int .i64 q.f0) ∧ w'.cell? ⟨(bd.add (a4.toNat * 2)).block, (bd.add (a4.toNat * 2)).off + 1, none⟩ = some (.int .i64 q.f1)) [] #[false, false, false, false, false, false, false, false, false, false, false, false, false, false, false, false, false, false, false, false, false, false, false, false, false, false, false, false] 28 (by kernel_rfl) (by kernel_rfl) ⟨b0, b1, d0, d1, r0, r1, t0, t1⟩ (fun hHeld => ?_)
        refine takeF (v := ?_) 0 (some 21) #[true, false, false, false, false, false, false, false, false, false, false, false, false, false, false, false, false, false, false, false, false, false, false, false, false, false, false, false] ?_ rfl rfl (by kernel_rfl) (fun _ _ _ h => h) ⟨Or.inl ⟨by rfl, ?_⟩, fun _ _ _ => trivial⟩ ?_ hHeld ?_
        rotate_left 2
        · (rintro w' ⟨s0, s1, s2, s3, s4, s5, s6, s7⟩; go_simp; with_reducible rfl)
        · (simp only [Act.put, List.setIfInBounds_toArray, List.set_cons_zero, List.set_cons_succ]; rfl)
        refine takeF (v := ?_) 1 (some 22) #[true, true, false, false, false, false, false, false, false, false, false, false, false, false, false, false, false, false, false, false, false, false, false, false, false, false, false, false] ?_ rfl rfl (by kernel_rfl) (fun _ _ _ h => h) ⟨Or.inl ⟨by rfl, ?_⟩, fun _ _ _ => trivial⟩ ?_ hHeld ?_
        rotate_left 2
        · (rintro w' ⟨s0, s1, s2, s3, s4, s5, s6, s7⟩; go_simp; with_reducible rfl)
        · (simp only [Act.put, List.setIfInBounds_toArray, List.set_cons_zero, List.set_cons_succ]; rfl)
        refine takeF (v := ?_) 2 (some 23) #[true, true, true, false, false, false, false, false, false, false, false, false, false, false, false, false, false, false, false, false, false, false, false, false, false, false, false, false] ?_ rfl rfl (by kernel_rfl) (fun _ _ _ h => h) ⟨Or.inl ⟨by rfl, ?_⟩, fun _ _ _ => trivial⟩ ?_ hHeld ?_
        rotate_left 2
        · (rintro w' ⟨s0, s1, s2, s3, s4, s5, s6, s7⟩; go_simp; with_reducible rfl)
        · (simp only [Act.put, List.setIfInBounds_toArray, List.set_cons_zero, List.set_cons_succ]; rfl)
        refine takeF (v := ?_) 3 (some 24) #[true, true, true, true, false, false, false, false, false, false, false, false, false, false, false, false, false, false, false, false, false, false, false, false, false, false, false, false] ?_ rfl rfl (by kernel_rfl) (fun _ _ _ h => h) ⟨Or.inl ⟨by rfl, ?_⟩, fun _ _ _ => trivial⟩ ?_ hHeld ?_
        rotate_left 2
        · (rintro w' ⟨s0, s1, s2, s3, s4, s5, s6, s7⟩; go_simp; with_reducible rfl)
        · (simp only [Act.put, List.setIfInBounds_toArray, List.set_cons_zero, List.set_cons_succ]; rfl)
        refine pureF (v := undef) 4 (some 25) #[true, true, true, true, true, false, false, false, false, false, false, false, false, false, false, false, false, false, false, false, false, false, false, false, false, false, false, false] ?_ rfl rfl (by kernel_rfl) (fun _ _ _ h => h) ⟨Or.inr ⟨by rfl, rfl⟩, fun _ _ _ => trivial⟩ ?_ ?_
        rotate_left 1
        · (simp only [Act.put, List.setIfInBounds_toArray, List.set_cons_zero, List.set_cons_succ]; rfl)
        refine pureF (v := undef) 5 (some 26) #[true, true, true, true, true, true, false, false, false, false, false, false, false, false, false, false, false, false, false, false, false, false, false, false, false, false, false, false] ?_ rfl rfl (by kernel_rfl) (fun _ _ _ h => h) ⟨Or.inr ⟨by rfl, rfl⟩, fun _ _ _ => trivial⟩ ?_ ?_
        rotate_left 1
        · (simp only [Act.put, List.setIfInBounds_toArray, List.set_cons_zero, List.set_cons_succ]; rfl)
        refine pureF (v := undef) 6 (some 27) #[true, true, true, true, true, true, true, false, false, false, false, false, false, false, false, false, false, false, false, false, false, false, false, false, false, false, false, false] ?_ rfl rfl (by kernel_rfl) (fun _ _ _ h => h) ⟨Or.inr ⟨by rfl, rfl⟩, fun _ _ _ => trivial⟩ ?_ ?_
        rotate_left 1
        · (simp only [Act.put, List.setIfInBounds_toArray, List.set_cons_zero, List.set_cons_succ]; rfl)
        refine pureF (v := ?_) 7 (some 28) #[true, true, true, true, true, true, true, true, false, false, false, false, false, false, false, false, false, false, false, false, false, false, false, false, false, false, false, false] ?_ rfl rfl (by kernel_rfl) (fun _ _ _ h => h) ⟨Or.inl ⟨by rfl, ?_⟩, fun _ _ _ => trivial⟩ ?_ ?_
        rotate_left 2
        · (intro w' _; go_simp; with_reducible rfl)
        · (simp only [Act.put, List.setIfInBounds_toArray, List.set_cons_zero, List.set_cons_succ]; rfl)
        refine pureF (v := ?_) 8 (some 29) #[true, true, true, true, true, true, true, true, true, false, false, false, false, false, false, false, false, false, false, false, false, false, false, false, false, false, false, false] ?_ rfl rfl (by kernel_rfl) (fun _ _ _ h => h) ⟨Or.inl ⟨by rfl, ?_⟩, fun _ _ _ => trivial⟩ ?_ ?_
        rotate_left 2
        · (intro w' _; go_simp; with_reducible rfl)
        · (simp only [Act.put, List.setIfInBounds_toArray, List.set_cons_zero, List.set_cons_succ]; rfl)
        refine pureF (v := undef) 9 (some 30) #[true, true, true, true, true, true, true, true, true, true, false, false, false, false, false, false, false, false, false, false, false, false, false, false, false, false, false, false] ?_ rfl rfl (by kernel_rfl) (fun _ _ _ h => h) ⟨Or.inr ⟨by rfl, rfl⟩, fun _ _ _ => trivial⟩ ?_ ?_
        rotate_left 1
        · (simp only [Act.put, List.setIfInBounds_toArray, List.set_cons_zero, List.set_cons_succ]; rfl)
        refine pureF (v := undef) 10 (some 31) #[true, true, true, true, true, true, true, true, true, true, true, false, false, false, false, false, false, false, false, false, false, false, false, false, false, false, false, false] ?_ rfl rfl (by kernel_rfl) (fun _ _ _ h => h) ⟨Or.inr ⟨by rfl, rfl⟩, fun _ _ _ => trivial⟩ ?_ ?_
        rotate_left 1
        · (simp only [Act.put, List.setIfInBounds_toArray, List.set_cons_zero, List.set_cons_succ]; rfl)
        refine pureF (v := undef) 11 (some 32) #[true, true, true, true, true, true, true, true, true, true, true, true, false, false, false, false, false, false, false, false, false, false, false, false, false, false, false, false] ?_ rfl rfl (by kernel_rfl) (fun _ _ _ h => h) ⟨Or.inr ⟨by rfl, rfl⟩, fun _ _ _ => trivial⟩ ?_ ?_
        rotate_left 1
        · (simp only [Act.put, List.setIfInBounds_toArray, List.set_cons_zero, List.set_cons_succ]; rfl)
        refine pureF (v := undef) 12 (some 33) #[true, true, true, true, true, true, true, true, true, true, true, true, true, false, false, false, false, false, false, false, false, false, false, false, false, false, false, false] ?_ rfl rfl (by kernel_rfl) (fun _ _ _ h => h) ⟨Or.inr ⟨by rfl, rfl⟩, fun _ _ _ => trivial⟩ ?_ ?_
        rotate_left 1
        · (simp only [Act.put, List.setIfInBounds_toArray, List.set_cons_zero, List.set_cons_succ]; rfl)
        refine pureF (v := undef) 13 (some 34) #[true, true, true, true, true, true, true, true, true, true, true, true, true, true, false, false, false, false, false, false, false, false, false, false, false, false, false, false] ?_ rfl rfl (by kernel_rfl) (fun _ _ _ h => h) ⟨Or.inr ⟨by rfl, rfl⟩, fun _ _ _ => trivial⟩ ?_ ?_
        rotate_left 1
        · (simp only [Act.put, List.setIfInBounds_toArray, List.set_cons_zero, List.set_cons_succ]; rfl)
        refine pureF (v := ?_) 14 (some 35) #[true, true, true, true, true, true, true, true, true, true, true, true, true, true, true, false, false, false, false, false, false, false, false, false, false, false, false, false] ?_ rfl rfl (by kernel_rfl) (fun _ _ _ h => h) ⟨Or.inl ⟨by rfl, ?_⟩, fun _ _ _ => trivial⟩ ?_ ?_
        rotate_left 2
        · (intro w' _; go_simp; with_reducible rfl)
        · (simp only [Act.put, List.setIfInBounds_toArray, List.set_cons_zero, List.set_cons_succ]; rfl)
        refine pureF (v := ?_) 15 (some 36) #[true, true, true, true, true, true, true, true, true, true, true, true, true, true, true, true, false, false, false, false, false, false, false, false, false, false, false, false] ?_ rfl rfl (by kernel_rfl) (fun _ _ _ h => h) ⟨Or.inl ⟨by rfl, ?_⟩, fun _ _ _ => trivial⟩ ?_ ?_
        rotate_left 2
        · (intro w' _; go_simp; with_reducible rfl)
        · (simp only [Act.put, List.setIfInBounds_toArray, List.set_cons_zero, List.set_cons_succ]; rfl)
        refine pureF (v := undef) 16 (some 37) #[true, true, true, true, true, true, true, true, true, true, true, true, true, true, true, true, true, false, false, false, false, false, false, false, false, false, false, false] ?_ rfl rfl (by kernel_rfl) (fun _ _ _ h => h) ⟨Or.inr ⟨by rfl, rfl⟩, fun _ _ _ => trivial⟩ ?_ ?_
        rotate_left 1
        · (simp only [Act.put, List.setIfInBounds_toArray, List.set_cons_zero, List.set_cons_succ]; rfl)
        refine pureF (v := undef) 17 (some 38) #[true, true, true, true, true, true, true, true, true, true, true, true, true, true, true, true, true, true, false, false, false, false, false, false, false, false, false, false] ?_ rfl rfl (by kernel_rfl) (fun _ _ _ h => h) ⟨Or.inr ⟨by rfl, rfl⟩, fun _ _ _ => trivial⟩ ?_ ?_
        rotate_left 1
        · (simp only [Act.put, List.setIfInBounds_toArray, List.set_cons_zero, List.set_cons_succ]; rfl)
        refine pureF (v := undef) 18 (some 39) #[true, true, true, true, true, true, true, true, true, true, true, true, true, true, true, true, true, true, true, false, false, false, false, false, false, false, false, false] ?_ rfl rfl (by kernel_rfl) (fun _ _ _ h => h) ⟨Or.inr ⟨by rfl, rfl⟩, fun _ _ _ => trivial⟩ ?_ ?_
        rotate_left 1
        · (simp only [Act.put, List.setIfInBounds_toArray, List.set_cons_zero, List.set_cons_succ]; rfl)
        refine pureF (v := undef) 19 (some 40) #[true, true, true, true, true, true, true, true, true, true, true, true, true, true, true, true, true, true, true, true, false, false, false, false, false, false, false, false] ?_ rfl rfl (by kernel_rfl) (fun _ _ _ h => h) ⟨Or.inr ⟨by rfl, rfl⟩, fun _ _ _ => trivial⟩ ?_ ?_
        rotate_left 1
        · (simp only [Act.put, List.setIfInBounds_toArray, List.set_cons_zero, List.set_cons_succ]; rfl)
        refine pureF (v := undef) 20 (some 41) #[true, true, true, true, true, true, true, true, true, true, true, true, true, true, true, true, true, true, true, true, true, false, false, false, false, false, false, false] ?_ rfl rfl (by kernel_rfl) (fun _ _ _ h => h) ⟨Or.inr ⟨by rfl, rfl⟩, fun _ _ _ => trivial⟩ ?_ ?_
        rotate_left 1
        · (simp only [Act.put, List.setIfInBounds_toArray, List.set_cons_zero, List.set_cons_succ]; rfl)
        refine pureF (v := undef) 21 (some 42) #[true, true, true, true, true, true, true, true, true, true, true, true, true, true, true, true, true, true, true, true, true, true, false, false, false, false, false, false] ?_ rfl rfl (by kernel_rfl) (fun _ _ _ h => h) ⟨Or.inr ⟨by rfl, rfl⟩, fun _ _ _ => trivial⟩ ?_ ?_
        rotate_left 1
        · (simp only [Act.put, List.setIfInBounds_toArray, List.set_cons_zero, List.set_cons_succ]; rfl)
        refine pureF (v := undef) 22 (some 43) #[true, true, true, true, true, true, true, true, true, true, true, true, true, true, true, true, true, true, true, true, true, true, true, false, false, false, false, false] ?_ rfl rfl (by kernel_rfl) (fun _ _ _ h => h) ⟨Or.inr ⟨by rfl, rfl⟩, fun _ _ _ => trivial⟩ ?_ ?_
        rotate_left 1
        · (simp only [Act.put, List.setIfInBounds_toArray, List.set_cons_zero, List.set_cons_succ]; rfl)
        refine pureF (v := undef) 23 (some 44) #[true, true, true, true, true, true, true, true, true, true, true, true, true, true, true, true, true, true, true, true, true, true, true, true, false, false, false, false] ?_ rfl rfl (by kernel_rfl) (fun _ _ _ h => h) ⟨Or.inr ⟨by rfl, rfl⟩, fun _ _ _ => trivial⟩ ?_ ?_
        rotate_left 1
        · (simp only [Act.put, List.setIfInBounds_toArray, List.set_cons_zero, List.set_cons_succ]; rfl)
        refine pureF (v := undef) 24 (some 45) #[true, true, true, true, true, true, true, true, true, true, true, true, true, true, true, true, true, true, true, true, true, true, true, true, true, false, false, false] ?_ rfl rfl (by kernel_rfl) (fun _ _ _ h => h) ⟨Or.inr ⟨by rfl, rfl⟩, fun _ _ _ => trivial⟩ ?_ ?_
        rotate_left 1
        · (simp only [Act.put, List.setIfInBounds_toArray, List.set_cons_zero, List.set_cons_succ]; rfl)
        refine pureF (v := undef) 25 (some 46) #[true, true, true, true, true, true, true, true, true, true, true, true, true, true, true, true, true, true, true, true, true, true, true, true, true, true, false, false] ?_ rfl rfl (by kernel_rfl) (fun _ _ _ h => h) ⟨Or.inr ⟨by rfl, rfl⟩, fun _ _ _ => trivial⟩ ?_ ?_
        rotate_left 1
        · (simp only [Act.put, List.setIfInBounds_toArray, List.set_cons_zero, List.set_cons_succ]; rfl)
        refine pureF (v := ?_) 26 (some 47) #[true, true, true, true, true, true, true, true, true, true, true, true, true, true, true, true, true, true, true, true, true, true, true, true, true, true, true, false] ?_ rfl rfl (by kernel_rfl) (fun _ _ _ h => h) ⟨Or.inl ⟨by rfl, ?_⟩, fun _ _ _ => trivial⟩ ?_ ?_
        rotate_left 2
        · (intro w' _; go_simp; with_reducible rfl)
        · (simp only [Act.put, List.setIfInBounds_toArray, List.set_cons_zero, List.set_cons_succ]; rfl)
        refine pureF (v := ?_) 27 (some 10) #[true, true, true, true, true, true, true, true, true, true, true, true, true, true, true, true, true, true, true, true, true, true, true, true, true, true, true, true] ?_ rfl rfl (by kernel_rfl) (fun _ _ _ h => h) ⟨Or.inl ⟨by rfl, ?_⟩, fun _ _ _ => trivial⟩ ?_ ?_
        rotate_left 2
        · (intro w' _; go_simp; with_reducible rfl)
        · (simp only [Act.put, List.setIfInBounds_toArray, List.set_cons_zero, List.set_cons_succ]; rfl)
        clear hHeld
        refine doneF (by kernel_rfl) ?_
        go_wp2
        go_ret
        exact ⟨rfl, below_drew1 (below_drew1 HB2.out)⟩
  · rw [if_neg hin] at h
    cases h
end Go.Proofs.Ytcgbfkplhlngjaa.PA
